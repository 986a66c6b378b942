/- The abstract executor: values, tables, memory; each operation without a call. -/
import Derived.CallsIn
import Derived.Laws.Sem
import Derived.RangeFuncLeaves
import Derived.RangeFuncCalls
import Derived.LoopNIn
import Derived.OrdersIn
import Derived.Laws.StructEq
import Derived.Laws.Strings
import Derived.Laws.Strings2
import Derived.Laws.Concat
import Derived.Laws.BytesString
set_option linter.all false
set_option linter.unusedVariables false
set_option linter.unusedSimpArgs false
set_option linter.unusedVariables false
namespace Go.AX
open Go
noncomputable section

/-! ### Tables: four ways at each step, a fixed number of steps; what lies beyond is in a list. -/
structure N (α : Type) where
  c0 : α
  c1 : α
  c2 : α
  c3 : α
/-- A digit: the part that it selects, and how that part is changed. -/
structure Dg (α : Type) where
  g : N α → α
  u : (α → α) → N α → N α
noncomputable def Dg.d0 (α : Type) : Dg α := ⟨fun t => t.c0, fun f t => N.rec (motive := fun _ => N α) (fun a b c d => ⟨f a, b, c, d⟩) t⟩
noncomputable def Dg.d1 (α : Type) : Dg α := ⟨fun t => t.c1, fun f t => N.rec (motive := fun _ => N α) (fun a b c d => ⟨a, f b, c, d⟩) t⟩
noncomputable def Dg.d2 (α : Type) : Dg α := ⟨fun t => t.c2, fun f t => N.rec (motive := fun _ => N α) (fun a b c d => ⟨a, b, f c, d⟩) t⟩
noncomputable def Dg.d3 (α : Type) : Dg α := ⟨fun t => t.c3, fun f t => N.rec (motive := fun _ => N α) (fun a b c d => ⟨a, b, c, f d⟩) t⟩
noncomputable def Dg.of (α : Type) (k : Nat) : Dg α :=
  Nat.rec (motive := fun _ => Dg α) (Dg.d0 α) (fun k _ => Nat.rec (motive := fun _ => Dg α) (Dg.d1 α) (fun k _ => Nat.rec (motive := fun _ => Dg α) (Dg.d2 α) (fun _ _ => Dg.d3 α) k) k) k
def Tr (α : Type) : Nat → Type
  | 0 => α
  | n+1 => N (Tr α n)
structure Pth (α : Type) (n : Nat) where
  g : Tr α n → α
  u : α → Tr α n → Tr α n
noncomputable def Pth.of (α : Type) (n : Nat) : Nat → Pth α n :=
  Nat.rec (motive := fun n => Nat → Pth α n) (fun _ => ⟨fun t => t, fun x _ => x⟩)
    (fun n ih k => ⟨fun t => (ih (Nat.div k 4)).g ((Dg.of (Tr α n) (Nat.mod k 4)).g t), fun x => (Dg.of (Tr α n) (Nat.mod k 4)).u ((ih (Nat.div k 4)).u x)⟩) n
noncomputable def Tr.full (α : Type) (d : α) (n : Nat) : Tr α n :=
  Nat.rec (motive := fun n => Tr α n) d (fun n ih => N.mk ih ih ih ih) n
inductive HL (α : Type) | nil (d : α) | cons (k : Nat) (x : α) (l : HL α)
structure QD (α : Type) (n : Nat) where
  t : Tr α n
  hi : HL α
def getHi {α : Type} : HL α → Nat → α
  | .nil d, _ => d
  | .cons k x l, j => match Nat.beq j k with | true => x | false => getHi l j
structure QP (α : Type) (n : Nat) where
  g : QD α n → α
  u : α → QD α n → QD α n
noncomputable def QP.of (α : Type) (n k : Nat) : QP α n :=
  Bool.rec (motive := fun _ => QP α n) ⟨fun q => getHi q.hi k, fun x q => ⟨q.t, .cons k x q.hi⟩⟩
    ⟨fun q => (Pth.of α n k).g q.t, fun x q => ⟨(Pth.of α n k).u x q.t, q.hi⟩⟩ (Nat.blt k (Nat.pow 4 n))
noncomputable def QD.get {α : Type} {n : Nat} (q : QD α n) (k : Nat) : α := (QP.of α n k).g q
noncomputable def QD.set {α : Type} {n : Nat} (q : QD α n) (k : Nat) (x : α) : QD α n := (QP.of α n k).u x q
noncomputable def QD.full {α : Type} (d : α) (n : Nat) : QD α n := ⟨Tr.full α d n, .nil d⟩

/-! ### Sparse tables: the same, but a part in which nothing lies is one sign. -/
inductive E4 (α : Type) | e | n (c0 c1 c2 c3 : α)
def ETr (α : Type) : Nat → Type
  | 0 => Option α
  | n+1 => E4 (ETr α n)
noncomputable def emp (α : Type) (n : Nat) : ETr α n := Nat.rec (motive := fun n => ETr α n) none (fun _ _ => E4.e) n
structure EDg (α : Type) where
  g : E4 α → α
  u : (α → α) → E4 α → E4 α
noncomputable def EDg.d0 (α : Type) (z : α) : EDg α := ⟨fun t => E4.rec (motive := fun _ => α) z (fun a _ _ _ => a) t, fun f t => E4.rec (motive := fun _ => E4 α) (E4.n (f z) z z z) (fun a b c d => E4.n (f a) b c d) t⟩
noncomputable def EDg.d1 (α : Type) (z : α) : EDg α := ⟨fun t => E4.rec (motive := fun _ => α) z (fun _ b _ _ => b) t, fun f t => E4.rec (motive := fun _ => E4 α) (E4.n z (f z) z z) (fun a b c d => E4.n a (f b) c d) t⟩
noncomputable def EDg.d2 (α : Type) (z : α) : EDg α := ⟨fun t => E4.rec (motive := fun _ => α) z (fun _ _ c _ => c) t, fun f t => E4.rec (motive := fun _ => E4 α) (E4.n z z (f z) z) (fun a b c d => E4.n a b (f c) d) t⟩
noncomputable def EDg.d3 (α : Type) (z : α) : EDg α := ⟨fun t => E4.rec (motive := fun _ => α) z (fun _ _ _ d => d) t, fun f t => E4.rec (motive := fun _ => E4 α) (E4.n z z z (f z)) (fun a b c d => E4.n a b c (f d)) t⟩
noncomputable def EDg.of (α : Type) (z : α) (k : Nat) : EDg α :=
  Nat.rec (motive := fun _ => EDg α) (EDg.d0 α z) (fun k _ => Nat.rec (motive := fun _ => EDg α) (EDg.d1 α z) (fun k _ => Nat.rec (motive := fun _ => EDg α) (EDg.d2 α z) (fun _ _ => EDg.d3 α z) k) k) k
structure EPth (α : Type) (n : Nat) where
  g : ETr α n → Option α
  u : Option α → ETr α n → ETr α n
noncomputable def EPth.of (α : Type) (n : Nat) : Nat → EPth α n :=
  Nat.rec (motive := fun n => Nat → EPth α n) (fun _ => ⟨fun t => t, fun x _ => x⟩)
    (fun n ih k => ⟨fun t => (ih (Nat.div k 4)).g ((EDg.of (ETr α n) (emp α n) (Nat.mod k 4)).g t), fun x => (EDg.of (ETr α n) (emp α n) (Nat.mod k 4)).u ((ih (Nat.div k 4)).u x)⟩) n
structure Q (α : Type) where
  t : ETr α 8
  hi : HL (Option α)
structure EQ (α : Type) where
  g : Q α → Option α
  u : Option α → Q α → Q α
noncomputable def EQ.of (α : Type) (k : Nat) : EQ α :=
  Bool.rec (motive := fun _ => EQ α) ⟨fun q => getHi q.hi k, fun x q => ⟨q.t, .cons k x q.hi⟩⟩
    ⟨fun q => (EPth.of α 8 k).g q.t, fun x q => ⟨(EPth.of α 8 k).u x q.t, q.hi⟩⟩ (Nat.blt k 65536)
noncomputable def Q.e {α : Type} : Q α := ⟨emp α 8, .nil none⟩
noncomputable def Q.get {α : Type} (q : Q α) (k : Nat) : Option α := (EQ.of α k).g q
noncomputable def Q.set {α : Type} (q : Q α) (k : Nat) (x : α) : Q α := (EQ.of α k).u (some x) q
noncomputable def Q.del {α : Type} (q : Q α) (k : Nat) : Q α := (EQ.of α k).u none q

inductive Cap | k (n : Nat) | rest (j : Nat)

/-- Abstract values. Blocks have numbers of their own; 'emp': some slice of length 0 that is not nil; 'junk': anything at all; 'sym': a value that is given from outside; 'key': a number that is known by a number of its own. -/
inductive AV where
  | bool (b : Bool)
  | int (k : IntKind) (n : Int)
  | str (s : List UInt8)
  | ptr (b o : Nat)
  | nilp
  | sl (b o len : Nat) (cap : Cap)
  | nils
  | emp
  | map (r : Nat) | nilm
  | func (fn : Fn) (first captured : List AV)
  | nilf
  | iface (t : TypeId) (v : AV) | nili
  | agg (cs : List AV) | tup (vs : List AV)
  | sym (i : Nat)
  | key (k : IntKind) (id : Nat)
  | junk

abbrev Tm := QD AV 4
def undefA : AV := .tup []
noncomputable def tget (t : Tm) (k : Nat) : AV := QD.get t k
noncomputable def tset (t : Tm) (k : Nat) (v : AV) : Tm := QD.set t k v

/-- A map's entry: key, value, stamp. -/
structure ME where
  k : AV
  v : AV
  born : Nat

inductive AObj where
  /-- n cells, each what m says, or else z's at the number modulo p; ext: it has more room than is known. -/
  | cells (n : Nat) (z : List AV) (p : Nat) (m : Q AV) (elem : TypeId) (ext : Bool)
  /-- cells that are never written. -/
  | rom (z : List AV)
  | map (es : List ME) (clock : Nat)
  | iter (m : Option Nat) (since : Nat) (seen : List Nat) (last : Nat)
  | siter (s : List UInt8) (pos : Nat)
  | loop (state : LoopState) (pending : Option Code) (nt : Nat) (tm : Tm) (params : List Tmp) (assign body : Code) (defers : Nat)
  | deferred
  /-- an iterator of a map of which only the last entry is known. -/
  | iterU (m : Nat) (since : Nat) (stamp : Nat) (stepped : Nat)
  /-- an iterator of which it is laid down what it gives next: the entry of a stamp, or nothing. Of no world. -/
  | iterN (m : Nat) (since : Nat) (stamp : Nat)
  | iterE
  /-- an iterator that gives out the keys of a map as numbers that are not known; 'ks': the keys, each with its stamp; 'ids': what has been given. -/
  | iterK (m : Nat) (since : Nat) (kd : IntKind) (ks : List (Nat × Nat)) (ids : List Nat) (last : Nat)
  /-- an iterator of which it is laid down what it gives next. Of no world. -/
  | iterM (m : Nat) (since : Nat) (seen : List Nat) (stamp : Nat)

structure St where
  h : Q AObj
  nx : Nat

def St.put (s : St) (b : Nat) (o : AObj) : St := ⟨s.h.set b o, s.nx⟩
def St.new (s : St) (o : AObj) : St := ⟨s.h.set s.nx o, Nat.succ s.nx⟩

inductive X | norm | ret | exit (id : Nat)

/-- What an operation comes to. -/
inductive NX where
  | val (v : AV) (s : St)
  | call (f : FuncId) (args : List AV)
  | round (l : Nat) (args : List AV)
  | bad

def byteAV (b : UInt8) : AV := .int .u8 (.ofNat b.toNat)
def isByte : List AV → Option (List UInt8)
  | [] => some []
  | v :: r => match v with
    | .int .u8 n => match isByte r with | some l => some (UInt8.ofNat n.toNat :: l) | none => none
    | _ => none

/-- Constants. -/
def abst0 : Value → AV
  | .bool b => .bool b
  | .int k n => .int k n
  | .string s => .str s.data.toList
  | .pointer none => .nilp
  | .slice none 0 0 => .nils
  | .map none => .nilm
  | .nilFunc => .nilf
  | .nilIface => .nili
  | _ => .junk
def abst : Value → AV
  | .agg cs => .agg (cs.toList.map abst0)
  | .tuple cs => .tup (cs.toList.map abst0)
  | v => abst0 v

/-- The cells of a value. -/
def cellsA : AV → Option (List AV)
  | .agg cs => some cs
  | .tup _ => none
  | .junk => none
  | v => some [v]
/-- May it lie in one cell? -/
def scalarA : AV → Bool
  | .agg _ => false
  | .tup _ => false
  | .junk => false
  | _ => true

/-! ### Integers -/
def wrapN (k : IntKind) (m : Nat) : Int :=
  match k with
  | .u64 => .ofNat (Nat.mod m 18446744073709551616)
  | .i64 => match Nat.blt m 9223372036854775808 with | true => .ofNat m | false => k.wrap (.ofNat m)
  | .u8 => .ofNat (Nat.mod m 256)
  | .u32 => .ofNat (Nat.mod m 4294967296)
  | .u16 => .ofNat (Nat.mod m 65536)
  | _ => k.wrap (.ofNat m)
def wrapI (k : IntKind) : Int → Int
  | .ofNat m => wrapN k m
  | n => k.wrap n
def addI (k : IntKind) (a b : Int) : Int := match a, b with
  | .ofNat x, .ofNat y => wrapN k (Nat.add x y)
  | a, b => k.wrap (a + b)
def subI (k : IntKind) (a b : Int) : Int := match a, b with
  | .ofNat x, .ofNat y => (match Nat.ble y x with | true => wrapN k (Nat.sub x y) | false => k.wrap (.ofNat x - .ofNat y))
  | a, b => k.wrap (a - b)
def mulI (k : IntKind) (a b : Int) : Int := match a, b with
  | .ofNat x, .ofNat y => wrapN k (Nat.mul x y)
  | a, b => k.wrap (a * b)
def pow2 : IntKind → Nat
  | .i8 | .u8 => 256
  | .i16 | .u16 => 65536
  | .i32 | .u32 => 4294967296
  | .i64 | .u64 => 18446744073709551616
def andI (k : IntKind) (a b : Int) : Int := match a, b with
  | .ofNat x, .ofNat y => wrapN k (Nat.land (Nat.mod x (pow2 k)) (Nat.mod y (pow2 k)))
  | a, b => k.wrap ((BitVec.ofInt k.bits a &&& BitVec.ofInt k.bits b).toNat : Nat)
def orI (k : IntKind) (a b : Int) : Int := match a, b with
  | .ofNat x, .ofNat y => wrapN k (Nat.lor (Nat.mod x (pow2 k)) (Nat.mod y (pow2 k)))
  | a, b => k.wrap ((BitVec.ofInt k.bits a ||| BitVec.ofInt k.bits b).toNat : Nat)
def xorI (k : IntKind) (a b : Int) : Int := match a, b with
  | .ofNat x, .ofNat y => wrapN k (Nat.xor (Nat.mod x (pow2 k)) (Nat.mod y (pow2 k)))
  | a, b => k.wrap ((BitVec.ofInt k.bits a ^^^ BitVec.ofInt k.bits b).toNat : Nat)
def andNotI (k : IntKind) (a b : Int) : Int := match a, b with
  | .ofNat x, .ofNat y => wrapN k (Nat.land (Nat.mod x (pow2 k)) (Nat.sub (Nat.sub (pow2 k) 1) (Nat.mod y (pow2 k))))
  | a, b => k.wrap ((BitVec.ofInt k.bits a &&& ~~~ BitVec.ofInt k.bits b).toNat : Nat)
def eqI (a b : Int) : Bool := match a, b with
    | .ofNat x, .ofNat y => Nat.beq x y
    | .negSucc x, .negSucc y => Nat.beq x y
    | _, _ => false
def ltI (a b : Int) : Bool := match a, b with
    | .ofNat x, .ofNat y => Nat.blt x y
    | .negSucc x, .negSucc y => Nat.blt y x
    | .negSucc _, .ofNat _ => true
    | .ofNat _, .negSucc _ => false
def intOp (op : BinOp) (k : IntKind) (a b : Int) : Option AV :=
  match op with
  | .add => some (.int k (addI k a b)) | .sub => some (.int k (subI k a b)) | .mul => some (.int k (mulI k a b))
  | .quo => (match a, b with
    | .ofNat x, .ofNat (y+1) => some (.int k (wrapN k (Nat.div x (y+1))))
    | _, _ => none)
  | .rem => (match a, b with
    | .ofNat x, .ofNat (y+1) => some (.int k (.ofNat (Nat.mod x (y+1))))
    | _, _ => none)
  | .and => some (.int k (andI k a b))
  | .or => some (.int k (orI k a b))
  | .xor => some (.int k (xorI k a b))
  | .andNot => some (.int k (andNotI k a b))
  | .eql => some (.bool (eqI a b)) | .neq => some (.bool (not (eqI a b)))
  | .lss => some (.bool (ltI a b)) | .leq => some (.bool (not (ltI b a))) | .gtr => some (.bool (ltI b a)) | .geq => some (.bool (not (ltI a b)))
  | _ => none
def shiftOp (op : BinOp) (k : IntKind) (a b : Int) : Option AV :=
  match a, b with
  | .ofNat x, .ofNat y => (match op with
    | .shl => some (.int k (wrapN k (Nat.mul x (Nat.pow 2 (Nat.min y k.bits)))))
    | .shr => some (.int k (.ofNat (Nat.div x (Nat.pow 2 (Nat.min y k.bits)))))
    | _ => none)
  | _, _ => none
def kindEq (a b : IntKind) : Bool := match a, b with
  | .i8, .i8 | .i16, .i16 | .i32, .i32 | .i64, .i64 | .u8, .u8 | .u16, .u16 | .u32, .u32 | .u64, .u64 => true
  | _, _ => false

def bytesEq : List UInt8 → List UInt8 → Bool
  | [], [] => true
  | a :: x, b :: y => match Nat.beq a.toNat b.toNat with | true => bytesEq x y | false => false
  | _, _ => false
def bytesLt : List UInt8 → List UInt8 → Bool
  | _, [] => false
  | [], _ :: _ => true
  | a :: x, b :: y => match Nat.blt a.toNat b.toNat with | true => true | false => (match Nat.beq a.toNat b.toNat with | true => bytesLt x y | false => false)

/-- Two keys of a map: of one plain kind. -/
def keyEq (kd : TypeDesc) (x y : AV) : Option Bool := match kd, x, y with
  | .int _, .int k a, .int k' b => (match kindEq k k' with | true => some (eqI a b) | false => none)
  | .string, .str a, .str b => some (bytesEq a b)
  | _, _, _ => none
def findA (kd : TypeDesc) (k : AV) : List ME → Nat → Option (Option (Nat × AV))
  | [], _ => some none
  | e :: es, i => match keyEq kd k e.k with
    | some true => some (some (i, e.v))
    | some false => findA kd k es (Nat.succ i)
    | none => none
def keyOk (kd : TypeDesc) (k : AV) : Bool := match kd, k with
  | .int _, .int _ _ => true
  | .string, .str _ => true
  | _, _ => false

def isC : Operand → Bool | .const _ => true | _ => false

/-- Two values, plainly the same. -/
def beq0 (a b : AV) : Bool := match a, b with
  | .bool x, .bool y => (match x, y with | true, true => true | false, false => true | _, _ => false)
  | .int k x, .int k' y => kindEq k k' && eqI x y
  | .str x, .str y => bytesEq x y
  | .ptr b o, .ptr b' o' => Nat.beq b b' && Nat.beq o o'
  | .nilp, .nilp => true
  | .sl b o n (.k c), .sl b' o' n' (.k c') => Nat.beq b b' && Nat.beq o o' && Nat.beq n n' && Nat.beq c c'
  | .sl b o n (.rest c), .sl b' o' n' (.rest c') => Nat.beq b b' && Nat.beq o o' && Nat.beq n n' && Nat.beq c c'
  | .nils, .nils => true
  | .emp, .emp => true
  | .map r, .map r' => Nat.beq r r'
  | .nilm, .nilm => true
  | .nilf, .nilf => true
  | .nili, .nili => true
  | .sym i, .sym j => Nat.beq i j
  | .tup [], .tup [] => true
  | _, _ => false
def all2 (f : AV → AV → Bool) : List AV → List AV → Bool
  | [], [] => true
  | a :: l, b :: m => f a b && all2 f l m
  | _, _ => false
def beqN : Nat → AV → AV → Bool
  | 0, a, b => beq0 a b
  | n+1, a, b => match a, b with
    | .agg l, .agg m => all2 (beqN n) l m
    | .tup l, .tup m => all2 (beqN n) l m
    | .iface t a, .iface u b => Nat.beq t u && beqN n a b
    | .func (.func f) a c, .func (.func g) b d => Nat.beq f g && all2 (beqN n) a b && all2 (beqN n) c d
    | a, b => beq0 a b
def beqA (a b : AV) : Bool := beqN 5 a b

/-- Equality of two values of a type that is neither an integer nor a string. 'c': is one of the two operands a constant? -/
def eqA (td : TypeDesc) (c : Bool) (s : St) (a b : AV) : Option Bool :=
  match td, a, b with
  | .bool, .bool x, .bool y => some (match x, y with | true, true => true | false, false => true | _, _ => false)
  | .pointer _, .nilp, .nilp => some true
  | .pointer _, .nilp, .ptr .. => some false
  | .pointer _, .ptr .., .nilp => some false
  | .interface _, .nili, .nili => (match c with | true => some true | false => none)
  | .interface _, .nili, .iface .. => some false
  | .interface _, .iface .., .nili => some false
  | .slice _, .nils, .nils => some true
  | .slice _, .nils, .sl .. => some false
  | .slice _, .sl .., .nils => some false
  | .slice _, .nils, .emp => some false
  | .slice _, .emp, .nils => some false
  | .map _ _, .nilm, .nilm => some true
  | .map _ _, .nilm, .map _ => some false
  | .map _ _, .map _, .nilm => some false
  | .func .., .nilf, .nilf => some true
  | .func .., .nilf, .func .. => some false
  | .func .., .func .., .nilf => some false
  | _, _, _ => none

def asN : AV → Option Nat
  | .int _ (.ofNat n) => some n
  | _ => none

section
variable (P : Program)

def sizeOfT (t : TypeId) : Option Nat := match P.info? t with | some i => some i.size | none => none
def isAggT (t : TypeId) : Option Bool := match P.underlying t with | some (.struct _) => some true | some (.array ..) => some true | some _ => some false | none => none
def partA (t : TypeId) (cs : List AV) (off : Nat) : Option AV :=
  match isAggT P t with
  | some true => (match sizeOfT P t with | some n => some (.agg ((cs.drop off).take n)) | none => none)
  | some false => cs[off]?
  | none => none
/-- Two values of one cell, compared. -/
def eqS (t : TypeId) (a b : AV) : Option Bool := match P.underlying t, a, b with
  | some .bool, .bool x, .bool y => some (match x, y with | true, true => true | false, false => true | _, _ => false)
  | some (.int _), .int k x, .int k' y => (match kindEq k k' with | true => some (eqI x y) | false => none)
  | some .string, .str x, .str y => some (bytesEq x y)
  | _, _, _ => none
def eqFs (xs ys : List AV) : List Field → Option Bool
  | [] => some true
  | f :: fs => match f.name == "_" with
    | true => none
    | false => (match partA P f.type xs f.offset, partA P f.type ys f.offset with
      | some a, some b => (match eqS P f.type a b with
        | some true => eqFs xs ys fs
        | some false => some false
        | none => none)
      | _, _ => none)
def eqArr (e : TypeId) : List AV → List AV → Option Bool
  | [], [] => some true
  | a :: l, b :: m => (match eqS P e a b with
    | some true => eqArr e l m
    | some false => some false
    | none => none)
  | _, _ => none
/-- Two structs, two arrays. -/
def eqAggA (ty : TypeId) (td : TypeDesc) (a b : AV) : Option Bool := match a, b with
  | .agg xs, .agg ys => (match P.eqGuardType P.depth ty with
    | true => none
    | false => (match td with
      | .struct fields => (match P.stoodInHeld ty with | true => none | false => eqFs P xs ys fields.toList)
      | .array n e => (match isAggT P e, sizeOfT P e, Nat.beq xs.length n && Nat.beq ys.length n with
        | some false, some 1, true => eqArr P e xs ys
        | _, _, _ => none)
      | _ => none))
  | _, _ => none
def eqX (ty : TypeId) (td : TypeDesc) (c : Bool) (s : St) (a b : AV) : Option Bool := match eqA td c s a b with
  | some r => some r
  | none => eqAggA P ty td a b

def binA (op : BinOp) (ty : TypeId) (c : Bool) (s : St) (a b : AV) : Option AV :=
  match a with
  | .int k x => (match b with
    | .int k' y => (match op with
      | .shl => shiftOp .shl k x y
      | .shr => shiftOp .shr k x y
      | op => match kindEq k k' with | true => intOp op k x y | false => none)
    | _ => none)
  | .str x => (match b with
    | .str y => (match op with
      | .add => (match Nat.blt (x.length + y.length) 4294967296 with | true => some (.str (x ++ y)) | false => none)
      | .eql => some (.bool (bytesEq x y))
      | .neq => some (.bool (not (bytesEq x y)))
      | .lss => some (.bool (bytesLt x y))
      | .leq => some (.bool (not (bytesLt y x)))
      | .gtr => some (.bool (bytesLt y x))
      | .geq => some (.bool (not (bytesLt x y)))
      | _ => none)
    | _ => none)
  | _ => (match P.underlying ty with
    | some td => (match op with
      | .eql => (match eqX P ty td c s a b with | some r => some (.bool r) | none => none)
      | .neq => (match eqX P ty td c s a b with | some r => some (.bool (not r)) | none => none)
      | _ => none)
    | none => none)

def zeroOf (t : TypeId) : Option AV := match P.info? t with | some i => (match i.zero with | some v => some (abst v) | none => none) | none => none
def zeroCells (t : TypeId) : Option (List AV) := match zeroOf P t with | some v => cellsA v | none => none
def bytesOfT (t : TypeId) : Option Nat := match P.info? t with | some i => some i.bytes | none => none

/-- Where a cell's value lies in the table. A row with p = 0 is a part of a row: only cells that are listed are known or written, and they are listed beyond the table. -/
def keyOf (p i : Nat) : Nat := Nat.rec (motive := fun _ => Nat) (Nat.add i 65536) (fun _ _ => i) p
def cellAt (z : List AV) (p : Nat) (m : Q AV) (i : Nat) : Option AV :=
  match m.get (keyOf p i) with
  | some v => some v
  | none => z[Nat.mod i p]?

def readCell (s : St) (b i : Nat) : Option AV :=
  match s.h.get b with
  | some (.cells n z p m _ _) => (match Nat.blt i n with | true => cellAt z p m i | false => none)
  | some (.rom z) => z[i]?
  | _ => none

def readL (z : List AV) (p : Nat) (m : Q AV) : Nat → Nat → Option (List AV)
  | 0, _ => some []
  | k+1, i => match cellAt z p m i with
    | some v => (match readL z p m k (Nat.succ i) with | some l => some (v :: l) | none => none)
    | none => none
def readCells (s : St) (b i k : Nat) : Option (List AV) :=
  match s.h.get b with
  | some (.cells n z p m _ _) => (match Nat.ble (Nat.add i k) n with | true => readL z p m k i | false => none)
  | some (.rom z) => (match Nat.ble (Nat.add i k) z.length with | true => some ((z.drop i).take k) | false => none)
  | _ => none

def setL (p : Nat) (m : Q AV) : Nat → List AV → Q AV
  | _, [] => m
  | i, v :: l => setL p (m.set (keyOf p i) v) (Nat.succ i) l
def writeCells (s : St) (b i : Nat) (vs : List AV) : Option St :=
  match s.h.get b with
  | some (.cells n z p m e x) => (match Nat.ble (Nat.add i vs.length) n, vs.all scalarA with
    | true, true => some (s.put b (.cells n z p (setL p m i vs) e x))
    | _, _ => none)
  | _ => none

def loadV (s : St) (t : TypeId) (b o : Nat) : Option AV :=
  match isAggT P t with
  | some true => (match sizeOfT P t with
    | some n => (match readCells s b o n with | some l => some (.agg l) | none => none)
    | none => none)
  | some false => readCell s b o
  | none => none

def setRange (l : List AV) (off : Nat) (vs : List AV) : List AV := l.take off ++ vs ++ l.drop (off + vs.length)
def fillA (place : Nat → Option (Nat × Nat)) (cells : List AV) : List (Nat × AV) → Option (List AV)
  | [] => some cells
  | (i, v) :: rest => match place i, cellsA v with
    | some (off, size), some c => (match Nat.beq c.length size && Nat.ble (off + size) cells.length with
      | true => fillA place (setRange cells off c) rest
      | false => none)
    | _, _ => none
def rep (z : List AV) : Nat → List AV
  | 0 => []
  | k+1 => z ++ rep z k

def orBad (o : Option AV) (s : St) : NX := match o with | some v => .val v s | none => .bad
def orBadS (o : Option St) : NX := match o with | some s => .val undefA s | none => .bad

def sliceBnd (v : Option AV) (d y : Nat) : Option Nat :=
  match v with
  | none => some d
  | some v => match asN v with | some i => (match Nat.ble i y with | true => some i | false => none) | none => none
def capLim (len : Nat) : Cap → Nat
  | .k c => c
  | .rest _ => len
def sliceA (es : Nat) (x : AV) (lo hi mx : Option AV) : Option AV :=
  match x with
  | .nils => (match sliceBnd mx 0 0, sliceBnd hi 0 0, sliceBnd lo 0 0 with
    | some _, some _, some _ => (match mx, hi with | some _, none => none | _, _ => some .nils)
    | _, _, _ => none)
  | .emp => (match sliceBnd hi 0 0, sliceBnd lo 0 0, mx with
    | some _, some _, none => some .emp
    | _, _, _ => none)
  | .sl b o len cap =>
    (match mx with
    | some _ =>
      (match sliceBnd mx 0 (capLim len cap) with
      | some m => (match hi with
        | none => none
        | some _ => (match sliceBnd hi 0 m with
          | some h => (match sliceBnd lo 0 h with
            | some l => some (.sl b (match Nat.beq m l with | true => o | false => o + l * es) (h - l) (.k (m - l)))
            | none => none)
          | none => none))
      | none => none)
    | none =>
      (match sliceBnd hi len (capLim len cap) with
      | some h => (match sliceBnd lo 0 h with
        | some l => (match cap with
          | .k c => some (.sl b (match Nat.beq c l with | true => o | false => o + l * es) (h - l) (.k (c - l)))
          | .rest j => (match l with
            | 0 => some (.sl b o h (.rest j))
            | l+1 => (match Nat.beq (l+1) h with
              | true => some .emp
              | false => some (.sl b (o + (l+1) * es) (h - (l+1)) (.rest (j + (l+1)))))))
        | none => none)
      | none => none))
  | _ => none

def elemOfT (t : TypeId) : Option TypeId := match P.underlying t with | some (.slice e) => some e | _ => none
def lenA : AV → Option Nat
  | .sl _ _ n _ => some n | .nils => some 0 | .emp => some 0 | .str s => some s.length | _ => none
def firstA (s : St) (es n : Nat) : AV → Option (List AV)
  | .sl b o _ _ => readCells s b o (n * es)
  | .nils => (match n with | 0 => some [] | _ => none)
  | .emp => (match n with | 0 => some [] | _ => none)
  | .str l => (match es with | 1 => some ((l.take n).map byteAV) | _ => none)
  | _ => none

/-- A new row of what a slice holds and what is appended. -/
def appFresh (s : St) (elem es : Nat) (x y : AV) (xl yl : Nat) : Option (AV × St) :=
  match firstA s es xl x, firstA s es yl y with
    | some l, some l' =>
      some (.sl s.nx 0 (xl + yl) (.rest 0), s.new (.cells ((xl + yl) * es) (l ++ l') ((xl + yl) * es) Q.e elem true))
    | _, _ => none
/-- Is each cell known? -/
def visZ (z : List AV) (p : Nat) : Bool := match p with | 0 => false | p+1 => Nat.ble (p+1) z.length
/-- A copy of a whole row's beginning, shared. -/
def appWhole (s : St) (elem es : Nat) (y : AV) (yl : Nat) : Option (AV × St) :=
  match y with
  | .sl b 0 _ _ => (match s.h.get b with
    | some (.cells n z p m _ _) => (match Nat.ble (yl * es) n && visZ z p with
      | true => some (.sl s.nx 0 yl (.rest 0), s.new (.cells (yl * es) z p m elem true))
      | false => none)
    | _ => none)
  | _ => none
def appNew (s : St) (elem es : Nat) (x y : AV) (xl yl : Nat) : Option (AV × St) :=
  match xl with
  | 0 => (match appWhole s elem es y yl with
    | some r => some r
    | none => appFresh s elem es x y xl yl)
  | _ => appFresh s elem es x y xl yl
def appendA (s : St) (elem es : Nat) (x y : AV) : Option (AV × St) :=
  match lenA x, lenA y with
  | some xl, some yl =>
    (match yl with
    | 0 => (match x with | .str _ => none | x => some (x, s))
    | _+1 =>
    match x with
    | .sl b o _ (.k c) =>
      (match Nat.ble (xl + yl) c with
      | true =>
        (match firstA s es yl y with
        | some l => (match writeCells s b (o + xl * es) l with | some s => some (.sl b o (xl + yl) (.k c), s) | none => none)
        | none => none)
      | false => appNew s elem es x y xl yl)
    | .sl b o _ (.rest j) =>
      (match o, j with
      | 0, 0 =>
        (match s.h.get b, firstA s es yl y with
        | some (.cells n z p m e true), some l =>
            (match Nat.ble (xl * es) n && (visZ z p || Nat.beq (xl * es) 0), Nat.beq e elem, l.all scalarA with
            | true, true, true => some (.sl s.nx 0 (xl + yl) (.rest 0), (St.mk (s.h.del b) s.nx).new (.cells ((xl + yl) * es) z p (setL p m (xl * es) l) e true))
            | _, _, _ => none)
        | _, _ => none)
      | _, _ =>
        (match s.h.get b, firstA s es xl x, firstA s es yl y with
        | some (.cells _ _ _ _ e true), some l, some l' =>
          (match Nat.beq e elem && Nat.beq o (j * es), l'.all scalarA with
          | true, true => some (.sl s.nx 0 (xl + yl) (.rest 0), (St.mk (s.h.del b) s.nx).new (.cells ((xl + yl) * es) (l ++ l') ((xl + yl) * es) Q.e elem true))
          | _, _ => none)
        | _, _, _ => none))
    | .nils => appNew s elem es x y xl yl
    | _ => none)
  | _, _ => none

/-- Where a value is looked for: itself, or behind an address. -/
inductive Plc | v (x : AV) | loc (b o : Nat)
def gotA (s : St) (t : TypeId) : Plc → Option AV
  | .v x => some x
  | .loc b o => loadV P s t b o
def fieldOf (st : TypeId) (i : Nat) : Option Field := match P.underlying st with
  | some (.struct fields) => fields[i]?
  | _ => none
/-- The place of a field that is not empty. -/
def fieldAt (st : TypeId) (i : Nat) : Option (Nat × TypeId) := match fieldOf P st i with
  | some f => (match sizeOfT P f.type with | some (_+1) => some (f.offset, f.type) | _ => none)
  | none => none
def followA (s : St) : List FieldStep → TypeId → Plc → Option (TypeId × Plc)
  | [], t, x => some (t, x)
  | st :: rest, t, x =>
    match fieldAt P st.struct st.index with
    | some (off, ft) =>
        (match st.deref with
        | true =>
          (match gotA P s t x with
          | some (.ptr b o) => followA s rest ft (.loc b (o + off))
          | _ => none)
        | false => (match x with
          | .loc b o => followA s rest ft (.loc b (o + off))
          | .v (.agg cs) => (match partA P ft cs off with | some v => followA s rest ft (.v v) | none => none)
          | _ => none))
    | none => none

def findMethod (t : TypeId) (name : String) : Option Method :=
  match P.info? t with | some i => i.methods.find? (·.name == name) | none => none
def methodA (s : St) (t : TypeId) (v : AV) (name : String) : Option (FuncId × AV) :=
    match findMethod P t name with
    | none => none
    | some m => match followA P s m.path.toList t (.v v) with
      | none => none
      | some (xt, x) =>
        match m.func with
        | none => none
        | some (f, pr) =>
          match P.underlying xt, pr with
          | some (.pointer _), true => (match gotA P s xt x with | some r => some (f, r) | none => none)
          | some (.pointer _), false => none
          | some _, true => (match x with | .loc b o => some (f, .ptr b o) | _ => none)
          | some _, false => (match gotA P s xt x with | some r => some (f, r) | none => none)
          | none, _ => none

def callFuncA (f : FuncId) (args : List AV) : NX :=
  match P.funcs[f]? with
  | some fn => (match fn.body with
     | some _ => .call f args
     | none => .bad)
  | none => .bad
def callMethodA (s : St) (recv : AV) (name : String) (args : List AV) : NX :=
  match recv with
  | .iface t v => match methodA P s t v name with
    | some (f, r) => callFuncA P f (r :: args)
    | none => .bad
  | _ => .bad
def invokeA (fn : Fn) (args captured : List AV) (s : St) : NX :=
  match fn with
  | .func f => callFuncA P f (args ++ captured)
  | .method name => (match args with | r :: rest => callMethodA P s r name rest | [] => .bad)
  | .methodOf t name => (match args with
    | r :: rest => (match P.underlying t with
      | some (.interface _) => callMethodA P s r name rest
      | some _ => callMethodA P s (.iface t r) name rest
      | none => .bad)
    | [] => .bad)
  | .via .. => .bad
  | .yield l => .round l args

def keyDesc (t : TypeId) : Option (TypeDesc × TypeId) := match P.underlying t with   -- the keys' kind, the elements' type
  | some (.map k e) => (match P.underlying k with | some d => some (d, e) | none => none)
  | _ => none
def setVal (v : AV) : Nat → List ME → List ME
  | _, [] => []
  | 0, e :: es => ⟨e.k, v, e.born⟩ :: es
  | i+1, e :: es => e :: setVal v i es
def mapUpd (s : St) (kd : TypeDesc) (r : Nat) (k v : AV) : Option St :=
  match s.h.get r with
  | some (.map es clock) => (match findA kd k es 0 with
    | some (some (i, _)) => some (s.put r (.map (setVal v i es) clock))
    | some none => some (s.put r (.map (es ++ [⟨k, v, clock⟩]) (Nat.succ clock)))
    | none => none)
  | _ => none

def xAlloc (s : St) (elem : TypeId) : NX := match zeroCells P elem with
    | some c => let n := c.length; .val (.ptr s.nx 0) (s.new (.cells n c n Q.e elem false))
    | none => .bad
def xBox (s : St) (elem : TypeId) (x : AV) : NX := match cellsA x with
  | some c => let n := c.length; .val (.ptr s.nx 0) (s.new (.cells n c n Q.e elem false))
  | none => .bad
def structPlace (t : TypeId) (i : Nat) : Option (Nat × Nat) := match fieldOf P t i with
  | some f => (match sizeOfT P f.type with | some n => some (f.offset, n) | none => none)
  | none => none
def allSized (t : TypeId) : Bool := match P.underlying t with
  | some (.struct fs) => fs.all fun f => (P.info? f.type).isSome
  | _ => false
def xBuild (s : St) (t : TypeId) (parts : List (Nat × AV)) : NX :=
  match zeroCells P t with
  | some z => (match P.underlying t with
    | some (.struct _) => (match allSized P t, fillA (structPlace P t) z parts with | true, some l => .val (.agg l) s | _, _ => .bad)
    | some (.array _ e) => (match sizeOfT P e with
      | some sz => (match fillA (fun i => some (i * sz, sz)) z parts with | some l => .val (.agg l) s | none => .bad)
      | none => .bad)
    | _ => .bad)
  | none => .bad
def xBuildSlice (s : St) (t : TypeId) (len : Nat) (parts : List (Nat × AV)) : NX :=
  match elemOfT P t with
  | some e => (match zeroCells P e, sizeOfT P e with
    | some z, some sz =>
      (match Nat.beq z.length sz && Nat.ble (len * sz) 16777216, fillA (fun i => some (i * sz, sz)) (rep z len) parts with
      | true, some cs => let n := cs.length; .val (.sl s.nx 0 len (.k len)) (s.new (.cells n cs n Q.e e false))
      | _, _ => .bad)
    | _, _ => .bad)
  | none => .bad
def xLoad (s : St) (t : TypeId) (a : AV) : NX := match a with
  | .ptr b o => orBad (loadV P s t b o) s
  | _ => .bad
def xStore (s : St) (t : TypeId) (a x : AV) : NX := match a with
    | .ptr b i => (match cellsA x with
      | some c => (match sizeOfT P t with
        | some n => (match Nat.beq c.length n with
          | true => orBadS (writeCells s b i c)
          | false => .bad)
        | none => .bad)
      | none => .bad)
    | _ => .bad
/-- A method value whose method has a pointer receiver and no path. -/
def plainMethod (t : TypeId) (name : String) : Bool := match findMethod P t name with
  | some m => (match m.path.toList, m.func with | [], some (_, true) => true | _, _ => false)
  | none => false
def xNilCheck (s : St) (x : AV) : NX := match x with
    | .ptr .. => .val x s
    | .func (.func _) .. => .val x s
    | .func (.yield _) .. => .val x s
    | .func (.method name) [.iface t v] cap => (match plainMethod P t name with
       | true => .val x s
       | false => .bad)
    | .iface .. => .val x s
    | _ => .bad
def xUn (s : St) (op : UnOp) (x : AV) : NX := match op, x with
    | .neg, .int k n => .val (.int k (subI k 0 n)) s
    | .xor, .int k n => .val (.int k (xorI k (match k.signed with | true => -1 | false => k.max) n)) s
    | .not, .bool b => .val (.bool (not b)) s
    | _, _ => .bad
def isU8 (e : TypeId) : Bool := match P.underlying e with | some (.int .u8) => true | _ => false
def xConvert (s : St) (src dst : TypeId) (x : AV) : NX :=
  match P.underlying src, P.underlying dst with
  | some sd, some dd =>
    (match x with
    | .int _ n => (match dd with
      | .int k => .val (.int k (wrapI k n)) s
      | _ => .bad)
    | .str l => (match dd with
      | .string => .val (.str l) s
      | .slice e => (match isU8 P e, sizeOfT P e with
        | true, some 1 => let c := l.map byteAV; let n := c.length; .val (.sl s.nx 0 n (.rest 0)) (s.new (.cells n c n Q.e e true))
        | _, _ => .bad)
      | _ => .bad)
    | x => (match sd, dd with
      | .slice e, .string => (match isU8 P e with
        | true => (match lenA x with
          | some n => (match firstA s 1 n x with
             | some l => (match isByte l with | some b => .val (.str b) s | none => .bad)
             | none => .bad)
          | none => .bad)
        | false => .bad)
      | _, _ => .bad))
  | _, _ => .bad
def isIface (t : TypeId) : Option Bool := match P.underlying t with | some (.interface _) => some true | some _ => some false | none => none
def xMakeInterface (s : St) (t : TypeId) (x : AV) : NX := match isIface P t with | some false => .val (.iface t x) s | _ => .bad
def xMakeMap (s : St) (t : TypeId) (r : Option AV) : NX := match r with
  | none => .val (.map s.nx) (s.new (.map [] 0))
  | some (.int _ _) => (match keyDesc P t with | some _ => .val (.map s.nx) (s.new (.map [] 0)) | none => .bad)
  | _ => .bad
def xMakeSlice (s : St) (t : TypeId) (l c : AV) : NX := match elemOfT P t with
    | some e => (match asN l, asN c with
      | some l, some c => (match zeroCells P e, sizeOfT P e, bytesOfT P e with
        | some z, some sz, some by_ =>
          (match Nat.ble l c && Nat.ble c 4611686018427387904 && Nat.ble (by_ * c) 281474976710656 && Nat.beq z.length sz with
          | true => .val (.sl s.nx 0 l (.k c)) (s.new (.cells (c * sz) z sz Q.e e false))
          | false => .bad)
        | _, _, _ => .bad)
      | _, _ => .bad)
    | none => .bad
def xSlice (s : St) (t : TypeId) (x : AV) (lo hi mx : Option AV) : NX := match P.underlying t with
    | some .string => (match x, mx with
      | .str l, none => let n := l.length; (match sliceBnd hi n n with
       | some h => (match sliceBnd lo 0 h with | some lo => .val (.str ((l.take h).drop lo)) s | none => .bad)
       | none => .bad)
      | _, _ => .bad)
    | some (.slice e) => (match sizeOfT P e with | some sz => orBad (sliceA sz x lo hi mx) s | none => .bad)
    | some (.array n e) => (match x, sizeOfT P e with
      | .ptr b i, some sz => orBad (sliceA sz (.sl b i n (.k n)) lo hi mx) s
      | _, _ => .bad)
    | some (.pointer arr) => (match P.underlying arr, x with
       | some (.array n e), .ptr b i => (match sizeOfT P e with | some sz => orBad (sliceA sz (.sl b i n (.k n)) lo hi mx) s | none => .bad)
       | _, _ => .bad)
    | _ => .bad
def xFieldAddr (s : St) (st : TypeId) (x : AV) (f : Nat) : NX := match x with
  | .ptr b o => (match fieldAt P st f with | some (off, _) => .val (.ptr b (o + off)) s | none => .bad)
  | _ => .bad
def xField (s : St) (st : TypeId) (x : AV) (f : Nat) : NX := match x with
  | .agg cs => (match fieldOf P st f with | some f => orBad (partA P f.type cs f.offset) s | none => .bad)
  | _ => .bad
/-- An array's length (none: a slice), the size of an element. -/
def elemAt (t : TypeId) : Option (Option Nat × Nat) := match P.underlying t with
  | some (.array n e) => (match sizeOfT P e with | some sz => some (some n, sz) | none => none)
  | some (.slice e) => (match sizeOfT P e with | some sz => some (none, sz) | none => none)
  | _ => none
def xIndexAddr (s : St) (t : TypeId) (x ix : AV) : NX := match asN ix with
  | some i => (match elemAt P t with
    | some (some n, sz) => (match x with
      | .ptr b o => (match Nat.blt i n with | true => .val (.ptr b (o + i * sz)) s | false => .bad)
      | _ => .bad)
    | some (none, sz) => (match x with
      | .sl b o len _ => (match Nat.blt i len with | true => .val (.ptr b (o + i * sz)) s | false => .bad)
      | _ => .bad)
    | none => .bad)
  | none => .bad
def xIndex (s : St) (t : TypeId) (x ix : AV) : NX := match asN ix with
  | some i => (match P.underlying t with
    | some (.array n e) => (match x, sizeOfT P e with
      | .agg cs, some sz => (match Nat.blt i n with | true => orBad (partA P e cs (i * sz)) s | false => .bad)
      | _, _ => .bad)
    | some .string => (match x with
      | .str l => (match l[i]? with | some b => .val (byteAV b) s | none => .bad)
      | _ => .bad)
    | _ => .bad)
  | none => .bad
def xFound (s : St) (elem : TypeId) (ok : Bool) (r : Option (Nat × AV)) : NX := match r with
        | some (_, v) => .val (match ok with | true => .tup [v, .bool true] | false => v) s
        | none => (match zeroOf P elem with | some z => .val (match ok with | true => .tup [z, .bool false] | false => z) s | none => .bad)
def xLookup (s : St) (t : TypeId) (x ix : AV) (ok : Bool) : NX := match keyDesc P t with
    | some (kd, elem) => (match keyOk kd ix with
      | true => (match x with
        | .nilm => xFound P s elem ok none
        | .map r => (match s.h.get r with
          | some (.map es _) => (match findA kd ix es 0 with | some r => xFound P s elem ok r | none => .bad)
          | _ => .bad)
        | _ => .bad)
      | false => .bad)
    | none => .bad
def xMapUpd (s : St) (t : TypeId) (m k x : AV) : NX := match keyDesc P t with
    | some (kd, _) => (match keyOk kd k with
      | true => (match m with
        | .map r => orBadS (mapUpd s kd r k x)
        | _ => .bad)
      | false => .bad)
    | none => .bad
def xRange (s : St) (t : TypeId) (x : AV) : NX := match P.underlying t with
    | some .string => (match x with
      | .str l => .val (.ptr s.nx 0) (s.new (.siter l 0))
      | _ => .bad)
    | some (.map ..) => (match x with
      | .nilm => .val (.ptr s.nx 0) (s.new (.iter none 0 [] 0))
      | .map r => (match s.h.get r with
       | some (.map es clock) => .val (.ptr s.nx 0) (s.new (.iter (some r) clock [] clock))
       | _ => .bad)
      | _ => .bad)
    | _ => .bad
/-- The entries that an iterator has not been at. -/
def leftOf (seen : List Nat) (es : List ME) : List ME := es.filter fun e => !(seen.any (Nat.beq e.born))
def xNextS (s : St) (r : Nat) (l : List UInt8) (pos : Nat) : NX := match Nat.blt pos l.length with
          | true => (match Utf8.decode ⟨l.toArray⟩ pos with
            | (c, w) => .val (.tup [.bool true, .int .i64 (.ofNat pos), .int .i32 (.ofNat c)]) (s.put r (.siter l (pos + w))))
          | false => .val (.tup [.bool false]) s
/-- The keys of a map, each with its stamp. -/
def keysOK (kd : IntKind) (since : Nat) : List ME → List (Nat × Nat) → Bool
  | [], [] => true
  | e :: es, q :: ks => (match e.k with | .int k (.ofNat n) => kindEq k kd && Nat.beq n q.1 | _ => false) && Nat.beq e.born q.2 && Nat.blt q.2 since && ks.all (fun p => !(Nat.beq q.2 p.2)) && keysOK kd since es ks
  | _, _ => false
def xNextK (s : St) (r m since : Nat) (kd : IntKind) (ks : List (Nat × Nat)) (ids : List Nat) (last : Nat) : NX := match s.h.get m with
  | some (.map es clock) => (match keysOK kd since es ks && Nat.ble since clock with
    | true => (match Nat.blt ids.length ks.length with
      | true => .val (.tup [.bool true, .key kd s.nx, .junk]) ⟨s.h.set r (.iterK m since kd ks (ids ++ [s.nx]) clock), Nat.succ s.nx⟩
      | false => .val (.tup [.bool false]) s)
    | false => .bad)
  | _ => .bad
/-- The iterator's next step: all entries are of the map's beginning, and only one is left, or none. -/
def xNext (s : St) (it : AV) (isS : Bool) : NX := match it with
    | .ptr r 0 => (match s.h.get r with
      | some (.siter l pos) => (match isS with
        | true => xNextS s r l pos
        | false => .bad)
      | some (.iterN m since stamp) => (match s.h.get m with
        | some (.map es clock) => (match es.find? (fun e => Nat.beq e.born stamp) with
          | some e => .val (.tup [.bool true, e.k, e.v]) (s.put r (.iterU m since stamp clock))
          | none => .bad)
        | _ => .bad)
      | some .iterE => .val (.tup [.bool false]) ⟨s.h.del r, s.nx⟩
      | some (.iterK m since kd ks ids last) => (match isS with | true => .bad | false => xNextK s r m since kd ks ids last)
      | some (.iterM m since seen stamp) => (match s.h.get m with
        | some (.map es clock) => (match es.find? (fun e => Nat.beq e.born stamp) with
          | some e => .val (.tup [.bool true, e.k, e.v]) (s.put r (.iter (some m) since (seen ++ [stamp]) clock))
          | none => .bad)
        | _ => .bad)
      | some (.iter none ..) => (match isS with | true => .bad | false => .val (.tup [.bool false]) s)
      | some (.iter (some m) since seen last) => (match isS with
        | true => .bad
        | false => (match s.h.get m with
          | some (.map es clock) => (match Nat.ble since last && es.all fun e => Nat.blt e.born since with
            | true => (match leftOf seen es with
             | [] => .val (.tup [.bool false]) s
             | [e] => .val (.tup [.bool true, e.k, e.v]) (s.put r (.iter (some m) since (seen ++ [e.born]) clock))
             | _ => .bad)
            | false => .bad)
          | _ => .bad))
      | _ => .bad)
    | _ => .bad
/-- Does a type have the methods that an interface wants? -/
def hasAll (asserted t : TypeId) : Bool := match P.underlying asserted, P.info? t with
  | some (.interface ms), some i => (Instr.missingMethod ms i.methods).isNone
  | _, _ => false
def xTypeAssert (s : St) (x : AV) (asserted : TypeId) (ok : Bool) : NX := match isIface P asserted with
    | some true => (match x with
      | .iface t v => (match hasAll P asserted t with
          | true => .val (match ok with | true => .tup [.iface t v, .bool true] | false => .iface t v) s
          | false => .bad)
      | _ => .bad)
    | some false => (match x with
      | .iface t v => (match Nat.beq t asserted with
        | true => .val (match ok with | true => .tup [v, .bool true] | false => v) s
        | false => (match ok with
          | true => (match zeroOf P asserted with | some z => .val (.tup [z, .bool false]) s | none => .bad)
          | false => .bad))
      | _ => .bad)
    | none => .bad
def xExtract (s : St) (t : AV) (i : Nat) : NX := match t with
  | .tup vs => (match vs[i]? with | some v => .val v s | none => .bad)
  | _ => .bad
/-- Is what is appended a number of zeros? -/
def isIntT (t : TypeId) : Option Bool := match P.underlying t with | some (.int _) => some true | some (.slice _) => some false | some .string => some false | _ => none
def xAppend (s : St) (ts : Array TypeId) (x y : AV) : NX := match ts[0]? with
  | some st => (match elemOfT P st with
    | some e => (match ts[1]?, sizeOfT P e, bytesOfT P e with
      | some xt, some es, some by_ => (match isIntT P xt with
        | some true => (match asN y, zeroCells P e, x with
          | some (n+1), some z, .nils => (match Nat.ble ((n+1) * (2 * by_ + 1)) 281474976710656 && Nat.beq z.length es with
            | true => .val (.sl s.nx 0 (n+1) (.rest 0)) (s.new (.cells ((n+1) * es) z es Q.e e true))
            | false => .bad)
          | _, _, _ => .bad)
        | some false => (match lenA x, lenA y with
          | some xl, some yl => (match Nat.ble ((xl + yl) * (4 * by_ + 1)) 281474976710656, zeroCells P e with
            | true, some z => (match Nat.beq z.length es, appendA s e es x y with | true, some (v, s) => .val v s | _, _ => .bad)
            | _, _ => .bad)
          | _, _ => .bad)
        | none => .bad)
      | _, _, _ => .bad)
    | none => .bad)
  | none => .bad
def xLen (s : St) (ts : Array TypeId) (x : AV) : NX := match ts[0]? with
  | some t => (match P.underlying t with
    | some .string => (match x with | .str l => .val (.int .i64 (.ofNat l.length)) s | _ => .bad)
    | some (.slice _) => (match lenA x, x with | some n, .sl .. => .val (.int .i64 (.ofNat n)) s | some _, .nils => .val (.int .i64 0) s | some _, .emp => .val (.int .i64 0) s | _, _ => .bad)
    | some (.array n _) => .val (.int .i64 (.ofNat n)) s
    | some (.pointer a) => (match P.underlying a with | some (.array n _) => .val (.int .i64 (.ofNat n)) s | _ => .bad)
    | some (.map ..) => (match x with
      | .nilm => .val (.int .i64 0) s
      | .map r => (match s.h.get r with | some (.map es _) => .val (.int .i64 (.ofNat es.length)) s | _ => .bad)
      | _ => .bad)
    | _ => .bad)
  | none => .bad
def xCap (s : St) (ts : Array TypeId) (x : AV) : NX := match ts[0]? with
  | some t => (match elemOfT P t with
    | some _ => (match x with
      | .sl _ _ _ (.k n) => .val (.int .i64 (.ofNat n)) s
      | .nils => .val (.int .i64 0) s
      | _ => .bad)
    | none => .bad)
  | none => .bad
def xCopy (s : St) (ts : Array TypeId) (x y : AV) : NX := match ts[0]? with
  | some t => (match elemOfT P t with
    | some e => (match lenA x, lenA y, sizeOfT P e with
      | some xl, some yl, some es => let n := Nat.min yl xl
        (match firstA s es n y with
        | some l => (match x with
          | .sl b o _ _ => (match writeCells s b o l with | some s => .val (.int .i64 (.ofNat n)) s | none => .bad)
          | .nils => .val (.int .i64 (.ofNat n)) s
          | _ => .bad)
        | none => .bad)
      | _, _, _ => .bad)
    | none => .bad)
  | none => .bad
def xClear (s : St) (ts : Array TypeId) (x : AV) : NX := match ts[0]? with
  | some t => (match P.underlying t with
    | some (.map ..) => (match x with
      | .map r => (match s.h.get r with | some (.map _ clock) => .val (.tup []) (s.put r (.map [] clock)) | _ => .bad)
      | .nilm => .val (.tup []) s
      | _ => .bad)
    | some (.slice e) => (match x with
      | .nils => .val (.tup []) s
      | .emp => .val (.tup []) s
      | .sl b o n _ => (match zeroCells P e with
          | some z => (match writeCells s b o (rep z n) with | some s => .val (.tup []) s | none => .bad)
          | none => .bad)
      | _ => .bad)
    | _ => .bad)
  | none => .bad
def delAt : Nat → List ME → List ME
  | _, [] => []
  | 0, _ :: es => es
  | i+1, e :: es => e :: delAt i es
def xDelete (s : St) (ts : Array TypeId) (m k : AV) : NX := match ts[0]? with
  | some t => (match keyDesc P t with
    | some (kd, _) => (match keyOk kd k with
      | true => (match m with
        | .nilm => .val (.tup []) s
        | .map r => (match s.h.get r with
          | some (.map es clock) => (match findA kd k es 0 with
            | some (some (i, _)) => .val (.tup []) (s.put r (.map (delAt i es) clock))
            | some none => .val (.tup []) s
            | none => .bad)
          | _ => .bad)
        | _ => .bad)
      | false => .bad)
    | none => .bad)
  | none => .bad
def foldI (lt : Int → Int → Bool) (k : IntKind) : Int → List AV → Option Int
  | a, [] => some a
  | a, v :: l => match v with
    | .int _ b => foldI lt k (match lt a b with | true => b | false => a) l
    | _ => none
def xMinMax (s : St) (lt : Int → Int → Bool) (args : List AV) : NX := match args with
  | .int k a :: l => (match foldI lt k a l with | some n => .val (.int k n) s | none => .bad)
  | _ => .bad
def xBuiltin (s : St) (b : Builtin) (ts : Array TypeId) (args : List AV) : NX :=
  match b with
  | .append => (match args with | [x, y] => xAppend P s ts x y | _ => .bad)
  | .len => (match args with | [x] => xLen P s ts x | _ => .bad)
  | .cap => (match args with | [x] => xCap P s ts x | _ => .bad)
  | .copy => (match args with | [x, y] => xCopy P s ts x y | _ => .bad)
  | .clear => (match args with | [x] => xClear P s ts x | _ => .bad)
  | .delete => (match args with | [x, y] => xDelete P s ts x y | _ => .bad)
  | .max => xMinMax s ltI args
  | .min => xMinMax s (fun a b => ltI b a) args
  | _ => .bad
def xEntry (s : St) (it : AV) : NX := match it with
    | .ptr r 0 => (match s.h.get r with
      | some (.iter (some m) _ seen stepped) => (match s.h.get m, seen.getLast? with
        | some (.map es clock), some stamp => (match Nat.beq clock stepped with
          | true => (match es.find? (fun e => Nat.beq e.born stamp) with | some e => .val (.tup [e.k, e.v]) s | none => .bad)
          | false => .bad)
        | _, _ => .bad)
      | some (.iterU m _ stamp stepped) => (match s.h.get m with
        | some (.map es clock) => (match Nat.beq clock stepped with
          | true => (match es.find? (fun e => Nat.beq e.born stamp) with | some e => .val (.tup [e.k, e.v]) s | none => .bad)
          | false => .bad)
        | _ => .bad)
      | some (.iterK m since kd ks ids stepped) => (match s.h.get m with
        | some (.map es clock) => (match keysOK kd since es ks && Nat.beq clock stepped, ids.getLast? with
          | true, some id => .val (.tup [.key kd id, .junk]) s
          | _, _ => .bad)
        | _ => .bad)
      | _ => .bad)
    | _ => .bad
def xMapEntry (s : St) (t : TypeId) (m k : AV) : NX := match keyDesc P t with
    | some (kd, elem) => (match keyOk kd k with
      | true => (match m with
        | .map r => (match s.h.get r with
          | some (.map es clock) => (match findA kd k es 0 with
            | some (some (i, v)) => (match es[i]? with | some e => .val (.tup [v, .int .i64 (.ofNat e.born)]) s | none => .bad)
            | some none => (match zeroOf P elem with | some z => .val (.tup [z, .int .i64 (.ofNat clock)]) (s.put r (.map (es ++ [⟨k, z, clock⟩]) (Nat.succ clock))) | none => .bad)
            | none => .bad)
          | _ => .bad)
        | _ => .bad)
      | false => .bad)
    | none => .bad
def setBorn (born : Nat) (v : AV) : List ME → Option (List ME)
  | [] => none
  | e :: es => match Nat.beq e.born born with
    | true => some (⟨e.k, v, e.born⟩ :: es)
    | false => (match setBorn born v es with | some l => some (e :: l) | none => none)
def xEntryStore (s : St) (m st x : AV) : NX := match m, asN st with
    | .map r, some born => (match s.h.get r with
      | some (.map es clock) => (match setBorn born x es with | some es => .val undefA (s.put r (.map es clock)) | none => .bad)
      | _ => .bad)
    | _, _ => .bad

def evalA (t : Tm) (o : Operand) : AV := match o with
  | .tmp k => tget t k
  | .const v => abst v
  | .global g => (match Nat.blt g 1000 with | true => .ptr g 0 | false => .junk)
  | .func f => .func (.func f) [] []
def evalL (t : Tm) (l : List Operand) : List AV := l.map (evalA t)
def evalO (t : Tm) (o : Option Operand) : Option AV := match o with | some x => some (evalA t x) | none => none
def evalP (t : Tm) : List (Nat × Operand) → List (Nat × AV)
  | [] => []
  | (i, x) :: l => (i, evalA t x) :: evalP t l

def xCall (t : Tm) (s : St) (c : Call) : NX :=
  match c.callee with
    | .value f => (match evalA t f with
      | .func fn first captured => invokeA P fn (first ++ evalL t c.args.toList) captured s
      | _ => .bad)
    | .invoke r name => callMethodA P s (evalA t r) name (evalL t c.args.toList)
    | .builtin b => xBuiltin P s b c.argTypes (evalL t c.args.toList)

def xPick (s : St) (c a b : AV) : NX := match c with | .bool true => .val a s | .bool false => .val b s | _ => .bad

def xMakeFunc (s : St) (fn : Fn) (a b : List AV) : NX := match fn with | .yield _ => .bad | fn => .val (.func fn a b) s

def execA (t : Tm) (o : Op) (s : St) : NX :=
  match o with
  | .move x => .val (evalA t x) s
  | .assign x => .val (evalA t x) s
  | .pick c a b => xPick s (evalA t c) (evalA t a) (evalA t b)
  | .alloc elem => xAlloc P s elem
  | .box elem x => xBox s elem (evalA t x)
  | .build ty parts => xBuild P s ty (evalP t parts.toList)
  | .buildSlice ty len parts => xBuildSlice P s ty len (evalP t parts.toList)
  | .load ty a => xLoad P s ty (evalA t a)
  | .store ty a x => xStore P s ty (evalA t a) (evalA t x)
  | .nilCheck x => xNilCheck P s (evalA t x)
  | .binOp op ty x y _ => orBad (binA P op ty (isC x || isC y) s (evalA t x) (evalA t y)) s
  | .unOp op _ x => xUn s op (evalA t x)
  | .convert src dst x => xConvert P s src dst (evalA t x)
  | .makeInterface ty x => xMakeInterface P s ty (evalA t x)
  | .makeFunc fn first captured => xMakeFunc s fn (evalL t first.toList) (evalL t captured.toList)
  | .makeMap ty r => xMakeMap P s ty (evalO t r)
  | .makeSlice ty l c => xMakeSlice P s ty (evalA t l) (evalA t c)
  | .slice ty x lo hi mx => xSlice P s ty (evalA t x) (evalO t lo) (evalO t hi) (evalO t mx)
  | .fieldAddr st x f => xFieldAddr P s st (evalA t x) f
  | .field st x f => xField P s st (evalA t x) f
  | .indexAddr ty x ix => xIndexAddr P s ty (evalA t x) (evalA t ix)
  | .index ty x ix => xIndex P s ty (evalA t x) (evalA t ix)
  | .lookup ty x ix ok => xLookup P s ty (evalA t x) (evalA t ix) ok
  | .mapUpdate ty m k x => xMapUpd P s ty (evalA t m) (evalA t k) (evalA t x)
  | .insert ty m k x => xMapUpd P s ty (evalA t m) (evalA t k) (evalA t x)
  | .range ty x => xRange P s ty (evalA t x)
  | .next it isS => xNext s (evalA t it) isS
  | .typeAssert x _ asserted ok => xTypeAssert P s (evalA t x) asserted ok
  | .extract x i => xExtract s (evalA t x) i
  | .call c => xCall P t s c
  | .entry it => xEntry s (evalA t it)
  | .mapEntry ty m k => xMapEntry P s ty (evalA t m) (evalA t k)
  | .entryStore _ m st x => xEntryStore s (evalA t m) (evalA t st) (evalA t x)
  | _ => .bad

def putA (t : Tm) (d : Option Tmp) (v : AV) : Tm := match d with | some d => tset t d v | none => t
end
end
end Go.AX
namespace Go.AX
open Go

theorem Dg.law {α : Type} (f : α → α) (t : N α) : ∀ (a b : Nat), a < 4 → b < 4 →
    (Dg.of α b).g ((Dg.of α a).u f t) = if b = a then f ((Dg.of α a).g t) else (Dg.of α b).g t
  | 0, 0, _, _ | 0, 1, _, _ | 0, 2, _, _ | 0, 3, _, _ | 1, 0, _, _ | 1, 1, _, _ | 1, 2, _, _ | 1, 3, _, _
  | 2, 0, _, _ | 2, 1, _, _ | 2, 2, _, _ | 2, 3, _, _ | 3, 0, _, _ | 3, 1, _, _ | 3, 2, _, _ | 3, 3, _, _ => rfl
  | _+4, _, h, _ => absurd h (by omega)
  | 0, _+4, _, h | 1, _+4, _, h | 2, _+4, _, h | 3, _+4, _, h => absurd h (by omega)

theorem Pth.law {α : Type} (x : α) : ∀ (n k j : Nat) (t : Tr α n), k < 4 ^ n → j < 4 ^ n →
    (Pth.of α n j).g ((Pth.of α n k).u x t) = if j = k then x else (Pth.of α n j).g t
  | 0, k, j, t, hk, hj => by
    have : j = k := by simp at hk hj; omega
    subst this; rw [if_pos rfl]; rfl
  | n+1, k, j, t, hk, hj => by
    have hk' : k / 4 < 4 ^ n := by rw [Nat.pow_succ] at hk; omega
    have hj' : j / 4 < 4 ^ n := by rw [Nat.pow_succ] at hj; omega
    have e := Dg.law (α := Tr α n) ((Pth.of α n (k / 4)).u x) t (k % 4) (j % 4) (Nat.mod_lt _ (by decide)) (Nat.mod_lt _ (by decide))
    refine (congrArg (Pth.of α n (j / 4)).g e).trans ?_
    change _ = if j = k then x else (Pth.of α n (j / 4)).g ((Dg.of (Tr α n) (j % 4)).g t)
    by_cases hm : j % 4 = k % 4
    · rw [if_pos hm]
      rw [Pth.law x n _ _ _ hk' hj']
      by_cases hd : j / 4 = k / 4
      · rw [if_pos hd, if_pos (by omega)]
      · rw [if_neg hd, if_neg (fun h => hd (by rw [h])), hm]
    · rw [if_neg hm, if_neg (fun h => hm (by rw [h]))]

theorem Dg.law_full {α : Type} (d : α) : ∀ (a : Nat), a < 4 → (Dg.of α a).g ⟨d, d, d, d⟩ = d
  | 0, _ | 1, _ | 2, _ | 3, _ => rfl
  | _+4, h => absurd h (by omega)
theorem Pth.law_full {α : Type} (d : α) : ∀ (n k : Nat), (Pth.of α n k).g (Tr.full α d n) = d
  | 0, k => rfl
  | n+1, k => by
    show (Pth.of α n (Nat.div k 4)).g ((Dg.of (Tr α n) (Nat.mod k 4)).g ⟨Tr.full α d n, Tr.full α d n, Tr.full α d n, Tr.full α d n⟩) = d
    exact (congrArg (Pth.of α n (k / 4)).g (Dg.law_full (Tr.full α d n) (k % 4) (Nat.mod_lt _ (by decide)))).trans (Pth.law_full d n _)

theorem QP.of_lo {α : Type} {n k : Nat} (h : k < 4 ^ n) : QP.of α n k = ⟨fun q => (Pth.of α n k).g q.t, fun x q => ⟨(Pth.of α n k).u x q.t, q.hi⟩⟩ := by
  unfold QP.of
  have : Nat.blt k (Nat.pow 4 n) = true := by rw [Nat.blt_eq]; exact h
  rw [this]
theorem QP.of_hi {α : Type} {n k : Nat} (h : ¬ k < 4 ^ n) : QP.of α n k = ⟨fun q => getHi q.hi k, fun x q => ⟨q.t, .cons k x q.hi⟩⟩ := by
  unfold QP.of
  have : Nat.blt k (Nat.pow 4 n) = false := by
    cases e : Nat.blt k (Nat.pow 4 n) with
    | false => rfl
    | true => rw [Nat.blt_eq] at e; exact absurd e h
  rw [this]

theorem QD.get_set {α : Type} {n : Nat} (q : QD α n) (k : Nat) (x : α) (j : Nat) : QD.get (q.set k x) j = if j = k then x else QD.get q j := by
  unfold QD.get QD.set
  by_cases hk : k < 4 ^ n <;> by_cases hj : j < 4 ^ n
  · rw [QP.of_lo hk, QP.of_lo hj]
    exact Pth.law x n k j q.t hk hj
  · rw [QP.of_lo hk, QP.of_hi hj, if_neg (by omega)]
  · rw [QP.of_hi hk, QP.of_lo hj, if_neg (by omega)]
  · rw [QP.of_hi hk, QP.of_hi hj]
    show (match Nat.beq j k with | true => x | false => getHi q.hi j) = if j = k then x else getHi q.hi j
    by_cases h : j = k
    · subst h; rw [if_pos rfl, Nat.beq_refl]
    · rw [if_neg h]
      have : Nat.beq j k = false := by
        cases e : Nat.beq j k with
        | false => rfl
        | true => exact absurd (Nat.eq_of_beq_eq_true e) h
      rw [this]
theorem QD.get_full {α : Type} {n : Nat} (d : α) (k : Nat) : QD.get (QD.full d n) k = d := by
  unfold QD.get QD.full
  by_cases hk : k < 4 ^ n
  · rw [QP.of_lo hk]; exact Pth.law_full d n k
  · rw [QP.of_hi hk]; rfl

/-! ### Sparse tables -/
theorem EDg.law {α : Type} (z : α) (f : α → α) (t : E4 α) : ∀ (a b : Nat), a < 4 → b < 4 →
    (EDg.of α z b).g ((EDg.of α z a).u f t) = if b = a then f ((EDg.of α z a).g t) else (EDg.of α z b).g t
  | 0, 0, _, _ | 0, 1, _, _ | 0, 2, _, _ | 0, 3, _, _ | 1, 0, _, _ | 1, 1, _, _ | 1, 2, _, _ | 1, 3, _, _
  | 2, 0, _, _ | 2, 1, _, _ | 2, 2, _, _ | 2, 3, _, _ | 3, 0, _, _ | 3, 1, _, _ | 3, 2, _, _ | 3, 3, _, _ => by cases t <;> rfl
  | _+4, _, h, _ => absurd h (by omega)
  | 0, _+4, _, h | 1, _+4, _, h | 2, _+4, _, h | 3, _+4, _, h => absurd h (by omega)
theorem EPth.law {α : Type} (x : Option α) : ∀ (n k j : Nat) (t : ETr α n), k < 4 ^ n → j < 4 ^ n →
    (EPth.of α n j).g ((EPth.of α n k).u x t) = if j = k then x else (EPth.of α n j).g t
  | 0, k, j, t, hk, hj => by
    have : j = k := by simp at hk hj; omega
    subst this; rw [if_pos rfl]; rfl
  | n+1, k, j, t, hk, hj => by
    have hk' : k / 4 < 4 ^ n := by rw [Nat.pow_succ] at hk; omega
    have hj' : j / 4 < 4 ^ n := by rw [Nat.pow_succ] at hj; omega
    have e := EDg.law (α := ETr α n) (emp α n) ((EPth.of α n (k / 4)).u x) t (k % 4) (j % 4) (Nat.mod_lt _ (by decide)) (Nat.mod_lt _ (by decide))
    refine (congrArg (EPth.of α n (j / 4)).g e).trans ?_
    change _ = if j = k then x else (EPth.of α n (j / 4)).g ((EDg.of (ETr α n) (emp α n) (j % 4)).g t)
    by_cases hm : j % 4 = k % 4
    · rw [if_pos hm]
      rw [EPth.law x n _ _ _ hk' hj']
      by_cases hd : j / 4 = k / 4
      · rw [if_pos hd, if_pos (by omega)]
      · rw [if_neg hd, if_neg (fun h => hd (by rw [h])), hm]
    · rw [if_neg hm, if_neg (fun h => hm (by rw [h]))]
theorem EDg.law_e {α : Type} (z : α) : ∀ (a : Nat), a < 4 → (EDg.of α z a).g E4.e = z
  | 0, _ | 1, _ | 2, _ | 3, _ => rfl
  | _+4, h => absurd h (by omega)
theorem EPth.law_e {α : Type} : ∀ (n k : Nat), (EPth.of α n k).g (emp α n) = none
  | 0, k => rfl
  | n+1, k => by
    show (EPth.of α n (Nat.div k 4)).g ((EDg.of (ETr α n) (emp α n) (Nat.mod k 4)).g E4.e) = none
    exact (congrArg (EPth.of α n (k / 4)).g (EDg.law_e (emp α n) (k % 4) (Nat.mod_lt _ (by decide)))).trans (EPth.law_e n _)
theorem EQ.of_lo {α : Type} {k : Nat} (h : k < 65536) : EQ.of α k = ⟨fun q => (EPth.of α 8 k).g q.t, fun x q => ⟨(EPth.of α 8 k).u x q.t, q.hi⟩⟩ := by
  unfold EQ.of
  have : Nat.blt k 65536 = true := by rw [Nat.blt_eq]; exact h
  rw [this]
theorem EQ.of_hi {α : Type} {k : Nat} (h : ¬ k < 65536) : EQ.of α k = ⟨fun q => getHi q.hi k, fun x q => ⟨q.t, .cons k x q.hi⟩⟩ := by
  unfold EQ.of
  have : Nat.blt k 65536 = false := by
    cases e : Nat.blt k 65536 with
    | false => rfl
    | true => rw [Nat.blt_eq] at e; exact absurd e h
  rw [this]
theorem EQ.get_set {α : Type} (q : Q α) (k : Nat) (x : Option α) (j : Nat) : (EQ.of α j).g ((EQ.of α k).u x q) = if j = k then x else (EQ.of α j).g q := by
  have h48 : (4 : Nat) ^ 8 = 65536 := by decide
  by_cases hk : k < 65536 <;> by_cases hj : j < 65536
  · rw [EQ.of_lo hk, EQ.of_lo hj]
    exact EPth.law x 8 k j q.t (by omega) (by omega)
  · rw [EQ.of_lo hk, EQ.of_hi hj, if_neg (by omega)]
  · rw [EQ.of_hi hk, EQ.of_lo hj, if_neg (by omega)]
  · rw [EQ.of_hi hk, EQ.of_hi hj]
    show (match Nat.beq j k with | true => x | false => getHi q.hi j) = if j = k then x else getHi q.hi j
    by_cases h : j = k
    · subst h; rw [if_pos rfl, Nat.beq_refl]
    · rw [if_neg h]
      have : Nat.beq j k = false := by
        cases e : Nat.beq j k with
        | false => rfl
        | true => exact absurd (Nat.eq_of_beq_eq_true e) h
      rw [this]
theorem Q.get_e {α : Type} (j : Nat) : (Q.e : Q α).get j = none := by
  unfold Q.get Q.e
  by_cases hj : j < 65536
  · rw [EQ.of_lo hj]; exact EPth.law_e 8 j
  · rw [EQ.of_hi hj]; rfl
theorem Q.get_set {α : Type} (t : Q α) (k : Nat) (x : α) (j : Nat) : (t.set k x).get j = if j = k then some x else t.get j :=
  EQ.get_set t k (some x) j
theorem Q.get_del {α : Type} (t : Q α) (k j : Nat) : (t.del k).get j = if j = k then none else t.get j :=
  EQ.get_set t k none j
theorem tget_tset (t : Tm) (k j : Nat) (v : AV) : tget (tset t k v) j = if j = k then v else tget t j :=
  QD.get_set t k v j
theorem keyOf_inj {p i j : Nat} (h : keyOf p i = keyOf p j) : i = j := by
  cases p with
  | zero => exact Nat.add_right_cancel (show i + 65536 = j + 65536 from h)
  | succ p => exact h
theorem cell_get_set {α : Type} (m : Q α) (p i : Nat) (x : α) (j : Nat) : (m.set (keyOf p i) x).get (keyOf p j) = if j = i then some x else m.get (keyOf p j) := by
  rw [Q.get_set]
  by_cases h : j = i
  · rw [if_pos h, if_pos (by rw [h])]
  · rw [if_neg h, if_neg (fun e => h (keyOf_inj e))]
theorem cellAt_e (z : List AV) (p i : Nat) : cellAt z p Q.e i = z[Nat.mod i p]? := by
  unfold cellAt; rw [Q.get_e]
theorem cellAt_vis {z : List AV} {p : Nat} (h : visZ z p = true) (m : Q AV) (i : Nat) : ∃ x, cellAt z p m i = some x := by
  unfold cellAt
  split
  · exact ⟨_, rfl⟩
  · cases p with
    | zero => simp [visZ] at h
    | succ p =>
      simp only [visZ] at h
      have h := Nat.le_of_ble_eq_true h
      have : Nat.mod i (p+1) < z.length := Nat.lt_of_lt_of_le (Nat.mod_lt _ (Nat.succ_pos _)) h
      exact ⟨_, List.getElem?_eq_getElem this⟩
end Go.AX
set_option linter.unusedVariables false
namespace Go.AX
open Go

/-- Where an abstract block lies: the block, its first cell there, and (of a row with more room than is known) how many elements it has room for. -/
structure Loc where
  blk : Nat
  base : Nat
  cap : Nat
abbrev Ren := Nat → Option Loc
def Ren.le (ρ ρ' : Ren) : Prop := ∀ b l, ρ b = some l → ρ' b = some l
theorem Ren.le_refl (ρ : Ren) : ρ.le ρ := fun _ _ h => h
theorem Ren.le.trans {ρ ρ' ρ'' : Ren} (h : ρ.le ρ') (h' : ρ'.le ρ'') : ρ.le ρ'' := fun b l hb => h' b l (h b l hb)

def capOK (l : Loc) (len cap : Nat) : Cap → Prop
  | .k n => cap = n ∧ len ≤ n
  | .rest j => cap + j = l.cap ∧ len ≤ cap
def fnR (ρ : Ren) : Fn → Fn → Prop
  | .yield l, f => ∃ x, ρ l = some x ∧ f = .yield x.blk
  | g, f => f = g

/-- What comes from outside: values, and the cells that are not known. -/
structure Sg where
  v : Nat → Value
  u : Nat → Nat → Value

mutual
def VR (σ : Sg) (ρ : Ren) : AV → Value → Prop
  | .bool b, v => v = .bool b
  | .int k n, v => v = .int k n
  | .str s, v => v = .string ⟨s.toArray⟩
  | .ptr b o, v => ∃ l, ρ b = some l ∧ v = .pointer (some ⟨l.blk, l.base + o, none⟩)
  | .nilp, v => v = .pointer none
  | .sl b o len cap, v => ∃ l c, ρ b = some l ∧ capOK l len c cap ∧ v = .slice (some ⟨l.blk, l.base + o, none⟩) len c
  | .nils, v => v = .slice none 0 0
  | .emp, v => ∃ a c, v = .slice (some a) 0 c
  | .map r, v => ∃ l, ρ r = some l ∧ v = .map (some l.blk)
  | .nilm, v => v = .map none
  | .func fn a b, v => ∃ fn' x y, fnR ρ fn fn' ∧ VRL σ ρ a x ∧ VRL σ ρ b y ∧ v = .func fn' x.toArray y.toArray
  | .nilf, v => v = .nilFunc
  | .iface t a, v => ∃ x, VR σ ρ a x ∧ v = .iface t x
  | .nili, v => v = .nilIface
  | .agg cs, v => ∃ l, VRL σ ρ cs l ∧ v = .agg l.toArray
  | .tup cs, v => ∃ l, VRL σ ρ cs l ∧ v = .tuple l.toArray
  | .sym i, v => v = σ.v i
  | .key k i, v => ∃ l, ρ i = some l ∧ v = .int k (Int.ofNat l.blk)
  | .junk, _ => True
def VRL (σ : Sg) (ρ : Ren) : List AV → List Value → Prop
  | [], l => l = []
  | a :: as, l => ∃ v vs, l = v :: vs ∧ VR σ ρ a v ∧ VRL σ ρ as vs
end

theorem fnR.mono {ρ ρ' : Ren} (h : ρ.le ρ') : ∀ {g f : Fn}, fnR ρ g f → fnR ρ' g f
  | .yield l, f, ⟨x, hx, e⟩ => ⟨x, h _ _ hx, e⟩
  | .func _, _, e => e
  | .method _, _, e => e
  | .methodOf _ _, _, e => e
  | .via _ _ _ _, _, e => e

mutual
theorem VR.mono {σ : Sg} {ρ ρ' : Ren} (h : ρ.le ρ') : ∀ (a : AV) {v : Value}, VR σ ρ a v → VR σ ρ' a v
  | .bool _, _, e => e
  | .int _ _, _, e => e
  | .str _, _, e => e
  | .ptr _ _, _, ⟨l, hl, e⟩ => ⟨l, h _ _ hl, e⟩
  | .nilp, _, e => e
  | .sl _ _ _ _, _, ⟨l, c, hl, hc, e⟩ => ⟨l, c, h _ _ hl, hc, e⟩
  | .nils, _, e => e
  | .emp, _, e => e
  | .map _, _, ⟨l, hl, e⟩ => ⟨l, h _ _ hl, e⟩
  | .nilm, _, e => e
  | .func _ a b, _, ⟨f, x, y, hf, ha, hb, e⟩ => ⟨f, x, y, fnR.mono h hf, VRL.mono h a ha, VRL.mono h b hb, e⟩
  | .nilf, _, e => e
  | .iface _ a, _, ⟨x, hx, e⟩ => ⟨x, VR.mono h a hx, e⟩
  | .nili, _, e => e
  | .agg cs, _, ⟨l, hl, e⟩ => ⟨l, VRL.mono h cs hl, e⟩
  | .tup cs, _, ⟨l, hl, e⟩ => ⟨l, VRL.mono h cs hl, e⟩
  | .sym _, _, e => e
  | .key _ _, _, ⟨l, hl, e⟩ => ⟨l, h _ _ hl, e⟩
  | .junk, _, _ => trivial
theorem VRL.mono {σ : Sg} {ρ ρ' : Ren} (h : ρ.le ρ') : ∀ (a : List AV) {v : List Value}, VRL σ ρ a v → VRL σ ρ' a v
  | [], _, e => e
  | a :: as, _, ⟨v, vs, e, h1, h2⟩ => ⟨v, vs, e, VR.mono h a h1, VRL.mono h as h2⟩
end

section
variable {σ : Sg} {ρ : Ren}
theorem VRL.length : ∀ {a : List AV} {v : List Value}, VRL σ ρ a v → a.length = v.length
  | [], _, e => by cases e; rfl
  | a :: as, _, ⟨v, vs, e, _, h⟩ => by subst e; simp [VRL.length h]
theorem VRL.get : ∀ {a : List AV} {v : List Value} (h : VRL σ ρ a v) {i : Nat} {x : AV}, a[i]? = some x → ∃ y, v[i]? = some y ∧ VR σ ρ x y
  | [], _, _, i, x, hx => by simp at hx
  | a :: as, _, ⟨v, vs, e, h1, h2⟩, 0, x, hx => by subst e; simp at hx; subst hx; exact ⟨v, by simp, h1⟩
  | a :: as, _, ⟨v, vs, e, h1, h2⟩, i+1, x, hx => by subst e; simp at hx ⊢; exact VRL.get h2 hx
theorem VRL.append : ∀ {a b : List AV} {v u : List Value}, VRL σ ρ a v → VRL σ ρ b u → VRL σ ρ (a ++ b) (v ++ u)
  | [], _, _, _, e, h => by cases e; exact h
  | a :: as, _, _, _, ⟨v, vs, e, h1, h2⟩, h => by subst e; exact ⟨v, vs ++ _, rfl, h1, VRL.append h2 h⟩
theorem VRL.take : ∀ {a : List AV} {v : List Value} (n : Nat), VRL σ ρ a v → VRL σ ρ (a.take n) (v.take n)
  | _, _, 0, _ => rfl
  | [], _, n+1, e => by cases e; rfl
  | a :: as, _, n+1, ⟨v, vs, e, h1, h2⟩ => by subst e; exact ⟨v, vs.take n, rfl, h1, VRL.take n h2⟩
theorem VRL.drop : ∀ {a : List AV} {v : List Value} (n : Nat), VRL σ ρ a v → VRL σ ρ (a.drop n) (v.drop n)
  | _, _, 0, h => h
  | [], _, n+1, e => by cases e; rfl
  | a :: as, _, n+1, ⟨v, vs, e, h1, h2⟩ => by subst e; exact VRL.drop n h2
theorem VRL.of_get : ∀ {a : List AV} {v : List Value}, a.length = v.length → (∀ (i : Nat) (x : AV), a[i]? = some x → ∃ y, v[i]? = some y ∧ VR σ ρ x y) → VRL σ ρ a v
  | [], [], _, _ => rfl
  | [], _ :: _, h, _ => by simp at h
  | a :: as, [], h, _ => by simp at h
  | a :: as, v :: vs, h, hh => ⟨v, vs, rfl, by obtain ⟨y, hy, hr⟩ := hh 0 a rfl; simp at hy; subst hy; exact hr, VRL.of_get (by simpa using h) (fun i x hx => by simpa using hh (i+1) x (by simpa using hx))⟩
end

/-- What lies in a block. -/
def CellsR (P : Program) (σ : Sg) (ρ : Ren) (b : Nat) (l : Loc) (n : Nat) (z : List AV) (p : Nat) (m : Q AV) (elem : TypeId) (ext : Bool) (o : Obj) : Prop :=
  ∃ c fr, o = .cells c elem fr ∧ (∀ i, i < n → ∃ y, c[l.base + i]? = some y ∧ (match cellAt z p m i with | some x => VR σ ρ x y | none => y = σ.u b i)) ∧
    l.base + n ≤ c.size ∧
    (match ext with
     | false => fr.1 = fr.2
     | true => (fr.1 = fr.2 ∨ c.size ≤ fr.1) ∧ ∃ es, sizeOfT P elem = some es ∧ c.size = l.base + l.cap * es)

theorem cell_of {σ : Sg} {ρ : Ren} {z : List AV} {p : Nat} {m : Q AV} {i : Nat} {x : AV} {y u : Value} (h : cellAt z p m i = some x) (hv : VR σ ρ x y) :
    (match cellAt z p m i with | some x => VR σ ρ x y | none => y = u) := by rw [h]; exact hv

def MER (σ : Sg) (ρ : Ren) (e : ME) (x : MapEntry) : Prop := VR σ ρ e.k x.key ∧ VR σ ρ e.v x.val ∧ x.born = e.born
def MEL (σ : Sg) (ρ : Ren) : List ME → List MapEntry → Prop
  | [], l => l = []
  | e :: es, l => ∃ x xs, l = x :: xs ∧ MER σ ρ e x ∧ MEL σ ρ es xs

/-- A frame's temporaries, of which there are n at least. -/
def TR (σ : Sg) (ρ : Ren) (n : Nat) (t : Tm) (c : Array Value) : Prop := n ≤ c.size ∧ ∀ k, VR σ ρ (tget t k) (c.getD k undef)

/-- What an iterator has given out: the keys' own numbers. -/
def KeyL (ρ : Ren) (ks : List (Nat × Nat)) : List Nat → List Nat → Prop
  | [], ids => ids = []
  | d :: D, ids => ∃ i l rest, ids = i :: rest ∧ ρ i = some l ∧ (l.blk, d) ∈ ks ∧ KeyL ρ ks D rest

def ObjR (P : Program) (σ : Sg) (ρ : Ren) (b : Nat) (l : Loc) : AObj → Obj → Prop
  | .cells n z p m elem ext, o => CellsR P σ ρ b l n z p m elem ext o
  | .rom z, o => ∃ c elem fr, o = .cells c elem fr ∧ VRL σ ρ z c.toList ∧ l.base = 0 ∧ fr.1 = fr.2
  | .map es clock, o => ∃ l, MEL σ ρ es l ∧ o = .map l.toArray clock
  | .iter none since seen last, o => l.base = 0 ∧ o = .mapIter none since seen.toArray last
  | .iter (some m) since seen last, o => ∃ x, ρ m = some x ∧ l.base = 0 ∧ o = .mapIter (some x.blk) since seen.toArray last
  | .siter s pos, o => l.base = 0 ∧ o = .stringIter ⟨s.toArray⟩ pos
  | .loop st pe nt tm ps asg body df, o => ∃ fn tmps x, TR σ ρ nt tm tmps ∧ ρ df = some x ∧ o = .loop { state := st, pending := pe, fn := fn, tmps := tmps, params := ps.toArray, assign := asg, body := body, defers := x.blk }
  | .deferred, o => o = .deferred (some [])
  | .iterU m since stamp stepped, o => ∃ x pre, ρ m = some x ∧ l.base = 0 ∧ o = .mapIter (some x.blk) since (pre ++ [stamp]).toArray stepped
  | .iterN .., _ => False
  | .iterE, _ => False
  | .iterK m since kd ks ids last, o => ∃ x D, ρ m = some x ∧ l.base = 0 ∧ since ≤ last ∧ D.Nodup ∧ KeyL ρ ks D ids ∧ o = .mapIter (some x.blk) since D.toArray last
  | .iterM .., _ => False

def AObj.isRom : AObj → Bool | .rom _ => true | .iterU .. => true | _ => false

/-- What an abstract state says of a world. -/
structure Rel (P : Program) (σ : Sg) (ρ : Ren) (s : St) (w : World) : Prop where
  obj : ∀ b o, s.h.get b = some o → ∃ l x, ρ b = some l ∧ w.heap[l.blk]? = some x ∧ ObjR P σ ρ b l o x
  inj : ∀ b b' o o' l l', s.h.get b = some o → s.h.get b' = some o' → ρ b = some l → ρ b' = some l' → l.blk = l'.blk → b = b'
  fresh : ∀ b, s.nx ≤ b → ρ b = none
  glob : ∀ g, g < 1000 → ρ g = some ⟨g, 0, 0⟩
  dom : ∀ b o, s.h.get b = some o → b < s.nx

/-- What a step leaves alone: every block that the state before does not own. -/
structure Frm (ρ : Ren) (s : St) (w w' : World) : Prop where
  size : w.heap.size ≤ w'.heap.size
  keep : ∀ B, B < w.heap.size → (∀ b o l, s.h.get b = some o → o.isRom = false → ρ b = some l → l.blk ≠ B) → w'.heap[B]? = w.heap[B]?
  os : w'.os = w.os
  out : w'.output = w.output
  tape : w'.tape = w.tape
theorem Frm.refl (ρ : Ren) (s : St) (w : World) : Frm ρ s w w := ⟨Nat.le_refl _, fun _ _ _ => rfl, rfl, rfl, rfl⟩

/-- What the state after owns is what the state before owned, or new. -/
structure Own (ρ ρ' : Ren) (s s' : St) (w : World) : Prop where
  le : ρ.le ρ'
  nx : s.nx ≤ s'.nx
  own : ∀ b o l, s'.h.get b = some o → o.isRom = false → ρ' b = some l → (∃ b0 o0 l0, s.h.get b0 = some o0 ∧ o0.isRom = false ∧ ρ b0 = some l0 ∧ l0.blk = l.blk) ∨ w.heap.size ≤ l.blk
  same : ∀ b, b < s.nx → ρ' b = ρ b
  all : ∀ b o l, s'.h.get b = some o → ρ' b = some l → (∃ b0 o0 l0, s.h.get b0 = some o0 ∧ ρ b0 = some l0 ∧ l0.blk = l.blk) ∨ w.heap.size ≤ l.blk

theorem Own.refl (ρ : Ren) (s : St) (w : World) : Own ρ ρ s s w := ⟨Ren.le_refl _, Nat.le_refl _, fun b o l h h1 h2 => .inl ⟨b, o, l, h, h1, h2, rfl⟩, fun _ _ => rfl, fun b o l h h2 => .inl ⟨b, o, l, h, h2, rfl⟩⟩
theorem Own.trans {ρ ρ' ρ'' : Ren} {s s' s'' : St} {w w' : World} (hf : Frm ρ s w w') (h : Own ρ ρ' s s' w) (h' : Own ρ' ρ'' s' s'' w') : Own ρ ρ'' s s'' w :=
  ⟨h.le.trans h'.le, Nat.le_trans h.nx h'.nx, fun b o l hb hr hl => by
    rcases h'.own b o l hb hr hl with ⟨b0, o0, l0, g0, r0, e0, eq0⟩ | hge
    · rcases h.own b0 o0 l0 g0 r0 e0 with ⟨b1, o1, l1, g1, r1, e1, eq1⟩ | hge
      · exact .inl ⟨b1, o1, l1, g1, r1, e1, eq1.trans eq0⟩
      · exact .inr (by omega)
    · exact .inr (Nat.le_trans hf.size hge), fun b hb => (h'.same b (Nat.lt_of_lt_of_le hb h.nx)).trans (h.same b hb), fun b o l hb hl => by
    rcases h'.all b o l hb hl with ⟨b0, o0, l0, g0, e0, eq0⟩ | hge
    · rcases h.all b0 o0 l0 g0 e0 with ⟨b1, o1, l1, g1, e1, eq1⟩ | hge
      · exact .inl ⟨b1, o1, l1, g1, e1, eq1.trans eq0⟩
      · exact .inr (by omega)
    · exact .inr (Nat.le_trans hf.size hge)⟩
theorem Frm.trans {ρ ρ' : Ren} {s s' : St} {w w' w'' : World} (h : Frm ρ s w w') (ho : Own ρ ρ' s s' w) (h' : Frm ρ' s' w' w'') : Frm ρ s w w'' :=
  ⟨Nat.le_trans h.size h'.size, fun B hB hn => by
    rw [← h.keep B hB hn]
    refine h'.keep B (Nat.lt_of_lt_of_le hB h.size) fun b o l hb hr hl he => ?_
    rcases ho.own b o l hb hr hl with ⟨b0, o0, l0, g0, r0, e0, eq0⟩ | hge
    · exact hn b0 o0 l0 g0 r0 e0 (eq0.trans he)
    · omega, h'.os.trans h.os, h'.out.trans h.out, h'.tape.trans h.tape⟩
end Go.AX
set_option linter.unusedVariables false
namespace Go.AX
open Go
variable {P : Program} {σ : Sg} {ρ : Ren} {s : St} {w : World}

theorem abst0_VR : ∀ v : Value, VR σ ρ (abst0 v) v := by
  intro v
  unfold abst0
  split <;> simp [VR]
theorem abst0_VRL : ∀ l : List Value, VRL σ ρ (l.map abst0) l
  | [] => rfl
  | v :: l => ⟨v, l, rfl, abst0_VR v, abst0_VRL l⟩
theorem abst_VR (v : Value) : VR σ ρ (abst v) v := by
  unfold abst
  split
  · exact ⟨_, abst0_VRL _, by simp⟩
  · exact ⟨_, abst0_VRL _, by simp⟩
  · exact abst0_VR _

/-- Values from outside are one cell each. -/
def Plain (σ : Sg) : Prop := ∀ i, (σ.v i).oneCell' = true

theorem scalar_one (hσ : Plain σ) {a : AV} {v : Value} (h : VR σ ρ a v) (hs : scalarA a = true) : v.oneCell' = true := by
  cases a <;> simp [VR, scalarA] at h hs
  case sym i => subst h; exact hσ i
  all_goals first
    | (subst h; rfl)
    | (obtain ⟨_, h⟩ := h; obtain ⟨_, h⟩ := h; subst h; rfl)
    | (obtain ⟨_, _, _, h⟩ := h; obtain ⟨_, h⟩ := h; subst h; rfl)
    | (obtain ⟨_, _, h⟩ := h; obtain ⟨_, _, h⟩ := h; subst h; rfl)
    | (obtain ⟨_, _, h⟩ := h; subst h; rfl)
    | (obtain ⟨_, _, _, h⟩ := h; obtain ⟨_, _, h⟩ := h; obtain ⟨_, h⟩ := h; subst h; rfl)
    | skip

theorem cells_one {v : Value} (h : v.oneCell' = true) : v.cells = #[v] := by
  cases v <;> simp_all [Value.cells, Value.oneCell']

theorem cellsA_VRL (hσ : Plain σ) {a : AV} {v : Value} {c : List AV} (h : VR σ ρ a v) (hc : cellsA a = some c) : VRL σ ρ c v.cells.toList := by
  cases a with
  | agg cs => obtain ⟨l, hl, rfl⟩ := h; cases hc; simpa [Value.cells] using hl
  | tup cs => simp [cellsA] at hc
  | junk => simp [cellsA] at hc
  | _ =>
    all_goals
      have h1 := cells_one (scalar_one hσ h rfl)
      simp [cellsA] at hc
      subst hc
      rw [h1]
      exact ⟨v, [], rfl, h, rfl⟩

/-! ### Reading -/
theorem Rel.cell (hR : Rel P σ ρ s w) {b i : Nat} {x : AV} (h : readCell s b i = some x) :
    ∃ l y, ρ b = some l ∧ w.cell? ⟨l.blk, l.base + i, none⟩ = some y ∧ VR σ ρ x y := by
  unfold readCell at h
  split at h
  · rename_i n z p m e ext hb
    obtain ⟨l, o, hl, ho, hr⟩ := hR.obj _ _ hb
    obtain ⟨c, fr, rfl, hc, _, _⟩ := hr
    split at h
    · rename_i hlt
      obtain ⟨y, hy, hv⟩ := hc i (by simpa [Nat.blt_eq] using hlt)
      rw [h] at hv
      exact ⟨l, y, hl, by simp [World.cell?, ho, hy], hv⟩
    · simp at h
  · rename_i z hb
    obtain ⟨l, o, hl, ho, c, elem, fr, rfl, hc, hbase, _⟩ := hR.obj _ _ hb
    obtain ⟨y, hy, hv⟩ := VRL.get hc h
    exact ⟨l, y, hl, by simp [World.cell?, ho, hbase]; simpa using hy, hv⟩
  · simp at h

theorem readL_get {z : List AV} {p : Nat} {m : Q AV} : ∀ {k i : Nat} {l : List AV}, readL z p m k i = some l → l.length = k ∧ ∀ j, j < k → cellAt z p m (i + j) = l[j]?
  | 0, i, l, h => by simp [readL] at h; subst h; simp
  | k+1, i, l, h => by
    simp only [readL] at h
    split at h
    · rename_i v hv
      split at h
      · rename_i l' hl'
        cases h
        obtain ⟨h1, h2⟩ := readL_get hl'
        refine ⟨by simp [h1], fun j hj => ?_⟩
        cases j with
        | zero => simpa using hv
        | succ j => have := h2 j (by omega); simp only [Nat.succ_eq_add_one] at this; rw [show i + (j + 1) = i + 1 + j by omega, this]; simp
      · simp at h
    · simp at h

theorem readCells_get {b i k : Nat} {l : List AV} (h : readCells s b i k = some l) : l.length = k ∧ ∀ j, j < k → readCell s b (i + j) = l[j]? := by
  unfold readCells at h
  split at h
  · rename_i n z p m e ext hb
    split at h
    · rename_i hle
      obtain ⟨h1, h2⟩ := readL_get h
      have hle' : i + k ≤ n := by simpa using hle
      refine ⟨h1, fun j hj => ?_⟩
      unfold readCell
      simp only [hb]
      have : Nat.blt (i + j) n = true := by rw [Nat.blt_eq]; omega
      rw [this]
      exact h2 j hj
    · simp at h
  · rename_i z hb
    split at h
    · rename_i hle
      cases h
      have hle' : i + k ≤ z.length := by simpa using hle
      refine ⟨by simp; omega, fun j hj => ?_⟩
      unfold readCell
      simp only [hb]
      rw [List.getElem?_take_of_lt hj, List.getElem?_drop]
    · simp at h
  · simp at h

theorem loadCells_run {a : Addr} : ∀ (k i : Nat) (vs : List Value) (acc : Array Value), vs.length = k →
    (∀ j y, vs[j]? = some y → w.cell? (a.add (i + j)) = some y) →
    (loadCellsFrom a i k acc).run P w = .ok (acc ++ vs.toArray) w
  | 0, i, vs, acc, h, _ => by cases vs with | nil => simp [loadCellsFrom] | cons _ _ => simp at h
  | k+1, i, vs, acc, h, hc => by
    cases vs with
    | nil => simp at h
    | cons v vs =>
      have h0 := hc 0 v rfl
      simp only [Nat.add_zero] at h0
      simp only [loadCellsFrom, Sem.run_bind, run_load, h0, Result.andThen_ok]
      rw [loadCells_run k (i+1) vs (acc.push v) (by simpa using h) (fun j y hy => by
        have := hc (j+1) y (by simpa using hy); rwa [show i + 1 + j = i + (j + 1) by omega])]
      simp

theorem add_none (b o n : Nat) : (⟨b, o, none⟩ : Addr).add n = ⟨b, o + n, none⟩ := by
  unfold Addr.add; split
  · rename_i h; subst h; rfl
  · rfl

theorem Rel.cells (hR : Rel P σ ρ s w) {b i k : Nat} {l : List AV} {x : Loc} (hx : ρ b = some x) (h : readCells s b i k = some l) :
    ∃ vs : List Value, VRL σ ρ l vs ∧ vs.length = k ∧ (loadCells ⟨x.blk, x.base + i, none⟩ k).run P w = .ok vs.toArray w := by
  obtain ⟨h1, h2⟩ := readCells_get h
  have key : ∀ (n : Nat) , n ≤ k → ∃ vs : List Value, vs.length = n ∧ ∀ j, j < n → ∃ y v, vs[j]? = some y ∧ l[j]? = some v ∧ w.cell? ⟨x.blk, x.base + (i + j), none⟩ = some y ∧ VR σ ρ v y := by
    intro n
    induction n with
    | zero => exact fun _ => ⟨[], rfl, fun j hj => absurd hj (Nat.not_lt_zero _)⟩
    | succ n ih =>
      intro hn
      obtain ⟨vs, hl, hv⟩ := ih (by omega)
      have hn' : n < l.length := by omega
      have hr := h2 n (by omega)
      rw [List.getElem?_eq_getElem hn'] at hr
      obtain ⟨x', y, hx', hy, hvr⟩ := hR.cell hr
      rw [hx] at hx'; cases hx'
      refine ⟨vs ++ [y], by simp [hl], fun j hj => ?_⟩
      by_cases hjn : j = n
      · subst hjn
        exact ⟨y, _, by simp [← hl], List.getElem?_eq_getElem hn', hy, hvr⟩
      · obtain ⟨y', v', a1, a2, a3, a4⟩ := hv j (by omega)
        exact ⟨y', v', by rw [List.getElem?_append_left (by omega)]; exact a1, a2, a3, a4⟩
  obtain ⟨vs, hl, hv⟩ := key k (Nat.le_refl _)
  refine ⟨vs, VRL.of_get (by omega) (fun j v hj => ?_), hl, ?_⟩
  · have hj' : j < k := by
      rcases Nat.lt_or_ge j l.length with h' | h'
      · omega
      · rw [List.getElem?_eq_none h'] at hj; cases hj
    obtain ⟨y, v', a1, a2, _, a4⟩ := hv j hj'
    rw [a2] at hj; cases hj
    exact ⟨y, a1, a4⟩
  · unfold loadCells
    rw [loadCells_run k 0 vs #[] hl (fun j y hj => ?_)]
    · simp
    · have hj' : j < k := by
        rcases Nat.lt_or_ge j vs.length with h' | h'
        · omega
        · rw [List.getElem?_eq_none h'] at hj; cases hj
      obtain ⟨y', v', a1, _, a3, _⟩ := hv j hj'
      rw [a1] at hj; cases hj
      rw [add_none]
      simpa [Nat.add_assoc] using a3

/-! ### Writing and making -/
theorem Rel.sub (hR : Rel P σ ρ s w) {s' : St} (hs : ∀ b o, s'.h.get b = some o → s.h.get b = some o) (hn : s'.nx = s.nx) : Rel P σ ρ s' w :=
  ⟨fun b o h => hR.obj b o (hs b o h), fun b b' o o' l l' h h' => hR.inj b b' o o' l l' (hs _ _ h) (hs _ _ h'), fun b hb => hR.fresh b (by omega), hR.glob, fun b o h => by rw [hn]; exact hR.dom b o (hs b o h)⟩
theorem Own.sub {s' : St} (hs : ∀ b o, s'.h.get b = some o → s.h.get b = some o) (hn : s'.nx = s.nx) : Own ρ ρ s s' w :=
  ⟨Ren.le_refl _, by omega, fun b o l h h1 h2 => .inl ⟨b, o, l, hs _ _ h, h1, h2, rfl⟩, fun _ _ => rfl, fun b o l h h2 => .inl ⟨b, o, l, hs _ _ h, h2, rfl⟩⟩

theorem put_get (s : St) (b : Nat) (o : AObj) (j : Nat) : (s.put b o).h.get j = if j = b then some o else s.h.get j := Q.get_set _ _ _ _
theorem new_get (s : St) (o : AObj) (j : Nat) : (s.new o).h.get j = if j = s.nx then some o else s.h.get j := Q.get_set _ _ _ _

theorem Rel.upd (hR : Rel P σ ρ s w) {b : Nat} {o0 o : AObj} {l : Loc} {w' : World} {x : Obj} (hb : s.h.get b = some o0) (hl : ρ b = some l)
    (hk : ∀ B, B ≠ l.blk → w'.heap[B]? = w.heap[B]?) (ho : w'.heap[l.blk]? = some x) (hr : ObjR P σ ρ b l o x) : Rel P σ ρ (s.put b o) w' := by
  refine ⟨fun b' o' h => ?_, fun b1 b2 o1 o2 l1 l2 h1 h2 e1 e2 he => ?_, hR.fresh, hR.glob, fun b' o' h => ?_⟩
  · rw [put_get] at h
    split at h
    · rename_i he; subst he; cases h; exact ⟨l, x, hl, ho, hr⟩
    · rename_i hne
      obtain ⟨l', x', hl', hx', hr'⟩ := hR.obj _ _ h
      exact ⟨l', x', hl', by rw [hk _ (fun he => hne (hR.inj _ _ _ _ _ _ h hb hl' hl he))]; exact hx', hr'⟩
  · rw [put_get] at h1 h2
    have g1 : ∃ o, s.h.get b1 = some o := by split at h1 <;> first | (rename_i he; subst he; exact ⟨_, hb⟩) | exact ⟨_, h1⟩
    have g2 : ∃ o, s.h.get b2 = some o := by split at h2 <;> first | (rename_i he; subst he; exact ⟨_, hb⟩) | exact ⟨_, h2⟩
    obtain ⟨_, g1⟩ := g1
    obtain ⟨_, g2⟩ := g2
    exact hR.inj _ _ _ _ _ _ g1 g2 e1 e2 he
  · rw [put_get] at h
    split at h
    · rename_i he; subst he; exact hR.dom _ _ hb
    · exact hR.dom _ _ h
theorem Own.put {b : Nat} {o0 o : AObj} (hb : s.h.get b = some o0) (hr : o0.isRom = false) : Own ρ ρ s (s.put b o) w :=
  ⟨Ren.le_refl _, Nat.le_refl _, fun b' o' l h h1 h2 => by
    rw [put_get] at h
    split at h
    · rename_i he; subst he; exact .inl ⟨_, o0, l, hb, hr, h2, rfl⟩
    · exact .inl ⟨_, o', l, h, h1, h2, rfl⟩, fun _ _ => rfl, fun b' o' l h h2 => by
    rw [put_get] at h
    split at h
    · rename_i he; subst he; exact .inl ⟨_, o0, l, hb, h2, rfl⟩
    · exact .inl ⟨_, o', l, h, h2, rfl⟩⟩
theorem Frm.put {b : Nat} {o0 : AObj} {l : Loc} {w' : World} (hb : s.h.get b = some o0) (hr : o0.isRom = false) (hl : ρ b = some l)
    (hk : ∀ B, B ≠ l.blk → w'.heap[B]? = w.heap[B]?) (hz : w'.heap.size = w.heap.size) (h1 : w'.os = w.os) (h2 : w'.output = w.output) (h3 : w'.tape = w.tape) : Frm ρ s w w' :=
  ⟨by omega, fun B _ hn => hk B (fun he => hn b o0 l hb hr hl he.symm), h1, h2, h3⟩

/-- The renaming with a new block. -/
def Ren.put (ρ : Ren) (b : Nat) (l : Loc) : Ren := fun j => if j = b then some l else ρ j
theorem Rel.le_put (hR : Rel P σ ρ s w) (l : Loc) : ρ.le (ρ.put s.nx l) := fun b x h => by
  unfold Ren.put; split
  · rename_i he; subst he; rw [hR.fresh _ (Nat.le_refl _)] at h; cases h
  · exact h
theorem KeyL.mono {ρ' : Ren} (h : ρ.le ρ') {ks : List (Nat × Nat)} : ∀ {D ids : List Nat}, KeyL ρ ks D ids → KeyL ρ' ks D ids
  | [], _, e => e
  | d :: D, _, ⟨i, l, rest, e, h1, h2, h3⟩ => ⟨i, l, rest, e, h _ _ h1, h2, KeyL.mono h h3⟩
theorem ObjR.mono {ρ' : Ren} (h : ρ.le ρ') {b : Nat} {l : Loc} : ∀ {o : AObj} {x : Obj}, ObjR P σ ρ b l o x → ObjR P σ ρ' b l o x
  | .cells .., x, ⟨c, fr, e, h1, h2, h3⟩ => ⟨c, fr, e, fun i hi => by
      obtain ⟨y, c1, d⟩ := h1 i hi
      refine ⟨y, c1, ?_⟩
      split at d
      · exact VR.mono h _ d
      · exact d, h2, h3⟩
  | .rom _, x, ⟨c, el, fr, e, h1, h2⟩ => ⟨c, el, fr, e, VRL.mono h _ h1, h2⟩
  | .map es _, x, ⟨l', h1, e⟩ => ⟨l', MELmono h es h1, e⟩
  | .iter none .., x, e => e
  | .iter (some _) .., x, ⟨y, h1, h2, e⟩ => ⟨y, h _ _ h1, h2, e⟩
  | .siter .., x, e => e
  | .loop .., x, ⟨fn, tmps, y, h1, h2, e⟩ => ⟨fn, tmps, y, ⟨h1.1, fun k => VR.mono h _ (h1.2 k)⟩, h _ _ h2, e⟩
  | .deferred, x, e => e
  | .iterU .., x, ⟨y, pre, h1, h2, e⟩ => ⟨y, pre, h _ _ h1, h2, e⟩
  | .iterN .., x, e => e.elim
  | .iterE, x, e => e.elim
  | .iterK .., x, ⟨y, D, h1, h2, h3, h4, h5, e⟩ => ⟨y, D, h _ _ h1, h2, h3, h4, KeyL.mono h h5, e⟩
  | .iterM .., x, e => e.elim
where
  MELmono {ρ' : Ren} (h : ρ.le ρ') : ∀ (es : List ME) {l : List MapEntry}, MEL σ ρ es l → MEL σ ρ' es l
  | [], _, e => e
  | e :: es, _, ⟨x, xs, e', ⟨a, b, c⟩, h2⟩ => ⟨x, xs, e', ⟨VR.mono h _ a, VR.mono h _ b, c⟩, MELmono h es h2⟩

theorem Rel.lt (hR : Rel P σ ρ s w) {b : Nat} {o : AObj} {l : Loc} (h : s.h.get b = some o) (hl : ρ b = some l) : l.blk < w.heap.size := by
  obtain ⟨l', x, hl', hx, _⟩ := hR.obj _ _ h
  rw [hl] at hl'; cases hl'
  rcases Nat.lt_or_ge l.blk w.heap.size with h' | h'
  · exact h'
  · rw [Array.getElem?_eq_none h'] at hx; cases hx

/-- A new block at the heap's end. -/
theorem Rel.new (hR : Rel P σ ρ s w) {o : AObj} {x : Obj} {l : Loc} {w' : World} (hb : l.blk = w.heap.size) (hw : w'.heap = w.heap.push x)
    (hr : ObjR P σ (ρ.put s.nx l) s.nx l o x) : Rel P σ (ρ.put s.nx l) (s.new o) w' := by
  have hle := hR.le_put l
  have hsame : ∀ j, j ≠ s.nx → (ρ.put s.nx l) j = ρ j := fun j hj => by simp [Ren.put, hj]
  have hnew : (ρ.put s.nx l) s.nx = some l := by simp [Ren.put]
  have hold : ∀ {b o1 l1}, s.h.get b = some o1 → (ρ.put s.nx l) b = some l1 → b ≠ s.nx ∧ ρ b = some l1 := fun {b o1 l1} h h1 => by
    have := hR.dom _ _ h
    have hne : b ≠ s.nx := by omega
    exact ⟨hne, by rwa [hsame _ hne] at h1⟩
  refine ⟨fun b' o' h => ?_, fun b1 b2 o1 o2 l1 l2 h1 h2 e1 e2 he => ?_, fun b h => ?_, fun g hg => ?_, fun b' o' h => ?_⟩
  · rw [new_get] at h
    split at h
    · rename_i he; subst he; cases h
      exact ⟨l, x, hnew, by rw [hw, hb]; simp, hr⟩
    · rename_i hne
      obtain ⟨l', x', hl', hx', hr'⟩ := hR.obj _ _ h
      refine ⟨l', x', hle _ _ hl', ?_, hr'.mono hle⟩
      have := hR.lt h hl'
      rw [hw, Array.getElem?_push_lt this]
      rw [Array.getElem?_eq_getElem this] at hx'
      exact hx'
  · rw [new_get] at h1 h2
    split at h1 <;> split at h2
    · simp_all
    · rename_i a b
      subst a
      rw [hnew] at e1; cases e1
      have := hR.lt h2 (hold h2 e2).2
      omega
    · rename_i a b
      subst b
      rw [hnew] at e2; cases e2
      have := hR.lt h1 (hold h1 e1).2
      omega
    · exact hR.inj _ _ _ _ _ _ h1 h2 (hold h1 e1).2 (hold h2 e2).2 he
  · have : (s.new o).nx = s.nx + 1 := rfl
    rw [this] at h
    rw [hsame _ (by omega)]
    exact hR.fresh _ (by omega)
  · exact hle _ _ (hR.glob g hg)
  · have : (s.new o).nx = s.nx + 1 := rfl
    rw [new_get] at h
    rw [this]
    split at h
    · omega
    · have := hR.dom _ _ h; omega
theorem Own.new (hR : Rel P σ ρ s w) {o : AObj} {l : Loc} (hb : l.blk = w.heap.size) : Own ρ (ρ.put s.nx l) s (s.new o) w := by
  refine ⟨hR.le_put l, Nat.le_succ _, fun b' o' l' h h1 h2 => ?_, fun b' h => if_neg (by omega), fun b' o' l' h h2 => ?_⟩
  · rw [new_get] at h
    split at h
    · rename_i he; subst he
      simp [Ren.put] at h2; subst h2
      exact .inr (by omega)
    · rename_i hne
      exact .inl ⟨b', o', l', h, h1, by simpa [Ren.put, hne] using h2, rfl⟩
  · rw [new_get] at h
    split at h
    · rename_i he; subst he
      simp [Ren.put] at h2; subst h2
      exact .inr (by omega)
    · rename_i hne
      exact .inl ⟨b', o', l', h, by simpa [Ren.put, hne] using h2, rfl⟩
theorem Frm.push {x : Obj} {w' : World} (hw : w'.heap = w.heap.push x) (h1 : w'.os = w.os) (h2 : w'.output = w.output) (h3 : w'.tape = w.tape) : Frm ρ s w w' :=
  ⟨by rw [hw]; simp, fun B hB _ => by rw [hw, Array.getElem?_push_lt hB]; exact (Array.getElem?_eq_getElem hB).symm, h1, h2, h3⟩

/-! ### One cell, several cells -/
theorem cell_in {b : Nat} {l : Loc} {n : Nat} {z : List AV} {p : Nat} {m : Q AV} {e : TypeId} {ext : Bool} {c : Array Value} {fr : Nat × Nat} {i : Nat}
    (h : CellsR P σ ρ b l n z p m e ext (.cells c e fr)) (hi : i < n) : ∃ y, c[l.base + i]? = some y := by
  obtain ⟨c', fr', e', h1, _, _⟩ := h
  cases e'
  obtain ⟨y, hy, _⟩ := h1 i hi
  exact ⟨y, hy⟩

theorem Rel.store1 (hR : Rel P σ ρ s w) {b i n p : Nat} {z : List AV} {m : Q AV} {e : TypeId} {ext : Bool} {l : Loc} {x : AV} {y : Value}
    (hb : s.h.get b = some (.cells n z p m e ext)) (hl : ρ b = some l) (hi : i < n) (hv : VR σ ρ x y) (hy : y.oneCell' = true) :
    (store ⟨l.blk, l.base + i, none⟩ y).run P w = .ok () (w.setCell ⟨l.blk, l.base + i, none⟩ y) ∧
    Rel P σ ρ (s.put b (.cells n z p (m.set (keyOf p i) x) e ext)) (w.setCell ⟨l.blk, l.base + i, none⟩ y) := by
  obtain ⟨l', o, hl', ho, hr⟩ := hR.obj _ _ hb
  rw [hl] at hl'; cases hl'
  obtain ⟨c, fr, rfl, hc, hsz, hext⟩ := hr
  obtain ⟨y0, hy0, _⟩ := hc i hi
  have hlt : l.base + i < c.size := by omega
  have hfr : w.frozen? ⟨l.blk, l.base + i, none⟩ = false := by
    obtain ⟨f1, f2⟩ := fr
    simp only [World.frozen?, ho]
    cases ext <;> simp at hext ⊢ <;> omega
  have hblk : l.blk < w.heap.size := hR.lt hb hl
  constructor
  · rw [run_store _ _ _ _ _ hy]
    simp [World.cell?, ho, hy0, hfr]
  · refine hR.upd hb hl (fun B hB => ?_) (x := .cells (c.setIfInBounds (l.base + i) y) e fr) ?_ ?_
    · simp only [World.setCell]
      rw [Array.getElem?_modify]
      rw [if_neg (fun h => hB h.symm)]
    · simp only [World.setCell]
      rw [Array.getElem?_modify]
      simp [ho]
    · refine ⟨_, _, rfl, fun j hj => ?_, by simpa using hsz, by simpa using hext⟩
      by_cases hji : j = i
      · subst hji
        refine ⟨y, by simp [hlt], ?_⟩
        simp only [cellAt, cell_get_set, if_pos]
        exact hv
      · obtain ⟨y', hy', hv'⟩ := hc j hj
        refine ⟨y', by rw [Array.getElem?_setIfInBounds_ne (by omega)]; exact hy', ?_⟩
        simp only [cellAt, cell_get_set, if_neg hji] at hv' ⊢
        exact hv'

theorem Rel.congr (hR : Rel P σ ρ s w) {s' : St} (h : ∀ b, s'.h.get b = s.h.get b) (hn : s'.nx = s.nx) : Rel P σ ρ s' w :=
  hR.sub (fun b o hb => by rwa [h] at hb) hn

theorem setCell_heap_size (w : World) (a : Addr) (v : Value) : (w.setCell a v).heap.size = w.heap.size := by simp [World.setCell]
theorem Frm.setCell {b : Nat} {o0 : AObj} {l : Loc} {i : Nat} {v : Value} (hb : s.h.get b = some o0) (hr : o0.isRom = false) (hl : ρ b = some l) : Frm ρ s w (w.setCell ⟨l.blk, i, none⟩ v) :=
  .put hb hr hl (fun B hB => by simp only [World.setCell]; rw [Array.getElem?_modify, if_neg (fun h => hB h.symm)]) (by simp [World.setCell]) rfl rfl rfl

theorem Rel.storeL {b n p : Nat} {z : List AV} {e : TypeId} {ext : Bool} {l : Loc} (hσ : Plain σ) : ∀ (xs : List AV) (ys : List Value) (i0 i : Nat) (m : Q AV) (s : St) (w : World),
    Rel P σ ρ s w → s.h.get b = some (.cells n z p m e ext) → ρ b = some l → i + xs.length ≤ n → VRL σ ρ xs ys → xs.all scalarA = true →
    ∀ (off : Nat), off + i0 = i → 
    ∃ w', (storeCells ⟨l.blk, l.base + off, none⟩ ys i0).run P w = .ok () w' ∧ Rel P σ ρ (s.put b (.cells n z p (setL p m i xs) e ext)) w' ∧ Frm ρ s w w' ∧ w'.heap.size = w.heap.size
  | [], ys, i0, i, m, s, w, hR, hb, hl, hi, hv, _, off, ho => by
    cases hv
    refine ⟨w, by simp [storeCells], hR.congr (fun j => ?_) rfl, Frm.refl _ _ _, rfl⟩
    rw [put_get]; split
    · rename_i he; subst he; rw [hb]; rfl
    · rfl
  | x :: xs, ys, i0, i, m, s, w, hR, hb, hl, hi, hv, hs, off, ho => by
    obtain ⟨y, ys, rfl, h1, h2⟩ := hv
    simp only [List.all_cons, Bool.and_eq_true] at hs
    simp only [List.length_cons] at hi
    have hlt : i < n := by omega
    obtain ⟨g1, g2⟩ := hR.store1 hb hl hlt h1 (scalar_one hσ h1 hs.1)
    have hb' : (s.put b (.cells n z p (m.set (keyOf p i) x) e ext)).h.get b = some (.cells n z p (m.set (keyOf p i) x) e ext) := by rw [put_get]; simp
    obtain ⟨w', k1, k2, k3, k4⟩ := Rel.storeL hσ xs ys (i0 + 1) (i + 1) (m.set (keyOf p i) x) _ _ g2 hb' hl (by omega) h2 hs.2 off (by omega)
    refine ⟨w', ?_, k2.congr (fun j => ?_) rfl, ?_, by rw [k4, setCell_heap_size]⟩
    · simp only [storeCells, Sem.run_bind, add_none]
      rw [show l.base + off + i0 = l.base + i by omega, g1]
      simpa using k1
    · simp only [put_get, setL]; split <;> rfl
    · exact Frm.trans (Frm.setCell hb rfl hl) (Own.put hb rfl) k3

theorem Rel.writeCells (hσ : Plain σ) (hR : Rel P σ ρ s w) {b i : Nat} {xs : List AV} {ys : List Value} {s' : St} {l : Loc} (hl : ρ b = some l) (hv : VRL σ ρ xs ys) (h : writeCells s b i xs = some s') :
    ∃ w', (storeCells ⟨l.blk, l.base + i, none⟩ ys 0).run P w = .ok () w' ∧ Rel P σ ρ s' w' ∧ Own ρ ρ s s' w ∧ Frm ρ s w w' := by
  unfold AX.writeCells at h
  split at h
  · rename_i n z p m e ext hb
    split at h
    · rename_i hle hsc
      cases h
      obtain ⟨w', h1, h2, h3, _⟩ := Rel.storeL hσ xs ys 0 i m s w hR hb hl (by simpa using hle) hv hsc i (by omega)
      exact ⟨w', h1, h2, Own.put hb rfl, h3⟩
    · cases h
  · cases h
end Go.AX
set_option linter.unusedVariables false
namespace Go.AX
open Go
variable {P : Program} {σ : Sg} {ρ : Ren} {s : St} {w : World}

/-! ### Types -/
theorem underlying_run {t : TypeId} {d : TypeDesc} (h : P.underlying t = some d) : (underlying t).run P w = .ok d w := by
  simp [underlying, h]
theorem typeInfo_run {t : TypeId} {i : TypeInfo} (h : P.info? t = some i) : (typeInfo t).run P w = .ok i w := by
  simp [typeInfo, h]
theorem info_of_underlying {t : TypeId} {d : TypeDesc} (h : P.underlying t = some d) : ∃ i, P.info? t = some i := by
  unfold Program.underlying at h
  cases hi : P.info? t with
  | none => simp [hi] at h
  | some i => exact ⟨i, rfl⟩
theorem isAgg_run {t : TypeId} {b : Bool} (h : isAggT P t = some b) : (isAgg t).run P w = .ok b w := by
  unfold isAggT at h
  split at h <;> try (cases h)
  all_goals (rename_i hd; simp [isAgg, underlying_run hd])
theorem sizeOf_run {t : TypeId} {n : Nat} (h : sizeOfT P t = some n) : (sizeOf t).run P w = .ok n w := by
  unfold sizeOfT at h
  split at h
  · rename_i i hi; cases h; simp [sizeOf, typeInfo_run hi]
  · cases h
theorem zeroValue_run {t : TypeId} {z : AV} (h : zeroOf P t = some z) : ∃ v, (zeroValue t).run P w = .ok v w ∧ VR σ ρ z v := by
  unfold zeroOf at h
  split at h
  · rename_i i hi
    split at h
    · rename_i v hv; cases h; exact ⟨v, by simp [zeroValue, typeInfo_run hi, hv], abst_VR v⟩
    · cases h
  · cases h
theorem zeroCells_run (hσ : Plain σ) {t : TypeId} {z : List AV} (h : zeroCells P t = some z) : ∃ v, (zeroValue t).run P w = .ok v w ∧ VRL σ ρ z v.cells.toList := by
  unfold zeroCells at h
  split at h
  · rename_i a ha
    obtain ⟨v, hv, hr⟩ := zeroValue_run (σ := σ) (ρ := ρ) (w := w) ha
    exact ⟨v, hv, cellsA_VRL hσ hr h⟩
  · cases h

theorem loadV_run (hR : Rel P σ ρ s w) {t : TypeId} {b o : Nat} {x : AV} {l : Loc} (hl : ρ b = some l) (h : loadV P s t b o = some x) :
    ∃ v, (loadVar t ⟨l.blk, l.base + o, none⟩).run P w = .ok v w ∧ VR σ ρ x v := by
  unfold loadV at h
  split at h
  · rename_i ha
    split at h
    · rename_i n hn
      split at h
      · rename_i c hc
        cases h
        obtain ⟨vs, h1, _, h3⟩ := hR.cells hl hc
        exact ⟨.agg vs.toArray, by simp [loadVar, isAgg_run ha, sizeOf_run hn, h3], vs, h1, rfl⟩
      · cases h
    · cases h
  · rename_i ha
    obtain ⟨l', y, hl', hy, hv⟩ := hR.cell h
    rw [hl] at hl'; cases hl'
    exact ⟨y, by simp [loadVar, isAgg_run ha, hy], hv⟩
  · cases h

/-- What is asked of an operation. -/
def Came (P : Program) (σ : Sg) (ρ : Ren) (s : St) (w : World) (v : AV) (s' : St) (res : Result Next) : Prop :=
  ∃ cv w' ρ', (res = .ok (.value cv) w' ∨ (res = .ok .skip w' ∧ cv = undef)) ∧ VR σ ρ' v cv ∧ Rel P σ ρ' s' w' ∧ Own ρ ρ' s s' w ∧ Frm ρ s w w'
theorem Came.same {v : AV} {cv : Value} {res : Result Next} (hR : Rel P σ ρ s w) (h : res = .ok (.value cv) w) (hv : VR σ ρ v cv) : Came P σ ρ s w v s res :=
  ⟨cv, w, ρ, .inl h, hv, hR, Own.refl _ _ _, Frm.refl _ _ _⟩

def vOf (x : Sem Value) : Sem Next := do pure (.value (← x))
def uOf (x : Sem Unit) : Sem Next := do x; pure .skip
theorem vOf_run {x : Sem Value} {v : Value} {w' : World} (h : x.run P w = .ok v w') : (vOf x).run P w = .ok (.value v) w' := by
  simp [vOf, h]
theorem uOf_run {x : Sem Unit} {w' : World} (h : x.run P w = .ok () w') : (uOf x).run P w = .ok .skip w' := by
  simp [uOf, h]

theorem ptr_VR {b o : Nat} {v : Value} (h : VR σ ρ (.ptr b o) v) : ∃ l, ρ b = some l ∧ v = .pointer (some ⟨l.blk, l.base + o, none⟩) := h

theorem op_load (hR : Rel P σ ρ s w) {t : TypeId} {a : AV} {ca : Value} (ha : VR σ ρ a ca) {v : AV} {s' : St} (h : xLoad P s t a = .val v s') :
    Came P σ ρ s w v s' ((vOf (Instr.loadAt t ca)).run P w) := by
  unfold xLoad at h
  split at h
  · rename_i b o
    obtain ⟨l, hl, rfl⟩ := ha
    unfold orBad at h
    split at h
    · rename_i x hx
      cases h
      obtain ⟨cv, h1, h2⟩ := loadV_run hR hl hx
      exact .same hR (vOf_run (by simp [Instr.loadAt, Instr.sureAddr, h1])) h2
    · cases h
  · cases h

theorem op_store (hσ : Plain σ) (hR : Rel P σ ρ s w) {t : TypeId} {a x : AV} {ca cx : Value} (ha : VR σ ρ a ca) (hx : VR σ ρ x cx) {v : AV} {s' : St} (h : xStore P s t a x = .val v s') :
    Came P σ ρ s w v s' ((uOf (Instr.storeAt t ca cx)).run P w) := by
  unfold xStore at h
  split at h
  · rename_i b i
    obtain ⟨l, hl, rfl⟩ := ha
    split at h
    · rename_i c hc
      split at h
      · rename_i n hn
        split at h
        · rename_i hlen
          unfold orBadS at h
          split at h
          · rename_i s1 hs1
            cases h
            have hv := cellsA_VRL hσ hx hc
            obtain ⟨w', h1, h2, h3, h4⟩ := hR.writeCells hσ hl hv hs1
            have hsz : cx.cells.size = n := by have := hv.length; simp only [Array.length_toList] at this; rw [← this]; simpa using hlen
            refine ⟨undef, w', ρ, .inr ⟨uOf_run ?_, rfl⟩, ⟨[], rfl, rfl⟩, h2, h3, h4⟩
            simp [Instr.storeAt, Instr.sureAddr, storeVar, sizeOf_run hn, hsz, h1]
          · cases h
        · cases h
      · cases h
    · cases h
  · cases h

/-- A row that is new, of cells that are known all. -/
theorem came_row (hR : Rel P σ ρ s w) {c : List AV} {cs : Array Value} {e : TypeId} (hv : VRL σ ρ c cs.toList) {res : Result Next} {w' : World} {v : AV} {cv : Value}
    (hw : w'.heap = w.heap.push (.cells cs e)) (h1 : w'.os = w.os) (h2 : w'.output = w.output) (h3 : w'.tape = w.tape)
    (hres : res = .ok (.value cv) w') (hcv : VR σ (ρ.put s.nx ⟨w.heap.size, 0, 0⟩) v cv) :
    Came P σ ρ s w v (s.new (.cells c.length c c.length Q.e e false)) res := by
  refine ⟨cv, w', _, .inl hres, hcv, hR.new rfl hw ?_, Own.new hR rfl, Frm.push hw h1 h2 h3⟩
  refine ⟨cs, (0, 0), rfl, fun i hi => ?_, ?_, rfl⟩
  · obtain ⟨x, hx⟩ : ∃ x, c[i]? = some x := ⟨_, List.getElem?_eq_getElem hi⟩
    obtain ⟨y, hy, hvr⟩ := VRL.get hv hx
    refine ⟨y, by simpa using hy, cell_of (x := x) ?_ (VR.mono (hR.le_put _) _ hvr)⟩
    rw [cellAt_e, show Nat.mod i c.length = i from Nat.mod_eq_of_lt hi]
    exact hx
  · have := hv.length
    simp at this ⊢; omega

theorem newVar_run {t : TypeId} {v : Value} : (newVar t v).run P w = .ok ⟨w.heap.size, 0, none⟩ { w with heap := w.heap.push (.cells v.cells t) } := by
  simp [newVar, newRow]
theorem newRow_run {t : TypeId} {c : Array Value} : (newRow t c).run P w = .ok ⟨w.heap.size, 0, none⟩ { w with heap := w.heap.push (.cells c t) } := by
  simp [newRow]
theorem put_ptr {b : Nat} {l : Loc} : VR σ (ρ.put b l) (.ptr b 0) (.pointer (some ⟨l.blk, l.base, none⟩)) := ⟨l, by simp [Ren.put], by simp⟩

theorem op_alloc (hσ : Plain σ) (hR : Rel P σ ρ s w) {t : TypeId} {v : AV} {s' : St} (h : xAlloc P s t = .val v s') :
    Came P σ ρ s w v s' ((vOf (Instr.alloc t true (.tuple #[]))).run P w) := by
  unfold xAlloc at h
  split at h
  · rename_i c hc
    cases h
    obtain ⟨z, hz, hv⟩ := zeroCells_run hσ (ρ := ρ) (w := w) hc
    refine came_row hR hv (w' := { w with heap := w.heap.push (.cells z.cells t) }) rfl rfl rfl rfl (vOf_run (v := .pointer (some ⟨w.heap.size, 0, none⟩)) ?_) put_ptr
    simp [Instr.alloc, hz, newVar_run]
  · cases h
theorem op_box (hσ : Plain σ) (hR : Rel P σ ρ s w) {t : TypeId} {x : AV} {cx : Value} (hx : VR σ ρ x cx) {v : AV} {s' : St} (h : xBox s t x = .val v s') :
    Came P σ ρ s w v s' ((vOf (Instr.box t cx)).run P w) := by
  unfold xBox at h
  split at h
  · rename_i c hc
    cases h
    refine came_row hR (cellsA_VRL hσ hx hc) (w' := { w with heap := w.heap.push (.cells cx.cells t) }) rfl rfl rfl rfl (vOf_run (v := .pointer (some ⟨w.heap.size, 0, none⟩)) ?_) put_ptr
    simp [Instr.box, newVar_run]
  · cases h

/-! ### Small ones -/
theorem op_nilCheck (hR : Rel P σ ρ s w) {x : AV} {cx : Value} (hx : VR σ ρ x cx) {v : AV} {s' : St} (h : xNilCheck P s x = .val v s') :
    s' = s ∧ v = x ∧ (∀ b o, x = .ptr b o → ∃ a, cx = .pointer (some a)) := by
  unfold xNilCheck at h
  (repeat' split at h) <;> first | (cases h; done) | (cases h; refine ⟨rfl, rfl, fun b o e => ?_⟩; first | (cases e; obtain ⟨l, _, e⟩ := hx; exact ⟨_, e⟩) | cases e)

theorem op_field (hR : Rel P σ ρ s w) {t : TypeId} {x : AV} {cx : Value} {f : Nat} (hx : VR σ ρ x cx) {v : AV} {s' : St} (h : xField P s t x f = .val v s') :
    Came P σ ρ s w v s' ((vOf (Instr.field t cx f)).run P w) := by
  unfold xField at h
  split at h
  · rename_i cs
    obtain ⟨l, hl, rfl⟩ := hx
    split at h
    · rename_i fd hf
      unfold fieldOf at hf
      split at hf
      · rename_i fields hu
        unfold orBad at h
        split at h
        · rename_i y hy
          cases h
          unfold partA at hy
          split at hy
          · rename_i ha
            split at hy
            · rename_i n hn
              cases hy
              refine .same hR (cv := .agg (l.toArray.extract fd.offset (fd.offset + n))) (vOf_run ?_) ?_
              · simp [Instr.field, underlying_run hu, hf, asAgg, part, isAgg_run ha, sizeOf_run hn]
              · refine ⟨(l.drop fd.offset).take n, VRL.take n (VRL.drop _ hl), ?_⟩
                congr 1
                apply Array.ext'
                simp [List.extract]
            · cases hy
          · rename_i ha
            obtain ⟨y', h1, h2⟩ := VRL.get hl hy
            refine .same hR (cv := y') (vOf_run ?_) h2
            simp [Instr.field, underlying_run hu, hf, asAgg, part, isAgg_run ha, h1]
          · cases hy
        · cases h
      · cases hf
    · cases h
  · cases h
theorem op_extract (hR : Rel P σ ρ s w) {x : AV} {cx : Value} {i : Nat} (hx : VR σ ρ x cx) {v : AV} {s' : St} (h : xExtract s x i = .val v s') :
    Came P σ ρ s w v s' ((vOf (Instr.extract cx i)).run P w) := by
  unfold xExtract at h
  split at h
  · rename_i cs
    obtain ⟨l, hl, rfl⟩ := hx
    split at h
    · rename_i y hy
      cases h
      obtain ⟨y', h1, h2⟩ := VRL.get hl hy
      exact .same hR (cv := y') (vOf_run (by simp [Instr.extract, h1])) h2
    · cases h
  · cases h
theorem fieldAt_run {t : TypeId} {f off : Nat} {ft : TypeId} (h : fieldAt P t f = some (off, ft)) :
    ∃ fields fd n, P.underlying t = some (.struct fields) ∧ fields[f]? = some fd ∧ fd.offset = off ∧ fd.type = ft ∧ sizeOfT P ft = some (n + 1) := by
  unfold fieldAt at h
  split at h
  · rename_i fd hf
    split at h
    · rename_i n hn
      cases h
      unfold fieldOf at hf
      split at hf
      · rename_i fields hu
        exact ⟨fields, fd, n, hu, hf, rfl, rfl, hn⟩
      · cases hf
    · cases h
  · cases h
theorem op_fieldAddr (hR : Rel P σ ρ s w) {t : TypeId} {x : AV} {cx : Value} {f : Nat} (hx : VR σ ρ x cx) {v : AV} {s' : St} (h : xFieldAddr P s t x f = .val v s') :
    Came P σ ρ s w v s' ((vOf (Instr.fieldAt t cx f)).run P w) := by
  unfold xFieldAddr at h
  split at h
  · rename_i b o
    obtain ⟨l, hl, rfl⟩ := hx
    split at h
    · rename_i off ft hf
      cases h
      obtain ⟨fields, fd, n, hu, hfd, rfl, rfl, hn⟩ := fieldAt_run hf
      refine .same hR (cv := .pointer (some ⟨l.blk, l.base + o + fd.offset, none⟩)) (vOf_run ?_) ⟨l, hl, by rw [Nat.add_assoc]⟩
      simp [Instr.fieldAt, underlying_run hu, hfd, Instr.sureAddr, fieldPlace, sizeOf_run hn, add_none]
    · cases h
  · cases h
theorem asN_VR {x : AV} {cx : Value} {i : Nat} (hx : VR σ ρ x cx) (h : asN x = some i) : ∃ k, cx = .int k (i : Int) := by
  unfold asN at h
  split at h
  · cases h; exact ⟨_, hx⟩
  · cases h
theorem op_indexAddr (hR : Rel P σ ρ s w) {t : TypeId} {x ix : AV} {cx ci : Value} (hx : VR σ ρ x cx) (hi : VR σ ρ ix ci) {v : AV} {s' : St} (h : xIndexAddr P s t x ix = .val v s') :
    Came P σ ρ s w v s' ((vOf (Instr.indexAt t cx ci)).run P w) := by
  unfold xIndexAddr at h
  split at h
  · rename_i i hi'
    obtain ⟨k, rfl⟩ := asN_VR hi hi'
    split at h
    · rename_i n sz he
      unfold elemAt at he
      split at he
      · rename_i n' e hu
        split at he
        · rename_i sz' hsz
          cases he
          split at h
          · rename_i b o
            obtain ⟨l, hl, rfl⟩ := hx
            split at h
            · rename_i hlt
              cases h
              have hlt' : i < n := by simpa [Nat.blt_eq] using hlt
              refine .same hR (cv := .pointer (some ⟨l.blk, l.base + o + i * sz, none⟩)) (vOf_run ?_) ⟨l, hl, by rw [Nat.add_assoc]⟩
              simp [Instr.indexAt, asIntOf, underlying_run hu, Instr.sureAddr, sizeOf_run hsz, add_none]
              intro hh; omega
            · cases h
          · cases h
        · cases he
      · split at he <;> cases he
      · cases he
    · rename_i sz he
      unfold elemAt at he
      split at he
      · split at he <;> cases he
      · rename_i e hu
        split at he
        · rename_i sz' hsz
          cases he
          split at h
          · rename_i b o len c
            obtain ⟨l, cc, hl, hc, rfl⟩ := hx
            split at h
            · rename_i hlt
              cases h
              have hlt' : i < len := by simpa [Nat.blt_eq] using hlt
              refine .same hR (cv := .pointer (some ⟨l.blk, l.base + o + i * sz, none⟩)) (vOf_run ?_) ⟨l, hl, by rw [Nat.add_assoc]⟩
              simp [Instr.indexAt, asIntOf, underlying_run hu, sizeOf_run hsz, add_none]
              intro hh; omega
            · cases h
          · cases h
        · cases he
      · cases he
    · cases h
  · cases h
end Go.AX
set_option linter.unusedVariables false
namespace Go.AX
open Go
variable {P : Program} {σ : Sg} {ρ : Ren} {s : St} {w : World}

theorem wrap_i64_small (m : Nat) (h : m < 9223372036854775808) : IntKind.wrap .i64 (m : Int) = m := by
  show (if (true && decide ((m : Int) % (18446744073709551616 : Int) ≥ (9223372036854775808 : Int))) = true then (m : Int) % (18446744073709551616 : Int) - (18446744073709551616 : Int) else (m : Int) % (18446744073709551616 : Int)) = m
  have e : (m : Int) % (18446744073709551616 : Int) = m := by omega
  rw [e, if_neg (by simp; omega)]
theorem wrapN_eq (k : IntKind) (m : Nat) : wrapN k m = k.wrap (m : Int) := by
  cases k
  case i64 =>
    simp only [wrapN]
    split
    · rename_i h
      exact (wrap_i64_small m (by simpa [Nat.blt_eq] using h)).symm
    · rfl
  all_goals rfl
theorem wrapI_eq (k : IntKind) (n : Int) : wrapI k n = k.wrap n := by
  cases n with
  | ofNat m => exact wrapN_eq k m
  | negSucc m => rfl
theorem addI_eq (k : IntKind) (a b : Int) : addI k a b = k.wrap (a + b) := by
  unfold addI; split
  · rw [wrapN_eq]; rfl
  · rfl
theorem subI_eq (k : IntKind) (a b : Int) : subI k a b = k.wrap (a - b) := by
  unfold subI; split
  · rename_i x y
    split
    · rename_i h
      have h : y ≤ x := by simpa using h
      rw [wrapN_eq]; congr 1
      show ((x - y : Nat) : Int) = (x : Int) - (y : Int)
      omega
    · rfl
  · rfl
theorem mulI_eq (k : IntKind) (a b : Int) : mulI k a b = k.wrap (a * b) := by
  unfold mulI; split
  · rw [wrapN_eq]; rfl
  · rfl
theorem pow2_eq (k : IntKind) : pow2 k = 2 ^ k.bits := by cases k <;> rfl
theorem ofInt_toNat (k : IntKind) (x : Nat) : (BitVec.ofInt k.bits (Int.ofNat x)).toNat = x % pow2 k := by
  rw [pow2_eq]
  have : BitVec.ofInt k.bits (Int.ofNat x) = BitVec.ofNat k.bits x := by
    exact BitVec.ofInt_natCast k.bits x
  rw [this, BitVec.toNat_ofNat]
theorem andI_eq (k : IntKind) (a b : Int) : andI k a b = k.wrap ((BitVec.ofInt k.bits a &&& BitVec.ofInt k.bits b).toNat : Nat) := by
  unfold andI; split
  · rw [wrapN_eq, BitVec.toNat_and, ofInt_toNat, ofInt_toNat]; rfl
  · rfl
theorem orI_eq (k : IntKind) (a b : Int) : orI k a b = k.wrap ((BitVec.ofInt k.bits a ||| BitVec.ofInt k.bits b).toNat : Nat) := by
  unfold orI; split
  · rw [wrapN_eq, BitVec.toNat_or, ofInt_toNat, ofInt_toNat]; rfl
  · rfl
theorem xorI_eq (k : IntKind) (a b : Int) : xorI k a b = k.wrap ((BitVec.ofInt k.bits a ^^^ BitVec.ofInt k.bits b).toNat : Nat) := by
  unfold xorI; split
  · rw [wrapN_eq, BitVec.toNat_xor, ofInt_toNat, ofInt_toNat]; rfl
  · rfl
theorem andNotI_eq (k : IntKind) (a b : Int) : andNotI k a b = k.wrap ((BitVec.ofInt k.bits a &&& ~~~ BitVec.ofInt k.bits b).toNat : Nat) := by
  unfold andNotI; split
  · rw [wrapN_eq, BitVec.toNat_and, BitVec.toNat_not, ofInt_toNat, ofInt_toNat, ← pow2_eq]; rfl
  · rfl
theorem eqI_eq (a b : Int) : eqI a b = (a == b) := by
  cases a <;> cases b <;> simp only [eqI]
  · rename_i x y; rw [Bool.eq_iff_iff]; simp; exact ⟨fun h => by rw [h], fun h => by injection h⟩
  · rename_i x y; symm; simp
  · rename_i x y; symm; simp
  · rename_i x y; rw [Bool.eq_iff_iff]; simp
theorem ltI_eq (a b : Int) : ltI a b = decide (a < b) := by
  cases a <;> cases b <;> simp only [ltI] <;> rename_i x y
  · rw [Bool.eq_iff_iff]; simp [Nat.blt_eq]
  · symm; simp; omega
  · symm; simp; omega
  · rw [Bool.eq_iff_iff]; simp [Nat.blt_eq]; omega
theorem kindEq_eq {a b : IntKind} (h : kindEq a b = true) : a = b := by
  cases a <;> cases b <;> simp_all [kindEq]


/-- Integers in their kind's range. -/
theorem intOp_run {op : BinOp} {k : IntKind} {a b : Int} {v : AV} (hop : op ≠ .shl ∧ op ≠ .shr) (h : intOp op k a b = some v) (t : TypeId) :
    ∃ cv, (binOp op t (.int k a) (.int k b)).run P w = .ok cv w ∧ VR σ ρ v cv := by
  cases op <;> simp only [intOp] at h <;> (try (simp at hop; done))
  case add => cases h; exact ⟨.int k (k.wrap (a + b)), by simp [binOp, Op.intArith], by simp [VR, addI_eq]⟩
  case sub => cases h; exact ⟨.int k (k.wrap (a - b)), by simp [binOp, Op.intArith], by simp [VR, subI_eq]⟩
  case mul => cases h; exact ⟨.int k (k.wrap (a * b)), by simp [binOp, Op.intArith], by simp [VR, mulI_eq]⟩
  case quo =>
    split at h
    · rename_i x y
      cases h
      refine ⟨.int k (k.wrap (Int.tdiv (Int.ofNat x) (Int.ofNat (y+1)))), ?_, ?_⟩
      · have : (Int.ofNat (y+1)) ≠ 0 := by simp; omega
        simp only [binOp, Op.intDiv]
        simp
        omega
      · simp only [VR]; rw [wrapN_eq]; rfl
    · cases h
  case rem =>
    split at h
    · rename_i x y
      cases h
      refine ⟨.int k (Int.tmod (Int.ofNat x) (Int.ofNat (y+1))), ?_, ?_⟩
      · simp only [binOp, Op.intDiv]
        simp
        omega
      · simp only [VR]; rfl
    · cases h
  case and => cases h; exact ⟨_, by simp [binOp, Op.intBits]; rfl, by simp [VR, andI_eq]⟩
  case or => cases h; exact ⟨_, by simp [binOp, Op.intBits]; rfl, by simp [VR, orI_eq]⟩
  case xor => cases h; exact ⟨_, by simp [binOp, Op.intBits]; rfl, by simp [VR, xorI_eq]⟩
  case andNot => cases h; exact ⟨_, by simp [binOp, Op.intBits]; rfl, by simp [VR, andNotI_eq]⟩
  case eql => cases h; exact ⟨.bool (a == b), by simp [binOp, Op.intCmp], by simp [VR, eqI_eq]⟩
  case neq => cases h; exact ⟨.bool (a != b), by simp [binOp, Op.intCmp], by simp [VR, eqI_eq, bne]⟩
  case lss => cases h; exact ⟨.bool (decide (a < b)), by simp [binOp, Op.intCmp], by simp [VR, ltI_eq]⟩
  case leq => cases h; exact ⟨.bool (decide (a ≤ b)), by simp [binOp, Op.intCmp], by simp only [VR, ltI_eq]; congr 1; rw [Bool.eq_iff_iff]; simp⟩
  case gtr => cases h; exact ⟨.bool (decide (a > b)), by simp [binOp, Op.intCmp], by simp [VR, ltI_eq]⟩
  case geq => cases h; exact ⟨.bool (decide (a ≥ b)), by simp [binOp, Op.intCmp], by simp only [VR, ltI_eq]; congr 1; rw [Bool.eq_iff_iff]; simp⟩
theorem shiftOp_run {op : BinOp} {k k' : IntKind} {a b : Int} {v : AV} (hop : op = .shl ∨ op = .shr) (h : shiftOp op k a b = some v) (t : TypeId) :
    ∃ cv, (binOp op t (.int k a) (.int k' b)).run P w = .ok cv w ∧ VR σ ρ v cv := by
  unfold shiftOp at h
  split at h
  · rename_i x y
    rcases hop with rfl | rfl
    · cases h
      refine ⟨.int k (k.wrap ((x : Int) * 2 ^ (min y k.bits))), ?_, ?_⟩
      · simp [binOp, Op.shift]; omega
      · simp only [VR]; rw [wrapN_eq]; congr 2
    · cases h
      refine ⟨.int k ((x : Int).fdiv (2 ^ (min y k.bits))), ?_, ?_⟩
      · simp [binOp, Op.shift]; omega
      · simp only [VR]; congr 1
        rw [Int.fdiv_eq_ediv_of_nonneg _ (Int.le_of_lt (Int.pow_pos (by decide)))]
        show ((x / 2 ^ (min y k.bits) : Nat) : Int) = _
        rw [Int.natCast_ediv]
        congr 1
  · cases h
end Go.AX
set_option linter.unusedVariables false
namespace Go.AX
open Go
variable {P : Program} {σ : Sg} {ρ : Ren} {s : St} {w : World}

theorem bytesEq_eq : ∀ (x y : List UInt8), bytesEq x y = (x == y)
  | [], [] => rfl
  | [], _ :: _ => rfl
  | _ :: _, [] => rfl
  | a :: x, b :: y => by
    have h : Nat.beq a.toNat b.toNat = (a == b) := by
      rw [Bool.eq_iff_iff]; simp [UInt8.toNat_inj]
    simp only [bytesEq, h]
    cases hab : (a == b)
    · simp [List.cons_beq_cons, hab]
    · simp only [List.cons_beq_cons, hab, Bool.true_and]; exact bytesEq_eq x y
theorem bytesLt_eq : ∀ (x y : List UInt8), bytesLt x y = Op.bytesLess x y
  | _, [] => by cases ‹List UInt8› <;> rfl
  | [], _ :: _ => rfl
  | a :: x, b :: y => by
    have h : Nat.beq a.toNat b.toNat = (a == b) := by
      rw [Bool.eq_iff_iff]; simp [UInt8.toNat_inj]
    have h2 : Nat.blt a.toNat b.toNat = decide (a < b) := by
      rw [Bool.eq_iff_iff]; simp [Nat.blt_eq, UInt8.lt_iff_toNat_lt]
    simp only [bytesLt, h, h2, Op.bytesLess]
    cases hab : (a == b) <;> cases hlt : decide (a < b) <;> simp [bytesLt_eq x y]
theorem bytesLt_total (x y : List UInt8) : (!Op.bytesLess y x) = (Op.bytesLess x y || x == y) := by
  induction x generalizing y with
  | nil => cases y <;> rfl
  | cons a x ih =>
    cases y with
    | nil => rfl
    | cons b y =>
      simp only [Op.bytesLess, List.cons_beq_cons]
      rcases Nat.lt_trichotomy a.toNat b.toNat with h | h | h
      · have h1 : a < b := UInt8.lt_iff_toNat_lt.2 h
        have h2 : ¬ b < a := by rw [UInt8.lt_iff_toNat_lt]; omega
        have h3 : (b == a) = false := by simp; intro e; subst e; omega
        simp [h1, h2, h3]
      · have e : a = b := UInt8.toNat_inj.1 h
        subst e
        have h1 : ¬ a < a := by rw [UInt8.lt_iff_toNat_lt]; omega
        simp [h1, ← ih y]
      · have h1 : b < a := UInt8.lt_iff_toNat_lt.2 h
        have h2 : ¬ a < b := by rw [UInt8.lt_iff_toNat_lt]; omega
        have h3 : (a == b) = false := by simp; intro e; subst e; omega
        simp [h1, h2, h3]

theorem eq_bool (d : Nat) {t : TypeId} {a b : Bool} (hu : P.underlying t = some (.bool)) : (Op.equalIn (d + 1) t (.bool a) (.bool b)).run P w = .ok (a == b) w := by simp [Op.equalIn, underlying_run hu]
theorem eq_pnn (d : Nat) {t : TypeId} {e : TypeId} (hu : P.underlying t = some (.pointer e)) : (Op.equalIn (d + 1) t (.pointer none) (.pointer none)).run P w = .ok (true) w := by simp [Op.equalIn, underlying_run hu]
theorem eq_pns (d : Nat) {t : TypeId} {e : TypeId} {a : Addr} (hu : P.underlying t = some (.pointer e)) : (Op.equalIn (d + 1) t (.pointer none) (.pointer (some a))).run P w = .ok (false) w := by simp [Op.equalIn, underlying_run hu]
theorem eq_psn (d : Nat) {t : TypeId} {e : TypeId} {a : Addr} (hu : P.underlying t = some (.pointer e)) : (Op.equalIn (d + 1) t (.pointer (some a)) (.pointer none)).run P w = .ok (false) w := by simp [Op.equalIn, underlying_run hu]
theorem eq_inn (d : Nat) {t : TypeId} {ms : Array (String × TypeId)} (hu : P.underlying t = some (.interface ms)) : (Op.equalIn (d + 1) t (.nilIface) (.nilIface)).run P w = .ok (true) w := by simp [Op.equalIn, underlying_run hu]
theorem eq_ins (d : Nat) {t : TypeId} {ms : Array (String × TypeId)} {u : TypeId} {x : Value} (hu : P.underlying t = some (.interface ms)) : (Op.equalIn (d + 1) t (.nilIface) (.iface u x)).run P w = .ok (false) w := by simp [Op.equalIn, underlying_run hu]
theorem eq_isn (d : Nat) {t : TypeId} {ms : Array (String × TypeId)} {u : TypeId} {x : Value} (hu : P.underlying t = some (.interface ms)) : (Op.equalIn (d + 1) t (.iface u x) (.nilIface)).run P w = .ok (false) w := by simp [Op.equalIn, underlying_run hu]
theorem eq_snn (d : Nat) {t : TypeId} {e : TypeId} {m n m' n' : Nat} (hu : P.underlying t = some (.slice e)) : (Op.equalIn (d + 1) t (.slice none m n) (.slice none m' n')).run P w = .ok (true) w := by simp [Op.equalIn, underlying_run hu]
theorem eq_sns (d : Nat) {t : TypeId} {e : TypeId} {m n m' n' : Nat} {a : Addr} (hu : P.underlying t = some (.slice e)) : (Op.equalIn (d + 1) t (.slice none m n) (.slice (some a) m' n')).run P w = .ok (false) w := by simp [Op.equalIn, underlying_run hu]
theorem eq_ssn (d : Nat) {t : TypeId} {e : TypeId} {m n m' n' : Nat} {a : Addr} (hu : P.underlying t = some (.slice e)) : (Op.equalIn (d + 1) t (.slice (some a) m n) (.slice none m' n')).run P w = .ok (false) w := by simp [Op.equalIn, underlying_run hu]
theorem eq_mnn (d : Nat) {t : TypeId} {k e : TypeId} (hu : P.underlying t = some (.map k e)) : (Op.equalIn (d + 1) t (.map none) (.map none)).run P w = .ok (true) w := by simp [Op.equalIn, underlying_run hu]
theorem eq_mns (d : Nat) {t : TypeId} {k e : TypeId} {r : Nat} (hu : P.underlying t = some (.map k e)) : (Op.equalIn (d + 1) t (.map none) (.map (some r))).run P w = .ok (false) w := by simp [Op.equalIn, underlying_run hu]
theorem eq_msn (d : Nat) {t : TypeId} {k e : TypeId} {r : Nat} (hu : P.underlying t = some (.map k e)) : (Op.equalIn (d + 1) t (.map (some r)) (.map none)).run P w = .ok (false) w := by simp [Op.equalIn, underlying_run hu]
theorem eq_fnn (d : Nat) {t : TypeId} {ps rs : Array TypeId} {v : Bool} (hu : P.underlying t = some (.func ps rs v)) : (Op.equalIn (d + 1) t (.nilFunc) (.nilFunc)).run P w = .ok (true) w := by simp [Op.equalIn, underlying_run hu]
theorem eq_fns (d : Nat) {t : TypeId} {ps rs : Array TypeId} {v : Bool} {f : Fn} {a b : Array Value} (hu : P.underlying t = some (.func ps rs v)) : (Op.equalIn (d + 1) t (.nilFunc) (.func f a b)).run P w = .ok (false) w := by simp [Op.equalIn, underlying_run hu]
theorem eq_fsn (d : Nat) {t : TypeId} {ps rs : Array TypeId} {v : Bool} {f : Fn} {a b : Array Value} (hu : P.underlying t = some (.func ps rs v)) : (Op.equalIn (d + 1) t (.func f a b) (.nilFunc)).run P w = .ok (false) w := by simp [Op.equalIn, underlying_run hu]
theorem eqA_run_d (d : Nat) {t : TypeId} {td : TypeDesc} {c : Bool} {a b : AV} {ca cb : Value} {r : Bool} (hu : P.underlying t = some td) (ha : VR σ ρ a ca) (hb : VR σ ρ b cb)
    (h : eqA td c s a b = some r) : (Op.equalIn (d + 1) t ca cb).run P w = .ok r w := by
  unfold eqA at h
  split at h
  · subst ha hb; rename_i x y; rw [eq_bool d hu]; cases x <;> cases y <;> cases h <;> rfl
  · subst ha hb; cases h; exact eq_pnn d hu
  · obtain ⟨_, _, rfl⟩ := hb; subst ha; cases h; exact eq_pns d hu
  · obtain ⟨_, _, rfl⟩ := ha; subst hb; cases h; exact eq_psn d hu
  · subst ha hb; split at h <;> cases h; exact eq_inn d hu
  · obtain ⟨_, _, rfl⟩ := hb; subst ha; cases h; exact eq_ins d hu
  · obtain ⟨_, _, rfl⟩ := ha; subst hb; cases h; exact eq_isn d hu
  · subst ha hb; cases h; exact eq_snn d hu
  · obtain ⟨_, _, _, _, rfl⟩ := hb; subst ha; cases h; exact eq_sns d hu
  · obtain ⟨_, _, _, _, rfl⟩ := ha; subst hb; cases h; exact eq_ssn d hu
  · obtain ⟨_, _, rfl⟩ := hb; subst ha; cases h; exact eq_sns d hu
  · obtain ⟨_, _, rfl⟩ := ha; subst hb; cases h; exact eq_ssn d hu
  · subst ha hb; cases h; exact eq_mnn d hu
  · obtain ⟨_, _, rfl⟩ := hb; subst ha; cases h; exact eq_mns d hu
  · obtain ⟨_, _, rfl⟩ := ha; subst hb; cases h; exact eq_msn d hu
  · subst ha hb; cases h; exact eq_fnn d hu
  · obtain ⟨_, _, _, _, _, _, rfl⟩ := hb; subst ha; cases h; exact eq_fns d hu
  · obtain ⟨_, _, _, _, _, _, rfl⟩ := ha; subst hb; cases h; exact eq_fsn d hu
  · cases h
theorem eqA_run {t : TypeId} {td : TypeDesc} {c : Bool} {a b : AV} {ca cb : Value} {r : Bool} (hu : P.underlying t = some td) (ha : VR σ ρ a ca) (hb : VR σ ρ b cb)
    (h : eqA td c s a b = some r) : (Op.equal t ca cb).run P w = .ok r w := eqA_run_d 9999 hu ha hb h

theorem eqGuard_int {op : BinOp} {t : TypeId} {x y : Operand} {k k' : IntKind} {a b : Int} : (eqGuard op t x y (.int k a) (.int k' b)).run P w = .ok () w := by
  unfold eqGuard; cases op <;> simp
theorem eqGuard_str {op : BinOp} {t : TypeId} {x y : Operand} {a b : ByteArray} : (eqGuard op t x y (.string a) (.string b)).run P w = .ok () w := by
  unfold eqGuard; cases op <;> simp
theorem isC_spec {x : Operand} : isC x = (match x with | .const _ => true | _ => false) := by cases x <;> rfl

theorem eqGuard_not {op : BinOp} {t : TypeId} {x y : Operand} {ca cb : Value} (h1 : ca = .nilIface → cb = .nilIface → (isC x || isC y) = true)
    (h2 : ∀ l m, ca = .agg l → cb = .agg m → False) : (eqGuard op t x y ca cb).run P w = .ok () w := by
  cases ca <;> cases cb
  case nilIface.nilIface =>
    have := h1 rfl rfl
    clear h1 h2
    cases x <;> cases y <;> first | (simp [isC] at this; done) | (cases op <;> rfl)
  case agg.agg l m => exact (h2 l m rfl rfl).elim
  all_goals (cases op <;> rfl)
theorem eqGuard_run {op : BinOp} {t : TypeId} {x y : Operand} {td : TypeDesc} {a b : AV} {ca cb : Value} {r : Bool} (ha : VR σ ρ a ca) (hb : VR σ ρ b cb)
    (h : eqA td (isC x || isC y) s a b = some r) : (eqGuard op t x y ca cb).run P w = .ok () w := by
  unfold eqA at h
  split at h <;> (try (cases h; done)) <;> apply eqGuard_not
  all_goals first
    | (intro l m e1 e2; subst e1 e2; simp [VR] at ha hb; done)
    | (intro e1 e2; subst e1 e2; simp [VR] at ha hb; done)
    | (intro e1 e2; split at h <;> first | assumption | cases h)

theorem part_run {t : TypeId} {cs : List AV} {vs : List Value} {off : Nat} {x : AV} (hv : VRL σ ρ cs vs) (h : partA P t cs off = some x) :
    ∃ cv, (part t vs.toArray off).run P w = .ok cv w ∧ VR σ ρ x cv := by
  unfold partA at h
  split at h
  · rename_i ha
    split at h
    · rename_i n hn
      cases h
      refine ⟨.agg (vs.toArray.extract off (off + n)), by simp [part, isAgg_run ha, sizeOf_run hn], (vs.drop off).take n, VRL.take n (VRL.drop _ hv), ?_⟩
      congr 1
      apply Array.ext'
      simp [List.extract]
    · cases h
  · rename_i ha
    obtain ⟨y, h1, h2⟩ := VRL.get hv h
    exact ⟨y, by simp [part, isAgg_run ha, h1], h2⟩
  · cases h

theorem eqS_run (d : Nat) {t : TypeId} {a b : AV} {ca cb : Value} {r : Bool} (ha : VR σ ρ a ca) (hb : VR σ ρ b cb) (h : eqS P t a b = some r) : (Op.equalIn (d + 1) t ca cb).run P w = .ok r w := by
  unfold eqS at h
  split at h
  · rename_i x y hu
    subst ha hb
    rw [run_equalIn_bool' w d t x y hu]
    cases x <;> cases y <;> cases h <;> rfl
  · rename_i kt k x k' y hu
    subst ha hb
    split at h
    · rename_i hk
      cases kindEq_eq hk
      cases h
      rw [run_equalIn_int w d t k kt x y hu, eqI_eq]
    · cases h
  · rename_i x y hu
    subst ha hb
    cases h
    rw [run_equalIn_string w d t _ _ hu, ByteArray.toList_mk, ByteArray.toList_mk, bytesEq_eq]
  · cases h
theorem eqFs_run (d : Nat) {xs ys : List AV} {cxs cys : List Value} (hx : VRL σ ρ xs cxs) (hy : VRL σ ρ ys cys) : ∀ {fs : List Field} {r : Bool}, eqFs P xs ys fs = some r → (Op.eqFields (d + 1) cxs.toArray cys.toArray fs).run P w = .ok r w
  | [], r, h => by cases h; rfl
  | f :: fs, r, h => by
    simp only [eqFs] at h
    split at h
    · cases h
    · rename_i hn
      have hn : f.name ≠ "_" := by simpa using hn
      split at h
      · rename_i a b ha hb
        obtain ⟨ca, a1, a2⟩ := part_run (w := w) hx ha
        obtain ⟨cb, b1, b2⟩ := part_run (w := w) hy hb
        split at h
        · rename_i he
          simp only [Op.eqFields, if_pos hn, Sem.run_bind, a1, b1, Result.andThen_ok, eqS_run d a2 b2 he, Bool.not_true, Bool.false_eq_true, if_false]
          exact eqFs_run d hx hy h
        · rename_i he
          cases h
          simp only [Op.eqFields, if_pos hn, Sem.run_bind, a1, b1, Result.andThen_ok, eqS_run d a2 b2 he, Bool.not_false, if_true, Sem.run_pure]
        · cases h
      · cases h
theorem eqArr_run (d : Nat) {e : TypeId} (hag : isAggT P e = some false) {cxs cys : Array Value} : ∀ {xs ys : List AV} {i : Nat} {r : Bool} , VRL σ ρ xs (cxs.toList.drop i) → VRL σ ρ ys (cys.toList.drop i) → eqArr P e xs ys = some r →
    (forIn (List.range' i xs.length) ((none, ()) : Option Bool × Unit) (fun i _ => (do
      let a ← part e cxs (i * 1)
      let b ← part e cys (i * 1)
      let q ← Op.equalIn (d + 1) e a b
      if (!q) = true then pure (ForInStep.done (some false, ())) else pure (ForInStep.yield (none, ())) : Sem _))).run P w = .ok (if r then (none, ()) else (some false, ())) w
  | [], [], i, r, hx, hy, h => by cases h; rfl
  | [], _ :: _, i, r, hx, hy, h => by cases h
  | _ :: _, [], i, r, hx, hy, h => by cases h
  | x :: xs, y :: ys, i, r, hx, hy, h => by
    obtain ⟨cx, lx, ex, x1, x2⟩ := hx
    obtain ⟨cy, ly, ey, y1, y2⟩ := hy
    have gx : cxs[i]? = some cx := by
      have := congrArg (·[0]?) ex
      simpa [List.getElem?_drop] using this
    have gy : cys[i]? = some cy := by
      have := congrArg (·[0]?) ey
      simpa [List.getElem?_drop] using this
    have dx : cxs.toList.drop (i + 1) = lx := by rw [← List.drop_drop, ex]; rfl
    have dy : cys.toList.drop (i + 1) = ly := by rw [← List.drop_drop, ey]; rfl
    have px : (part e cxs (i * 1)).run P w = .ok cx w := by simp [part, isAgg_run hag, gx]
    have py : (part e cys (i * 1)).run P w = .ok cy w := by simp [part, isAgg_run hag, gy]
    rw [List.length_cons, List.range'_succ, List.forIn_cons]
    simp only [eqArr] at h
    split at h
    · rename_i he
      simp only [Sem.run_bind, px, py, Result.andThen_ok, eqS_run d x1 y1 he, Bool.not_true, Bool.false_eq_true, if_false, Sem.run_pure]
      exact eqArr_run d hag (dx ▸ x2) (dy ▸ y2) h
    · rename_i he
      cases h
      simp only [Sem.run_bind, px, py, Result.andThen_ok, eqS_run d x1 y1 he, Bool.not_false, if_true, Sem.run_pure]
      rfl
    · cases h
theorem eqArray_run (d : Nat) {t e : TypeId} {n : Nat} {a b : List AV} {xs ys : List Value} {r : Bool} (hu : P.underlying t = some (.array n e)) (h1 : isAggT P e = some false) (h2 : sizeOfT P e = some 1) (hx : VRL σ ρ a xs) (hy : VRL σ ρ b ys)
    (hn : a.length = n) (h : eqArr P e a b = some r) : (Op.equalIn (d + 2) t (.agg xs.toArray) (.agg ys.toArray)).run P w = .ok r w := by
  have key := eqArr_run (P := P) (w := w) (cxs := xs.toArray) (cys := ys.toArray) (i := 0) d h1 (by simpa using hx) (by simpa using hy) h
  rw [hn] at key
  rw [Op.equalIn]
  simp only [Sem.run_bind, underlying_run hu, Result.andThen_ok, sizeOf_run h2]
  rw [Std.Legacy.Range.forIn_eq_forIn_range']
  simp only [Std.Legacy.Range.size, Nat.sub_zero, Nat.add_sub_cancel, Nat.div_one]
  rw [key]
  cases r <;> simp
theorem eqAggA_run {t : TypeId} {td : TypeDesc} {a b : AV} {ca cb : Value} {r : Bool} (hu : P.underlying t = some td) (ha : VR σ ρ a ca) (hb : VR σ ρ b cb) (h : eqAggA P t td a b = some r) :
    ∃ xs ys, ca = .agg xs ∧ cb = .agg ys ∧ P.eqGuardType P.depth t = false ∧ (Op.equalIn 10000 t ca cb).run P w = .ok r w := by
  unfold eqAggA at h
  split at h
  · obtain ⟨xs, hx, rfl⟩ := ha
    obtain ⟨ys, hy, rfl⟩ := hb
    split at h
    · cases h
    · rename_i hg
      refine ⟨_, _, rfl, rfl, hg, ?_⟩
      split at h
      · rename_i fields
        split at h
        · cases h
        · rename_i hs
          have hf : P.fieldsOf t = fields := by simp [Program.fieldsOf, hu]
          rw [run_equalIn_struct w 9999 t _ _ (by rw [hf]; exact hu) hs, hf]
          exact eqFs_run 9998 hx hy h
      · rename_i n e
        split at h
        · rename_i h1 h2 h3
          obtain ⟨h3, h4⟩ := Bool.and_eq_true_iff.1 h3
          have h3 := Nat.eq_of_beq_eq_true h3
          exact eqArray_run 9998 hu h1 h2 hx hy h3 h
        · cases h
      · cases h
  · cases h

theorem op_bin {op : BinOp} {t : TypeId} {x y : Operand} {a b : AV} {ca cb : Value} {v : AV} (hR : Rel P σ ρ s w) (ha : VR σ ρ a ca) (hb : VR σ ρ b cb)
    (h : binA P op t (isC x || isC y) s a b = some v) :
    Came P σ ρ s w v s ((vOf (do eqGuard op t x y ca cb; binOp op t ca cb)).run P w) := by
  have fin : ∀ cv, (eqGuard op t x y ca cb).run P w = .ok () w → (binOp op t ca cb).run P w = .ok cv w → VR σ ρ v cv →
      Came P σ ρ s w v s ((vOf (do eqGuard op t x y ca cb; binOp op t ca cb)).run P w) := fun cv g1 g2 g3 =>
    .same hR (cv := cv) (vOf_run (by simp [g1, g2])) g3
  unfold binA at h
  split at h
  · rename_i k n
    subst ha
    split at h
    · rename_i k' n'
      subst hb
      split at h
      · obtain ⟨cv, g1, g2⟩ := shiftOp_run (σ := σ) (ρ := ρ) (w := w) (P := P) (k' := k') (.inl rfl) h t
        exact fin cv eqGuard_int g1 g2
      · obtain ⟨cv, g1, g2⟩ := shiftOp_run (σ := σ) (ρ := ρ) (w := w) (P := P) (k' := k') (.inr rfl) h t
        exact fin cv eqGuard_int g1 g2
      · rename_i h1 h2
        split at h
        · rename_i hk
          cases kindEq_eq hk
          obtain ⟨cv, g1, g2⟩ := intOp_run (σ := σ) (ρ := ρ) (w := w) (P := P) ⟨h1, h2⟩ h t
          exact fin cv eqGuard_int g1 g2
        · cases h
    · cases h
  · rename_i l
    subst ha
    split at h
    · rename_i l'
      subst hb
      split at h
      · split at h
        · rename_i hlt
          cases h
          have hlt : l.length + l'.length < 4294967296 := by simpa [Nat.blt_eq] using hlt
          refine fin (.string (⟨l.toArray⟩ ++ ⟨l'.toArray⟩)) eqGuard_str ?_ ?_
          · rw [binOp_string_add]; exact run_string_add_sum _ _ _ (by show l.toArray.size + l'.toArray.size ≤ _; simp; omega)
          · simp [VR, ByteArray.mk_append_mk]
        · cases h
      · cases h; exact fin (.bool (l == l')) eqGuard_str (by rw [binOp_string_eql, ByteArray.toList_mk, ByteArray.toList_mk]; rfl) (by simp [VR, bytesEq_eq])
      · cases h; exact fin (.bool (!(l == l'))) eqGuard_str (by rw [binOp_string_neq, ByteArray.toList_mk, ByteArray.toList_mk]; rfl) (by simp [VR, bytesEq_eq])
      · cases h; exact fin (.bool (Op.bytesLess l l')) eqGuard_str (by rw [binOp_string_lss, ByteArray.toList_mk, ByteArray.toList_mk]; rfl) (by simp [VR, bytesLt_eq])
      · cases h; exact fin (.bool (Op.bytesLess l l' || l == l')) eqGuard_str (by simp only [binOp, Op.stringOp, ByteArray.toList_mk]; rfl) (by simp only [VR, bytesLt_eq, bytesLt_total])
      · cases h; exact fin (.bool (!(Op.bytesLess l l' || l == l'))) eqGuard_str (by simp only [binOp, Op.stringOp, ByteArray.toList_mk]; rfl) (by simp only [VR, bytesLt_eq, ← bytesLt_total, Bool.not_not])
      · cases h; exact fin (.bool (!Op.bytesLess l l')) eqGuard_str (by simp only [binOp, Op.stringOp, ByteArray.toList_mk]; rfl) (by simp [VR, bytesLt_eq])
      · cases h
    · cases h
  · rename_i hni hns
    split at h
    · rename_i td hu
      have agg : ∀ r, eqAggA P t td a b = some r → (eqGuard op t x y ca cb).run P w = .ok () w ∧ (op = .eql → (binOp op t ca cb).run P w = .ok (.bool r) w) ∧ (op = .neq → (binOp op t ca cb).run P w = .ok (.bool (!r)) w) := by
        intro r hr
        obtain ⟨xs, ys, rfl, rfl, g1, g2⟩ := eqAggA_run (w := w) hu ha hb hr
        refine ⟨run_eqGuard_agg w _ t x y xs ys g1, fun ho => ?_, fun ho => ?_⟩
        · subst ho
          rw [run_eql_struct, g2]; rfl
        · subst ho
          rw [run_neq_struct, g2]; rfl
      have prep : ∀ r, eqA td (isC x || isC y) s a b = some r → (eqGuard op t x y ca cb).run P w = .ok () w ∧ (Op.equal t ca cb).run P w = .ok r w ∧
          (∀ z, op = .eql → VR σ ρ (.bool r) z → (binOp op t ca cb).run P w = .ok z w) ∧ (∀ z, op = .neq → VR σ ρ (.bool (not r)) z → (binOp op t ca cb).run P w = .ok z w) := by
        intro r hr
        have e := eqA_run (w := w) hu ha hb hr
        refine ⟨eqGuard_run ha hb hr, e, fun z ho hz => ?_, fun z ho hz => ?_⟩
        all_goals
          subst ho
          simp only [VR] at hz
          subst hz
          unfold eqA at hr
          split at hr <;> (try (cases hr; done)) <;> simp only [VR] at ha hb
          all_goals
            first
              | (subst ha hb; simp only [binOp, Sem.run_bind, e, Result.andThen_ok]; rfl)
              | (obtain ⟨_, hb⟩ := hb; first | (obtain ⟨_, rfl⟩ := hb; subst ha; simp only [binOp, Sem.run_bind, e, Result.andThen_ok]; rfl) | (obtain ⟨_, _, rfl⟩ := hb; subst ha; simp only [binOp, Sem.run_bind, e, Result.andThen_ok]; rfl) | (obtain ⟨_, _, _, rfl⟩ := hb; subst ha; simp only [binOp, Sem.run_bind, e, Result.andThen_ok]; rfl) | (obtain ⟨_, _, _, _, _, rfl⟩ := hb; subst ha; simp only [binOp, Sem.run_bind, e, Result.andThen_ok]; rfl))
              | (obtain ⟨_, ha⟩ := ha; first | (obtain ⟨_, rfl⟩ := ha; subst hb; simp only [binOp, Sem.run_bind, e, Result.andThen_ok]; rfl) | (obtain ⟨_, _, rfl⟩ := ha; subst hb; simp only [binOp, Sem.run_bind, e, Result.andThen_ok]; rfl) | (obtain ⟨_, _, _, rfl⟩ := ha; subst hb; simp only [binOp, Sem.run_bind, e, Result.andThen_ok]; rfl) | (obtain ⟨_, _, _, _, _, rfl⟩ := ha; subst hb; simp only [binOp, Sem.run_bind, e, Result.andThen_ok]; rfl))
      split at h
      · split at h
        · rename_i r hr
          cases h
          unfold eqX at hr
          split at hr
          · rename_i r' hr'
            cases hr
            obtain ⟨g1, _, g2, _⟩ := prep r hr'
            exact fin (.bool r) g1 (g2 _ rfl rfl) rfl
          · exact fin (.bool r) (agg r hr).1 ((agg r hr).2.1 rfl) rfl
        · cases h
      · split at h
        · rename_i r hr
          cases h
          unfold eqX at hr
          split at hr
          · rename_i r' hr'
            cases hr
            obtain ⟨g1, _, _, g2⟩ := prep r hr'
            exact fin (.bool (not r)) g1 (g2 _ rfl rfl) rfl
          · exact fin (.bool (!r)) (agg r hr).1 ((agg r hr).2.2 rfl) rfl
        · cases h
      · cases h
    · cases h
theorem op_un {op : UnOp} {a : AV} {ca : Value} {v : AV} {s' : St} (hR : Rel P σ ρ s w) (ha : VR σ ρ a ca) (h : xUn s op a = .val v s') :
    Came P σ ρ s w v s' ((vOf (Op.unary op ca)).run P w) := by
  unfold xUn at h
  split at h
  · rename_i k n
    subst ha; cases h
    exact .same hR (cv := .int k (k.wrap (0 - n))) (vOf_run (by simp [Op.unary, Op.intArith])) (by simp only [VR, subI_eq])
  · rename_i k n
    subst ha; cases h
    refine .same hR (cv := .int k (k.wrap ((BitVec.ofInt k.bits (if k.signed then -1 else k.max) ^^^ BitVec.ofInt k.bits n).toNat : Nat))) (vOf_run (by simp [Op.unary, Op.intBits])) ?_
    simp only [VR, xorI_eq]
    cases k.signed <;> rfl
  · rename_i b
    subst ha; cases h
    exact .same hR (cv := .bool (!b)) (vOf_run (by simp [Op.unary])) (by simp only [VR])
  · cases h
end Go.AX
set_option linter.unusedVariables false
namespace Go.AX
open Go
variable {P : Program} {σ : Sg} {ρ : Ren} {s : St} {w : World}

theorem isIface_run {t : TypeId} {b : Bool} (h : isIface P t = some b) : ∃ d, P.underlying t = some d ∧ ((∃ ms, d = .interface ms) ↔ b = true) := by
  unfold isIface at h
  split at h
  · rename_i ms hu; cases h; exact ⟨_, hu, by simp⟩
  · rename_i d hd hu; cases h; exact ⟨_, hu, by simp; intro x hx; exact hd x hx⟩
  · cases h
theorem op_makeInterface {t : TypeId} {x : AV} {cx : Value} {v : AV} {s' : St} (hR : Rel P σ ρ s w) (hx : VR σ ρ x cx) (h : xMakeInterface P s t x = .val v s') :
    Came P σ ρ s w v s' ((vOf (Instr.makeInterface t cx)).run P w) := by
  unfold xMakeInterface at h
  split at h
  · rename_i hi
    cases h
    obtain ⟨d, hu, hd⟩ := isIface_run hi
    refine .same hR (cv := .iface t cx) (vOf_run ?_) ⟨cx, hx, rfl⟩
    simp only [Instr.makeInterface, Sem.run_bind, underlying_run hu, Result.andThen_ok]
    cases d <;> first | rfl | (exact absurd (hd.1 ⟨_, rfl⟩) (by simp))
  · cases h

/-- A new object of another kind, or a row, as a step. -/
theorem came_new (hR : Rel P σ ρ s w) {o : AObj} {x : Obj} {l : Loc} {res : Result Next} {w' : World} {v : AV} {cv : Value} (hb : l.blk = w.heap.size)
    (hw : w'.heap = w.heap.push x) (h1 : w'.os = w.os) (h2 : w'.output = w.output) (h3 : w'.tape = w.tape)
    (hr : ObjR P σ (ρ.put s.nx l) s.nx l o x) (hres : res = .ok (.value cv) w') (hcv : VR σ (ρ.put s.nx l) v cv) : Came P σ ρ s w v (s.new o) res :=
  ⟨cv, w', _, .inl hres, hcv, hR.new hb hw hr, Own.new hR hb, Frm.push hw h1 h2 h3⟩

theorem op_makeMap {t : TypeId} {r : Option AV} {cr : Option Value} {v : AV} {s' : St} (hR : Rel P σ ρ s w)
    (hx : match r, cr with | none, none => True | some x, some y => VR σ ρ x y | _, _ => False) (h : xMakeMap P s t r = .val v s') :
    Came P σ ρ s w v s' ((vOf (Instr.makeMap t cr)).run P w) := by
  have fin : (Instr.makeMap t cr).run P w = .ok (.map (some w.heap.size)) { w with heap := w.heap.push (.map #[] 0) } →
      Came P σ ρ s w (.map s.nx) (s.new (.map [] 0)) ((vOf (Instr.makeMap t cr)).run P w) := fun e =>
    came_new hR (l := ⟨w.heap.size, 0, 0⟩) (x := .map #[] 0) (w' := { w with heap := w.heap.push (.map #[] 0) }) rfl rfl rfl rfl rfl ⟨[], rfl, rfl⟩ (vOf_run e) ⟨⟨w.heap.size, 0, 0⟩, by simp [Ren.put], rfl⟩
  unfold xMakeMap at h
  split at h
  · cases h
    cases cr with
    | none => exact fin (by simp [Instr.makeMap])
    | some y => exact hx.elim
  · rename_i k n
    split at h
    · rename_i kd hk
      cases h
      cases cr with
      | none => exact hx.elim
      | some y =>
        simp only [VR] at hx; subst hx
        unfold keyDesc at hk
        split at hk
        · rename_i kt et hu
          exact fin (by simp [Instr.makeMap, underlying_run hu, asInt, asIntOf])
        · cases hk
    · cases h
  · cases h

theorem isU8_run {e : TypeId} (h : isU8 P e = true) : P.underlying e = some (.int .u8) := by
  unfold isU8 at h
  split at h
  · assumption
  · cases h

theorem wrap64_small (n : Nat) (h : n ≤ 4611686018427387904) : IntKind.i64.wrap (n : Int) = n := wrap_i64_small n (by omega)
theorem elemOf_run {t e : TypeId} (h : elemOfT P t = some e) : P.underlying t = some (.slice e) := by
  unfold elemOfT at h
  split at h
  · cases h; assumption
  · cases h
theorem info_of_size {t : TypeId} {n : Nat} (h : sizeOfT P t = some n) : ∃ i, P.info? t = some i ∧ i.size = n := by
  unfold sizeOfT at h
  split at h
  · cases h; exact ⟨_, ‹_›, rfl⟩
  · cases h
theorem info_of_bytes {t : TypeId} {n : Nat} (h : bytesOfT P t = some n) : ∃ i, P.info? t = some i ∧ i.bytes = n := by
  unfold bytesOfT at h
  split at h
  · cases h; exact ⟨_, ‹_›, rfl⟩
  · cases h

/-- The cells of a row of zeros. -/
theorem zeros_row {z : List AV} {zc : Array Value} {n sz : Nat} (hv : VRL σ ρ z zc.toList) (hz : z.length = sz) {i : Nat} (hi : i < n * sz) :
    ∃ x, z[i % sz]? = some x ∧ ∃ y, ((Array.range (n * sz)).map (fun j => zc[j % zc.size]!))[i]? = some y ∧ VR σ ρ x y := by
  have hpos : 0 < sz := by
    rcases Nat.eq_zero_or_pos sz with h | h
    · subst h; simp at hi
    · exact h
  have hlt : i % sz < z.length := by rw [hz]; exact Nat.mod_lt _ hpos
  have hsz : zc.size = sz := by have := hv.length; simp at this; omega
  have hx : z[i % sz]? = some z[i % sz] := List.getElem?_eq_getElem hlt
  obtain ⟨y, hy, hr⟩ := VRL.get hv hx
  refine ⟨_, hx, y, ?_, hr⟩
  rw [Array.getElem?_map, Array.getElem?_range]
  rw [if_pos hi]
  simp only [Option.map_some, hsz]
  have hlt' : i % sz < zc.size := by omega
  rw [getElem!_pos zc _ hlt']
  simp only [Array.getElem?_toList] at hy
  rw [Array.getElem?_eq_getElem hlt'] at hy
  exact hy

theorem op_makeSlice {t : TypeId} {a c : AV} {ca cc : Value} {v : AV} {s' : St} (hσ : Plain σ) (hR : Rel P σ ρ s w) (ha : VR σ ρ a ca) (hc : VR σ ρ c cc) (h : xMakeSlice P s t a c = .val v s') :
    Came P σ ρ s w v s' ((vOf (Instr.makeSlice t ca cc)).run P w) := by
  unfold xMakeSlice at h
  split at h
  · rename_i e he
    split at h
    · rename_i l n hl hn
      split at h
      · rename_i z sz by_ hz hsz hby
        split at h
        · rename_i hcond
          cases h
          obtain ⟨hcond, h4⟩ := Bool.and_eq_true_iff.1 hcond
          obtain ⟨hcond, h3⟩ := Bool.and_eq_true_iff.1 hcond
          obtain ⟨h1, h2⟩ := Bool.and_eq_true_iff.1 hcond
          have h1 := Nat.le_of_ble_eq_true h1
          have h2 := Nat.le_of_ble_eq_true h2
          have h3 := Nat.le_of_ble_eq_true h3
          have h4 := Nat.eq_of_beq_eq_true h4
          obtain ⟨k1, rfl⟩ := asN_VR ha hl
          obtain ⟨k2, rfl⟩ := asN_VR hc hn
          obtain ⟨i, hi, hib⟩ := info_of_bytes hby
          obtain ⟨zv, hzv, hzr⟩ := zeroCells_run hσ (ρ := ρ) (w := w) hz
          have e1 := wrap64_small l (by omega)
          have e2 := wrap64_small n (by omega)
          let cells : Array Value := (Array.range (n * sz)).map (fun j => zv.cells[j % zv.cells.size]!)
          have hcells : ∀ zc : Array Value, (n * sz ≠ 0 → zc = zv.cells) → (Array.range (n * sz)).map (fun j => zc[j % zc.size]!) = cells := by
            intro zc hzc
            by_cases h0 : n * sz = 0
            · simp [cells, h0]
            · rw [hzc h0]
          have hrun : (Instr.makeSlice t (.int k1 l) (.int k2 n)).run P w = .ok (.slice (some ⟨w.heap.size, 0, none⟩) l n) { w with heap := w.heap.push (.cells cells e) } := by
            have t1 : ¬ ((n : Int) < 0) := by omega
            have t2 : ¬ ((i.bytes : Int) * n > 2 ^ 48) := by
              rw [hib]
              have this : ((by_ * n : Nat) : Int) ≤ ((281474976710656 : Nat) : Int) := Int.ofNat_le.2 h3
              rw [Int.natCast_mul] at this
              show ¬ ((by_ : Int) * n > (281474976710656 : Int))
              omega
            simp only [Instr.makeSlice, Sem.run_bind, underlying_run (elemOf_run he), Result.andThen_ok, asInt, asIntOf, Sem.run_pure, typeInfo_run hi, e1, e2]
            simp only [t1, t2, decide_false, Bool.or_self, Bool.false_or]
            have t3 : ¬ ((l : Int) < 0) := by omega
            have t4 : ¬ ((l : Int) > n) := by omega
            simp only [t3, t4, decide_false, Bool.or_self, Bool.false_eq_true, if_false]
            simp only [Int.toNat_natCast]
            by_cases h0 : n * sz = 0
            · simp only [Sem.run_bind, run_askRoom, Result.andThen_ok, sizeOf_run hsz, h0, if_true, Sem.run_pure, newRow_run]
              have r0 : ∀ f : Nat → Value, (Array.range 0).map f = #[] := fun f => Array.ext' (by simp)
              have rc : cells = #[] := by show (Array.range (n * sz)).map _ = #[]; rw [h0, r0]
              rw [rc, r0]
            · simp only [Sem.run_bind, run_askRoom, Result.andThen_ok, sizeOf_run hsz, h0, if_false, hzv, Sem.run_pure, newRow_run]
              rfl
          refine came_new hR (l := ⟨w.heap.size, 0, 0⟩) (x := .cells cells e) (w' := { w with heap := w.heap.push (.cells cells e) }) rfl rfl rfl rfl rfl ?_ (vOf_run hrun) ⟨⟨w.heap.size, 0, 0⟩, n, by simp [Ren.put], ⟨rfl, h1⟩, by simp⟩
          refine ⟨cells, (0, 0), rfl, fun j hj => ?_, by simp [cells], rfl⟩
          obtain ⟨x, hx, y, hy, hr⟩ := zeros_row hzr h4 hj
          exact ⟨y, by rw [Nat.zero_add]; exact hy, cell_of (x := x) (by rw [cellAt_e]; exact hx) (VR.mono (hR.le_put _) _ hr)⟩
        · cases h
      · cases h
    · cases h
  · cases h

/-- An optional operand. -/
def VRO (σ : Sg) (ρ : Ren) : Option AV → Option Value → Prop
  | none, none => True
  | some x, some y => VR σ ρ x y
  | _, _ => False

theorem sliceBound_run {x : AV} {cx : Value} {y i : Nat} {code : BoundsCode} (hx : VR σ ρ x cx) (hi : asN x = some i) (hle : i ≤ y) : (Instr.sliceBound cx y code).run P w = .ok i w := by
  obtain ⟨k, rfl⟩ := asN_VR hx hi
  simp [Instr.sliceBound, asIntOf]
  intro h; omega

theorem bnd_cases {v : Option AV} {d y i : Nat} (h : sliceBnd v d y = some i) : (v = none ∧ i = d) ∨ (∃ x, v = some x ∧ asN x = some i ∧ i ≤ y) := by
  unfold sliceBnd at h
  split at h
  · cases h; exact .inl ⟨rfl, rfl⟩
  · split at h
    · split at h
      · rename_i hle; cases h; exact .inr ⟨_, rfl, by assumption, Nat.le_of_ble_eq_true hle⟩
      · cases h
    · cases h
theorem bnd_some {x : AV} {d y i : Nat} (hx : asN x = some i) (h : i ≤ y) : sliceBnd (some x) d y = some i := by
  have : Nat.ble i y = true := Nat.ble_eq_true_of_le h
  simp [sliceBnd, hx, this]
theorem bnd_up {v : Option AV} {d y y' i : Nat} (h : sliceBnd v d y = some i) (hy : y ≤ y') : sliceBnd v d y' = some i := by
  rcases bnd_cases h with ⟨rfl, rfl⟩ | ⟨x, rfl, hx, hle⟩
  · rfl
  · exact bnd_some hx (Nat.le_trans hle hy)
/-- The three bounds, without a third index. -/
theorem bounds2_run {lo hi : Option AV} {cl ch : Option Value} {isSlice : Bool} {len cap l h : Nat} (hl : VRO σ ρ lo cl) (hh : VRO σ ρ hi ch)
    (e1 : sliceBnd hi len cap = some h) (e2 : sliceBnd lo 0 h = some l) :
    (Instr.sliceBounds isSlice len cap cl ch none).run P w = .ok (l, h, cap) w ∧ (hi.isSome → h ≤ cap) ∧ l ≤ h ∧ (hi = none → h = len) := by
  have key : ∀ {v : Option AV} {d y i : Nat}, sliceBnd v d y = some i → (v = none ∧ i = d) ∨ (∃ x, v = some x ∧ asN x = some i ∧ i ≤ y) := by
    intro v d y i h
    unfold sliceBnd at h
    split at h
    · cases h; exact .inl ⟨rfl, rfl⟩
    · split at h
      · split at h
        · rename_i hle; cases h; exact .inr ⟨_, rfl, by assumption, Nat.le_of_ble_eq_true hle⟩
        · cases h
      · cases h
  rcases key e1 with ⟨rfl, rfl⟩ | ⟨x, rfl, hx, hle⟩
  · cases ch with
    | some _ => exact hh.elim
    | none =>
      rcases key e2 with ⟨rfl, rfl⟩ | ⟨x, rfl, hx, hle⟩
      · cases cl with
        | some _ => exact hl.elim
        | none => exact ⟨by simp [Instr.sliceBounds], by simp, Nat.zero_le _, fun _ => rfl⟩
      · cases cl with
        | none => exact hl.elim
        | some y => exact ⟨by simp [Instr.sliceBounds, sliceBound_run (P := P) (w := w) hl hx hle], by simp, hle, fun _ => rfl⟩
  · cases ch with
    | none => exact hh.elim
    | some z =>
      rcases key e2 with ⟨rfl, rfl⟩ | ⟨x', rfl, hx', hle'⟩
      · cases cl with
        | some _ => exact hl.elim
        | none => exact ⟨by simp [Instr.sliceBounds, sliceBound_run (P := P) (w := w) hh hx hle], fun _ => hle, Nat.zero_le _, by simp⟩
      · cases cl with
        | none => exact hl.elim
        | some y => exact ⟨by simp [Instr.sliceBounds, sliceBound_run (P := P) (w := w) hl hx' hle', sliceBound_run (P := P) (w := w) hh hx hle], fun _ => hle, hle', by simp⟩

theorem bounds3_run {lo hi mx : Option AV} {cl ch cm : Option Value} {isSlice : Bool} {len cap l h m : Nat} (hl : VRO σ ρ lo cl) (hh : VRO σ ρ hi ch) (hm : VRO σ ρ mx cm)
    (hmx : mx.isSome) (hhi : hi.isSome) {lim : Nat} (hlim : lim ≤ cap) (e0 : sliceBnd mx 0 lim = some m) (e1 : sliceBnd hi 0 m = some h) (e2 : sliceBnd lo 0 h = some l) :
    (Instr.sliceBounds isSlice len cap cl ch cm).run P w = .ok (l, h, m) w ∧ l ≤ h ∧ h ≤ m ∧ m ≤ lim := by
  have key : ∀ {v : Option AV} {d y i : Nat}, sliceBnd v d y = some i → (v = none ∧ i = d) ∨ (∃ x, v = some x ∧ asN x = some i ∧ i ≤ y) := by
    intro v d y i h
    unfold sliceBnd at h
    split at h
    · cases h; exact .inl ⟨rfl, rfl⟩
    · split at h
      · split at h
        · rename_i hle; cases h; exact .inr ⟨_, rfl, by assumption, Nat.le_of_ble_eq_true hle⟩
        · cases h
      · cases h
  rcases key e0 with ⟨rfl, _⟩ | ⟨x0, rfl, hx0, hle0⟩
  · simp at hmx
  rcases key e1 with ⟨rfl, _⟩ | ⟨x1, rfl, hx1, hle1⟩
  · simp at hhi
  cases cm with
  | none => exact hm.elim
  | some z0 =>
    cases ch with
    | none => exact hh.elim
    | some z1 =>
      rcases key e2 with ⟨rfl, rfl⟩ | ⟨x', rfl, hx', hle'⟩
      · cases cl with
        | some _ => exact hl.elim
        | none => exact ⟨by simp [Instr.sliceBounds, sliceBound_run (P := P) (w := w) hm hx0 (Nat.le_trans hle0 hlim), sliceBound_run (P := P) (w := w) hh hx1 hle1], Nat.zero_le _, hle1, hle0⟩
      · cases cl with
        | none => exact hl.elim
        | some y => exact ⟨by simp [Instr.sliceBounds, sliceBound_run (P := P) (w := w) hm hx0 (Nat.le_trans hle0 hlim), sliceBound_run (P := P) (w := w) hh hx1 hle1, sliceBound_run (P := P) (w := w) hl hx' hle'], hle', hle1, hle0⟩

theorem map_add {b o n : Nat} : (some (⟨b, o, none⟩ : Addr)).map (·.add n) = some ⟨b, o + n, none⟩ := by simp [add_none]

/-- A slice expression at a slice. -/
theorem sliceA_run {x : AV} {cx : Value} {lo hi mx : Option AV} {cl ch cm : Option Value} {t e : TypeId} {sz : Nat} {v : AV} (hu : P.underlying t = some (.slice e)) (hsz : sizeOfT P e = some sz)
    (hx : VR σ ρ x cx) (hl : VRO σ ρ lo cl) (hh : VRO σ ρ hi ch) (hm : VRO σ ρ mx cm) (h : sliceA sz x lo hi mx = some v) :
    ∃ cv, (Instr.slice t cx cl ch cm).run P w = .ok cv w ∧ VR σ ρ v cv := by
  unfold sliceA at h
  split at h
  · -- nil
    simp only [VR] at hx; subst hx
    split at h
    · rename_i m h0 l e0 e1 e2
      cases mx with
      | none =>
        cases cm with
        | some _ => exact hm.elim
        | none =>
          have hv : v = .nils := by cases hi <;> simp at h <;> exact h.symm
          subst hv
          have e1' : sliceBnd hi 0 0 = some h0 := e1
          have hle : h0 ≤ 0 := by
            unfold sliceBnd at e1; split at e1
            · cases e1; exact Nat.le_refl _
            · split at e1
              · split at e1
                · rename_i hb; cases e1; exact Nat.le_of_ble_eq_true hb
                · cases e1
              · cases e1
          have : h0 = 0 := by omega
          subst this
          obtain ⟨g, _, gl, _⟩ := bounds2_run (P := P) (w := w) (isSlice := true) hl hh e1 e2
          have : l = 0 := by omega
          subst this
          exact ⟨.slice none 0 0, by simp [Instr.slice, underlying_run hu, g, sizeOf_run hsz], by simp [VR]⟩
      | some x0 =>
        cases hi with
        | none => simp at h
        | some x1 =>
          simp at h; subst h
          have z : ∀ {v : Option AV} {i : Nat}, sliceBnd v 0 0 = some i → i = 0 := by
            intro v i e1
            unfold sliceBnd at e1; split at e1
            · cases e1; rfl
            · split at e1
              · split at e1
                · rename_i hb; cases e1; have := Nat.le_of_ble_eq_true hb; omega
                · cases e1
              · cases e1
          cases z e0; cases z e1; cases z e2
          obtain ⟨g, _⟩ := bounds3_run (P := P) (w := w) (isSlice := true) (len := 0) (cap := 0) hl hh hm rfl rfl (Nat.le_refl _) e0 e1 e2
          exact ⟨.slice none 0 0, by simp [Instr.slice, underlying_run hu, g, sizeOf_run hsz], by simp [VR]⟩
    · cases h
  · -- empty
    obtain ⟨a, c, rfl⟩ := hx
    split at h
    · rename_i h0 l e1 e2
      cases h
      cases cm with
      | some _ => exact hm.elim
      | none =>
        have z : ∀ {v : Option AV} {i : Nat}, sliceBnd v 0 0 = some i → i = 0 := by
          intro v i e1
          unfold sliceBnd at e1; split at e1
          · cases e1; rfl
          · split at e1
            · split at e1
              · rename_i hb; cases e1; have := Nat.le_of_ble_eq_true hb; omega
              · cases e1
            · cases e1
        have hz := z e1; subst hz
        have hz := z e2; subst hz
        obtain ⟨g, _⟩ := bounds2_run (P := P) (w := w) (isSlice := true) (len := 0) (cap := c) hl hh (bnd_up e1 (Nat.zero_le _)) e2
        refine ⟨.slice (some (if c = 0 then a else a.add (0 * sz))) 0 (c - 0), ?_, _, _, rfl⟩
        simp [Instr.slice, underlying_run hu, g, sizeOf_run hsz]
        split <;> simp
    · cases h
  · rename_i b o len cap
    obtain ⟨L, c, hL, hc, rfl⟩ := hx
    have hlim : capLim len cap ≤ c := by cases cap with
      | k n => obtain ⟨rfl, _⟩ := hc; exact Nat.le_refl _
      | rest j => exact hc.2
    split at h
    · -- a third index
      rename_i x0
      split at h
      · rename_i m e0
        split at h
        · cases h
        · rename_i x1
          split at h
          · rename_i h0 e1
            split at h
            · rename_i l e2
              cases h
              obtain ⟨g, g1, g2, g3⟩ := bounds3_run (P := P) (w := w) (isSlice := true) (len := len) (cap := c) hl hh hm rfl rfl hlim e0 e1 e2
              by_cases hml : m = l
              · subst hml
                have hb : Nat.beq m m = true := Nat.beq_refl m
                refine ⟨.slice (some ⟨L.blk, L.base + o, none⟩) (h0 - m) (m - m), ?_, L, m - m, hL, ⟨rfl, by omega⟩, by rw [hb]⟩
                simp [Instr.slice, underlying_run hu, g, sizeOf_run hsz]
              · have hb : Nat.beq m l = false := by rw [Bool.eq_false_iff]; exact fun e => hml (Nat.eq_of_beq_eq_true e)
                refine ⟨.slice (some ⟨L.blk, L.base + o + l * sz, none⟩) (h0 - l) (m - l), ?_, L, m - l, hL, ⟨rfl, by omega⟩, by rw [hb]; simp [Nat.add_assoc]⟩
                simp [Instr.slice, underlying_run hu, g, sizeOf_run hsz, hml, add_none]
            · cases h
          · cases h
      · cases h
    · cases cm with
      | some _ => exact hm.elim
      | none =>
        split at h
        · rename_i h0 e1
          split at h
          · rename_i l e2
            have e1' : sliceBnd hi len c = some h0 := bnd_up e1 hlim
            obtain ⟨g, g1, g2, g3⟩ := bounds2_run (P := P) (w := w) (isSlice := true) (len := len) (cap := c) hl hh e1' e2
            have hh0 : h0 ≤ capLim len cap := by
              unfold sliceBnd at e1
              split at e1
              · cases e1
                cases cap with
                | k n => exact hc.2
                | rest j => exact Nat.le_refl _
              · split at e1
                · split at e1
                  · rename_i hb; cases e1; exact Nat.le_of_ble_eq_true hb
                  · cases e1
                · cases e1
            split at h
            · rename_i cc
              cases h
              obtain ⟨rfl, hlen⟩ := hc
              by_cases hml : c = l
              · subst hml
                have hb : Nat.beq c c = true := Nat.beq_refl c
                refine ⟨.slice (some ⟨L.blk, L.base + o, none⟩) (h0 - c) (c - c), ?_, L, c - c, hL, ⟨rfl, by simp only [capLim] at hh0; omega⟩, by rw [hb]⟩
                simp [Instr.slice, underlying_run hu, g, sizeOf_run hsz]
              · have hb : Nat.beq c l = false := by rw [Bool.eq_false_iff]; exact fun e => hml (Nat.eq_of_beq_eq_true e)
                refine ⟨.slice (some ⟨L.blk, L.base + o + l * sz, none⟩) (h0 - l) (c - l), ?_, L, c - l, hL, ⟨rfl, by simp only [capLim] at hh0; omega⟩, by rw [hb]; simp [Nat.add_assoc]⟩
                simp [Instr.slice, underlying_run hu, g, sizeOf_run hsz, hml, add_none]
            · rename_i j
              obtain ⟨hcj, hlen⟩ := hc
              simp only [capLim] at hh0
              split at h
              · cases h
                refine ⟨.slice (some ⟨L.blk, L.base + o, none⟩) h0 c, ?_, L, c, hL, ⟨hcj, by omega⟩, rfl⟩
                simp [Instr.slice, underlying_run hu, g, sizeOf_run hsz, add_none]
              · rename_i l'
                split at h
                · rename_i hb
                  cases h
                  have hb := Nat.eq_of_beq_eq_true hb
                  refine ⟨.slice (some (if c = l' + 1 then ⟨L.blk, L.base + o, none⟩ else ⟨L.blk, L.base + o + (l' + 1) * sz, none⟩)) 0 (c - (l' + 1)), ?_, _, _, rfl⟩
                  simp [Instr.slice, underlying_run hu, g, sizeOf_run hsz, add_none]
                  refine ⟨?_, by omega⟩
                  split <;> simp_all
                · rename_i hb
                  cases h
                  have hb' : l' + 1 ≠ h0 := fun e => by rw [e, Nat.beq_refl] at hb; cases hb
                  have hne : c ≠ l' + 1 := by omega
                  refine ⟨.slice (some ⟨L.blk, L.base + o + (l' + 1) * sz, none⟩) (h0 - (l' + 1)) (c - (l' + 1)), ?_, L, c - (l' + 1), hL, ⟨by omega, by omega⟩, by simp [Nat.add_assoc]⟩
                  simp [Instr.slice, underlying_run hu, g, sizeOf_run hsz, hne, add_none]
          · cases h
        · cases h
  · cases h
end Go.AX
set_option linter.unusedVariables false
namespace Go.AX
open Go
variable {P : Program} {σ : Sg} {ρ : Ren} {s : St} {w : World}

/-- An array behind an address, sliced: as a slice of its own capacity. -/
theorem sliceArr_run {b o n : Nat} {L : Loc} {lo hi mx : Option AV} {cl ch cm : Option Value} {sz : Nat} {v : AV} (hL : ρ b = some L)
    (hl : VRO σ ρ lo cl) (hh : VRO σ ρ hi ch) (hm : VRO σ ρ mx cm) (h : sliceA sz (.sl b o n (.k n)) lo hi mx = some v) :
    ∃ l h0 m, (Instr.sliceBounds false n n cl ch cm).run P w = .ok (l, h0, m) w ∧
      VR σ ρ v (.slice (some (if m = l then ⟨L.blk, L.base + o, none⟩ else ⟨L.blk, L.base + o + l * sz, none⟩)) (h0 - l) (m - l)) := by
  unfold sliceA at h
  simp only [capLim] at h
  split at h
  · rename_i x0
    split at h
    · rename_i m e0
      split at h
      · cases h
      · rename_i x1
        split at h
        · rename_i h0 e1
          split at h
          · rename_i l e2
            cases h
            obtain ⟨g, g1, g2, g3⟩ := bounds3_run (P := P) (w := w) (isSlice := false) (len := n) (cap := n) hl hh hm rfl rfl (Nat.le_refl _) e0 e1 e2
            refine ⟨l, h0, m, g, ?_⟩
            by_cases hml : m = l
            · subst hml
              exact ⟨L, m - m, hL, ⟨rfl, by omega⟩, by simp⟩
            · have hb : Nat.beq m l = false := by rw [Bool.eq_false_iff]; exact fun e => hml (Nat.eq_of_beq_eq_true e)
              exact ⟨L, m - l, hL, ⟨rfl, by omega⟩, by rw [hb]; simp [Nat.add_assoc, hml]⟩
          · cases h
        · cases h
    · cases h
  · cases cm with
    | some _ => exact hm.elim
    | none =>
      split at h
      · rename_i h0 e1
        split at h
        · rename_i l e2
          cases h
          obtain ⟨g, g1, g2, g3⟩ := bounds2_run (P := P) (w := w) (isSlice := false) (len := n) (cap := n) hl hh e1 e2
          have hle : h0 ≤ n := by
            rcases bnd_cases e1 with ⟨_, rfl⟩ | ⟨_, _, _, hle⟩
            · exact Nat.le_refl _
            · exact hle
          refine ⟨l, h0, n, g, ?_⟩
          by_cases hml : n = l
          · subst hml
            exact ⟨L, n - n, hL, ⟨rfl, by omega⟩, by simp⟩
          · have hb : Nat.beq n l = false := by rw [Bool.eq_false_iff]; exact fun e => hml (Nat.eq_of_beq_eq_true e)
            exact ⟨L, n - l, hL, ⟨rfl, by omega⟩, by rw [hb]; simp [Nat.add_assoc, hml]⟩
        · cases h
      · cases h

theorem op_slice {t : TypeId} {x : AV} {cx : Value} {lo hi mx : Option AV} {cl ch cm : Option Value} {v : AV} {s' : St} (hR : Rel P σ ρ s w)
    (hx : VR σ ρ x cx) (hl : VRO σ ρ lo cl) (hh : VRO σ ρ hi ch) (hm : VRO σ ρ mx cm) (h : xSlice P s t x lo hi mx = .val v s') :
    Came P σ ρ s w v s' ((vOf (Instr.sliceAt t cx cl ch cm)).run P w) := by
  unfold xSlice at h
  split at h
  · rename_i hu
    split at h
    · rename_i l
      simp only [VR] at hx; subst hx
      cases cm with
      | some _ => exact hm.elim
      | none =>
        simp only at h
        split at h
        · rename_i h0 e1
          split at h
          · rename_i l0 e2
            cases h
            obtain ⟨g, g1, g2, g3⟩ := bounds2_run (P := P) (w := w) (isSlice := false) (len := l.length) (cap := l.length) hl hh e1 e2
            have hs : (ByteArray.mk l.toArray).size = l.length := by show l.toArray.size = _; simp
            refine .same hR (cv := .string ((ByteArray.mk l.toArray).extract l0 h0)) (vOf_run ?_) ?_
            · simp [Instr.sliceAt, Instr.slice, underlying_run hu, hs, g]
            · simp only [VR, ByteArray.extract_mk]
              rw [List.drop_take]
          · cases h
        · cases h
    · cases h
  · rename_i e hu
    split at h
    · rename_i sz hsz
      unfold orBad at h
      split at h
      · rename_i y hy
        cases h
        obtain ⟨cv, g1, g2⟩ := sliceA_run (P := P) (w := w) hu hsz hx hl hh hm hy
        exact .same hR (vOf_run (by simp [Instr.sliceAt, underlying_run hu, g1])) g2
      · cases h
    · cases h
  · rename_i n e hu
    split at h
    · rename_i b o sz hsz
      obtain ⟨L, hL, rfl⟩ := hx
      unfold orBad at h
      split at h
      · rename_i y hy
        cases h
        obtain ⟨l, h0, m, g1, g2⟩ := sliceArr_run (P := P) (w := w) hL hl hh hm hy
        refine .same hR (vOf_run ?_) g2
        simp [Instr.sliceAt, underlying_run hu, Instr.sureAddr, g1, sizeOf_run hsz, add_none]
      · cases h
    · cases h
  · rename_i arr hu
    split at h
    · rename_i n e b o hu'
      split at h
      · rename_i sz hsz
        obtain ⟨L, hL, rfl⟩ := hx
        unfold orBad at h
        split at h
        · rename_i y hy
          cases h
          obtain ⟨l, h0, m, g1, g2⟩ := sliceArr_run (P := P) (w := w) hL hl hh hm hy
          refine .same hR (vOf_run ?_) g2
          simp [Instr.sliceAt, underlying_run hu, Instr.slice, asAddr, underlying_run hu', g1, sizeOf_run hsz, add_none]
        · cases h
      · cases h
    · cases h
  · cases h

theorem op_index {t : TypeId} {x ix : AV} {cx ci : Value} {v : AV} {s' : St} (hR : Rel P σ ρ s w) (hx : VR σ ρ x cx) (hi : VR σ ρ ix ci) (h : xIndex P s t x ix = .val v s') :
    Came P σ ρ s w v s' ((vOf (Instr.index t cx ci)).run P w) := by
  unfold xIndex at h
  split at h
  · rename_i i hi'
    obtain ⟨k, rfl⟩ := asN_VR hi hi'
    split at h
    · rename_i n e hu
      split at h
      · rename_i cs sz hsz
        obtain ⟨vs, hv, rfl⟩ := hx
        split at h
        · rename_i hlt
          have hlt : i < n := by simpa [Nat.blt_eq] using hlt
          unfold orBad at h
          split at h
          · rename_i y hy
            cases h
            obtain ⟨cv, g1, g2⟩ := part_run (w := w) hv hy
            refine .same hR (vOf_run ?_) g2
            have hc : (0 : Int) ≤ i ∧ (i : Int) < n := ⟨by omega, by omega⟩
            simp only [Instr.index, asIntOf, Sem.run_bind, Sem.run_pure, Result.andThen_ok, underlying_run hu]
            rw [if_pos hc]
            simp [sizeOf_run hsz, g1]
          · cases h
        · cases h
      · cases h
    · rename_i hu
      split at h
      · rename_i l
        simp only [VR] at hx; subst hx
        split at h
        · rename_i b hb
          cases h
          refine .same hR (cv := .int .u8 b.toNat) (vOf_run ?_) (by simp [VR, byteAV])
          have hlt : i < l.length := by
            rcases Nat.lt_or_ge i l.length with h' | h'
            · exact h'
            · rw [List.getElem?_eq_none h'] at hb; cases hb
          have hsz : i < (ByteArray.mk l.toArray).size := by show i < l.toArray.size; simpa using hlt
          have : (ByteArray.mk l.toArray)[i]? = some b := by
            rw [ByteArray.getElem?_lt' _ _ hsz]
            show some (l.toArray[i]) = some b
            rw [List.getElem?_eq_getElem hlt] at hb
            simpa using hb
          simp only [Instr.index, asIntOf, Sem.run_bind, Sem.run_pure, Result.andThen_ok, underlying_run hu]
          rw [if_pos (by omega : (0:Int) ≤ i)]
          simp only [Int.toNat_natCast, this]
          rfl
        · cases h
      · cases h
    · cases h
  · cases h
end Go.AX
set_option linter.unusedVariables false
namespace Go.AX
open Go
variable {P : Program} {σ : Sg} {ρ : Ren} {s : St} {w : World}

theorem isByte_VRL : ∀ {l : List AV} {vs : List Value} {bs : List UInt8}, VRL σ ρ l vs → isByte l = some bs →
    ∃ ns : List Int, vs = ns.map (Value.int .u8) ∧ bs = ns.map (fun n => UInt8.ofNat n.toNat)
  | [], vs, bs, h, e => by cases h; cases e; exact ⟨[], rfl, rfl⟩
  | a :: l, vs, bs, ⟨v, vs', h0, h1, h2⟩, e => by
    subst h0
    simp only [isByte] at e
    split at e
    · rename_i n
      split at e
      · rename_i bs' hb
        cases e
        obtain ⟨ns, rfl, rfl⟩ := isByte_VRL h2 hb
        simp only [VR] at h1
        subst h1
        exact ⟨n :: ns, rfl, rfl⟩
      · cases e
    · cases e
theorem foldl_push (ns : List Int) : ∀ (l : List UInt8), ns.foldl (fun (r : ByteArray) n => r.push (UInt8.ofNat n.toNat)) ⟨l.toArray⟩ = ⟨(l ++ ns.map (fun n => UInt8.ofNat n.toNat)).toArray⟩ := by
  induction ns with
  | nil => intro l; simp
  | cons n ns ih =>
    intro l
    rw [List.foldl_cons]
    have : (ByteArray.mk l.toArray).push (UInt8.ofNat n.toNat) = ⟨(l ++ [UInt8.ofNat n.toNat]).toArray⟩ := by
      show ByteArray.mk (l.toArray.push _) = _
      simp
    rw [this, ih]
    simp

theorem firstA_run (hR : Rel P σ ρ s w) {es n : Nat} {x : AV} {cx : Value} {l : List AV} (hx : VR σ ρ x cx) (h : firstA s es n x = some l) :
    ∃ vs : List Value, VRL σ ρ l vs ∧ (Builtin.firstCells es n cx).run P w = .ok vs.toArray w ∧ ((∀ u, x ≠ .str u) → vs.length = n * es) := by
  unfold firstA at h
  split at h
  · rename_i b o len c
    obtain ⟨L, cc, hL, hc, rfl⟩ := hx
    obtain ⟨vs, h1, h2, h3⟩ := hR.cells hL h
    exact ⟨vs, h1, by simp only [Builtin.firstCells, h3], fun _ => h2⟩
  · simp only [VR] at hx; subst hx
    split at h
    · cases h; exact ⟨[], rfl, by simp [Builtin.firstCells], by simp⟩
    · cases h
  · obtain ⟨a, c, rfl⟩ := hx
    split at h
    · cases h; exact ⟨[], rfl, by simp [Builtin.firstCells, loadCells, loadCellsFrom], by simp⟩
    · cases h
  · rename_i u
    simp only [VR] at hx; subst hx
    split at h
    · cases h
      refine ⟨(u.take n).map fun b => .int .u8 b.toNat, ?_, ?_, fun hu => (hu u rfl).elim⟩
      · have : ∀ l : List UInt8, VRL σ ρ (l.map byteAV) (l.map fun b => .int .u8 b.toNat) := by
          intro l
          induction l with
          | nil => rfl
          | cons b l ih => exact ⟨_, _, rfl, by simp [VR, byteAV], ih⟩
        exact this _
      · simp only [Builtin.firstCells, Sem.run_pure, ByteArray.extract_mk]
        simp
    · cases h
  · cases h

theorem bytes_VRL (l : List UInt8) : VRL σ ρ (l.map byteAV) (l.map fun b => Value.int .u8 b.toNat) := by
  induction l with
  | nil => rfl
  | cons b l ih => exact ⟨_, _, rfl, by simp [VR, byteAV], ih⟩

theorem op_convert {src dst : TypeId} {x : AV} {cx : Value} {v : AV} {s' : St} (hR : Rel P σ ρ s w) (hx : VR σ ρ x cx) (h : xConvert P s src dst x = .val v s') :
    Came P σ ρ s w v s' ((vOf (convert src dst cx)).run P w) := by
  unfold xConvert at h
  split at h
  · rename_i sd dd hs hd
    split at h
    · rename_i k n
      simp only [VR] at hx; subst hx
      split at h
      · rename_i k'
        cases h
        exact .same hR (cv := .int k' (k'.wrap n)) (vOf_run (by simp [convert, underlying_run hs, underlying_run hd, Conv.intToInt])) (by simp [VR, wrapI_eq])
      · cases h
    · rename_i l
      simp only [VR] at hx; subst hx
      split at h
      · cases h
        exact .same hR (cv := .string ⟨l.toArray⟩) (vOf_run (by simp [convert, underlying_run hs, underlying_run hd])) rfl
      · rename_i e
        split at h
        · rename_i hu8 he1
          have hu := isU8_run hu8
          cases h
          have hsz : (ByteArray.mk l.toArray).size = l.length := by show l.toArray.size = _; simp
          let cap := (Question.appendCap l.length 0 e).cut (w.tape w.drawn (.appendCap l.length 0 e))
          have hcap : l.length ≤ cap := by
            show l.length ≤ l.length + _ % _
            omega
          let cells : Array Value := (l.toArray.map fun b => Value.int .u8 b.toNat) ++ Array.replicate (cap - l.length) (.int .u8 0)
          have hcs : cells.size = cap := by simp [cells]; omega
          let w' : World := ({ w with drawn := w.drawn + 1, heap := w.heap.push (.cells cells e) } : World).freeze ⟨w.heap.size, cap, none⟩ 1
          have hheap : w'.heap = w.heap.push (.cells cells e (cap, cap + 1)) := by
            apply Array.ext_getElem?
            intro i
            simp only [w', World.freeze]
            simp only [Nat.one_ne_zero, if_false]
            rw [Array.getElem?_modify, Array.getElem?_push, Array.getElem?_push]
            by_cases hi : i = w.heap.size
            · subst hi; simp
            · simp [hi, Ne.symm hi]
          refine came_new hR (l := ⟨w.heap.size, 0, cap⟩) (x := .cells cells e (cap, cap + 1)) (w' := w') rfl hheap ?_ ?_ ?_ ?_
            (vOf_run (v := .slice (some ⟨w.heap.size, 0, none⟩) l.length cap) ?_) ⟨⟨w.heap.size, 0, cap⟩, cap, by simp [Ren.put], ⟨rfl, by simpa using hcap⟩, by simp⟩
          · simp [w', World.freeze]
          · simp [w', World.freeze]
          · simp [w', World.freeze]
          · refine ⟨cells, (cap, cap + 1), rfl, fun i hi => ?_, by simp [hcs]; omega, .inr (by rw [hcs]; exact Nat.le_refl _), 1, ?_, by rw [hcs]; simp⟩
            · simp only [List.length_map] at hi
              obtain ⟨y, hy, hr⟩ := VRL.get (bytes_VRL (σ := σ) (ρ := ρ.put s.nx ⟨w.heap.size, 0, cap⟩) l) (i := i) (x := (l.map byteAV)[i]'(by simpa using hi)) (List.getElem?_eq_getElem _)
              refine ⟨y, ?_, cell_of (x := (l.map byteAV)[i]'(by simpa using hi)) ?_ hr⟩
              rotate_left
              · simp only [cellAt_e, List.length_map]
                rw [show Nat.mod i l.length = i from Nat.mod_eq_of_lt hi]
                exact List.getElem?_eq_getElem _
              · simp only [Nat.zero_add, cells]
                rw [Array.getElem?_append_left (by simpa using hi)]
                simpa using hy
            · exact he1
          · have hq : (Question.appendCap l.length 0 e).forced = false := rfl
            simp only [convert, Sem.run_bind, underlying_run hs, underlying_run hd, Result.andThen_ok]
            simp only [underlying_run hu, Sem.run_bind, Result.andThen_ok, Conv.stringToBytes, hsz, run_choose, hq, newRow_run, markStringish, run_shape]
            rw [if_neg (by simp)]
            simp only [Result.andThen_ok]
            have hshape : ({ w with drawn := w.drawn + 1, heap := w.heap.push (.cells cells e) } : World).shape? w.heap.size = some (e, cap) := by
              simp [World.shape?, hcs]
            show ((Sem.run P (match ({ w with drawn := w.drawn + 1, heap := w.heap.push (.cells cells e) } : World).shape? w.heap.size with
              | some (_, n) => freeze ⟨w.heap.size, n, none⟩ 1
              | _ => pure ()) ({ w with drawn := w.drawn + 1, heap := w.heap.push (.cells cells e) } : World)).andThen fun _ w2 =>
                Sem.run P (pure (Value.slice (some ⟨w.heap.size, 0, none⟩) l.length cap)) w2) = _
            rw [hshape]
            rfl
        · cases h
      · cases h
    · rename_i hni hns
      split at h
      · rename_i e
        split at h
        · rename_i hu8
          have hu := isU8_run hu8
          split at h
          · rename_i n hn
            split at h
            · rename_i l hl
              split at h
              · rename_i bs hbs
                cases h
                obtain ⟨vs, h1, h2, h3⟩ := firstA_run hR hx hl
                obtain ⟨ns, rfl, rfl⟩ := isByte_VRL h1 hbs
                have fin : ∀ (a : Option Addr) (len c : Nat), cx = .slice a len c → (Conv.bytesToString cx).run P w = .ok (.string ⟨(ns.map (fun n => UInt8.ofNat n.toNat)).toArray⟩) w →
                    Came P σ ρ s w (.str (ns.map fun n => UInt8.ofNat n.toNat)) s ((vOf (convert src dst cx)).run P w) := by
                  intro a len c hcx hrun
                  subst hcx
                  exact .same hR (cv := .string ⟨(ns.map (fun n => UInt8.ofNat n.toNat)).toArray⟩) (vOf_run (by rw [run_convert_bytes_string w src dst e a len c hs hu hd]; exact hrun)) (by simp [VR])
                unfold lenA at hn
                split at hn
                · cases hn
                  rename_i b o cap
                  obtain ⟨L, cc, hL, hc, rfl⟩ := hx
                  refine fin _ _ _ rfl ?_
                  have : (loadCells ⟨L.blk, L.base + o, none⟩ n).run P w = .ok (ns.map (Value.int .u8)).toArray w := by
                    simpa [Builtin.firstCells] using h2
                  rw [run_bytesToString w _ _ _ ns this]
                  have := foldl_push ns []
                  simp only [List.nil_append] at this
                  rw [← this]; rfl
                · cases hn
                  simp only [VR] at hx; subst hx
                  refine fin _ _ _ rfl ?_
                  have : ns = [] := by
                    simp [Builtin.firstCells] at h2
                    exact h2
                  subst this
                  simp [Conv.bytesToString]
                  rfl
                · cases hn
                  obtain ⟨a, c, rfl⟩ := hx
                  refine fin _ _ _ rfl ?_
                  have : (loadCells a 0).run P w = .ok (ns.map (Value.int .u8)).toArray w := by
                    simpa [Builtin.firstCells] using h2
                  rw [run_bytesToString w _ _ _ ns this]
                  have := foldl_push ns []
                  simp only [List.nil_append] at this
                  rw [← this]; rfl
                · exact (hns _ rfl).elim
                · cases hn
              · cases h
            · cases h
          · cases h
        · cases h
      · cases h
  · cases h
end Go.AX
set_option linter.unusedVariables false
namespace Go.AX
open Go
variable {P : Program} {σ : Sg} {ρ : Ren} {s : St} {w : World}

theorem getObj_run {r : Nat} {o : Obj} (h : w.heap[r]? = some o) (hn : ∀ c e f, o ≠ .cells c e f) : (getObj r).run P w = .ok o w := by
  unfold getObj
  simp only [Sem.run, h]
theorem setObj_run {r : Nat} {o x : Obj} (h : w.heap[r]? = some o) (hn : ∀ c e f, o ≠ .cells c e f) :
    (setObj r x).run P w = .ok () { w with heap := w.heap.setIfInBounds r x } := by
  unfold setObj
  simp only [Sem.run, h]

/-- An object, not a row, is changed. -/
theorem came_obj (hR : Rel P σ ρ s w) {b : Nat} {o0 o : AObj} {l : Loc} {x : Obj} {w' : World} {v : AV} {cv : Value} {res : Result Next} (hb : s.h.get b = some o0) (hr : o0.isRom = false) (hl : ρ b = some l)
    (hw : w' = { w with heap := w.heap.setIfInBounds l.blk x }) (ho : ObjR P σ ρ b l o x) (hres : res = .ok (.value cv) w' ∨ (res = .ok .skip w' ∧ cv = undef)) (hcv : VR σ ρ v cv) :
    Came P σ ρ s w v (s.put b o) res := by
  subst hw
  have hlt := hR.lt hb hl
  have hk : ∀ B, B ≠ l.blk → ({ w with heap := w.heap.setIfInBounds l.blk x } : World).heap[B]? = w.heap[B]? := fun B hB => by
    simp only []
    rw [Array.getElem?_setIfInBounds_ne (Ne.symm hB)]
  refine ⟨cv, _, ρ, hres, hcv, hR.upd hb hl hk (x := x) ?_ ho, Own.put hb hr, Frm.put hb hr hl hk (by simp) rfl rfl rfl⟩
  simp [hlt]

theorem keyDesc_run {t : TypeId} {kd : TypeDesc} {e : TypeId} (h : keyDesc P t = some (kd, e)) : ∃ k, P.underlying t = some (.map k e) ∧ P.underlying k = some kd := by
  unfold keyDesc at h
  split at h
  · rename_i k e' hu
    split at h
    · rename_i d hd; cases h; exact ⟨k, hu, hd⟩
    · cases h
  · cases h
theorem checkKey_run (n : Nat) {b : Bool} {kt : TypeId} {kd : TypeDesc} {k : AV} {ck : Value} (hu : P.underlying kt = some kd) (hk : keyOk kd k = true) (hv : VR σ ρ k ck) :
    (Instr.checkKey b (n + 1) kt ck).run P w = .ok () w := by
  unfold keyOk at hk
  split at hk
  · simp only [VR] at hv; subst hv; simp [Instr.checkKey, underlying_run hu]
  · simp only [VR] at hv; subst hv; simp [Instr.checkKey, underlying_run hu]
  · cases hk

theorem sameNow_eq {kd : TypeDesc} {x y : AV} {cx cy : Value} {b : Bool} (hx : VR σ ρ x cx) (hy : VR σ ρ y cy) (h : keyEq kd x y = some b) : Instr.sameNow kd cx cy = some b := by
  unfold keyEq at h
  split at h
  · split at h
    · rename_i hk
      cases h
      cases kindEq_eq hk
      simp only [VR] at hx hy
      subst hx hy
      simp [Instr.sameNow, eqI_eq]
    · cases h
  · cases h
    simp only [VR] at hx hy
    subst hx hy
    rename_i a b
    simp only [Instr.sameNow, bytesEq_eq]
    congr 1
    show (a.toArray == b.toArray) = _
    simp
  · cases h

theorem findA_run {kd : TypeDesc} {k : AV} {ck : Value} (hk : VR σ ρ k ck) : ∀ {es : List ME} {l : List MapEntry} {i : Nat} {r : Option (Nat × AV)}, MEL σ ρ es l → findA kd k es i = some r →
    match r with
    | none => Instr.findNow kd ck l i = some none
    | some (j, v) => ∃ cv, Instr.findNow kd ck l i = some (some (j, cv)) ∧ VR σ ρ v cv ∧ ∃ n e x, j = i + n ∧ es[n]? = some e ∧ l[n]? = some x ∧ MER σ ρ e x ∧ keyEq kd k e.k = some true ∧ e.v = v
  | [], l, i, r, hl, h => by
    cases hl; cases h; rfl
  | e :: es, l, i, r, ⟨x, xs, h0, hx, hxs⟩, h => by
    subst h0
    simp only [findA] at h
    split at h
    · rename_i he
      cases h
      refine ⟨x.val, ?_, hx.2.1, 0, e, x, rfl, rfl, rfl, hx, he, rfl⟩
      simp [Instr.findNow, sameNow_eq hk hx.1 he]
    · rename_i he
      have ih := findA_run hk hxs h
      have hs := sameNow_eq hk hx.1 he
      split
      · simp only at ih
        simp [Instr.findNow, hs, ih]
      · rename_i j v
        obtain ⟨cv, g1, g2, n, e', x', g3, g4, g5, g6, g7, g8⟩ := ih
        exact ⟨cv, by simp [Instr.findNow, hs, g1], g2, n + 1, e', x', by omega, by simpa using g4, by simpa using g5, g6, g7, g8⟩
    · cases h

theorem findKey_run {kt : TypeId} {kd : TypeDesc} {ck : Value} {l : List MapEntry} {r : Option (Nat × Value)} (hu : P.underlying kt = some kd) (h : Instr.findNow kd ck l 0 = some r) :
    (Instr.findKey kt ck l).run P w = .ok r w := by
  simp [Instr.findKey, underlying_run hu, h]

theorem op_lookup {t : TypeId} {x ix : AV} {cx ci : Value} {ok : Bool} {v : AV} {s' : St} (hR : Rel P σ ρ s w) (hx : VR σ ρ x cx) (hi : VR σ ρ ix ci) (h : xLookup P s t x ix ok = .val v s') :
    Came P σ ρ s w v s' ((vOf (Instr.lookup t cx ci ok)).run P w) := by
  unfold xLookup at h
  split at h
  · rename_i kd elem hkd
    obtain ⟨kt, hu, huk⟩ := keyDesc_run hkd
    split at h
    · rename_i hok
      -- what is found
      have fin : ∀ (es : List ME) (l : List MapEntry) (r : Option (Nat × AV)) , MEL σ ρ es l → findA kd ix es 0 = some r → xFound P s elem ok r = .val v s' →
          (∀ (k : Array MapEntry → Sem Value), (k l.toArray).run P w = ((do
            Instr.checkKey l.toArray.isEmpty 10000 kt ci
            let (v, o) ← match ← Instr.findKey kt ci l.toArray.toList with
              | some (_, v) => pure (v, true)
              | none => pure (← zeroValue elem, false)
            pure (if ok then .tuple #[v, .bool o] else v) : Sem Value)).run P w → Came P σ ρ s w v s' ((vOf (k l.toArray)).run P w)) := by
        intro es l r hl hf hfound k hk
        have g := findA_run hi hl hf
        unfold xFound at hfound
        split at hfound
        · rename_i j a
          cases hfound
          obtain ⟨cv, g1, g2, _⟩ := g
          refine .same hR (cv := if ok then .tuple #[cv, .bool true] else cv) (vOf_run ?_) ?_
          · rw [hk]
            simp only [Sem.run_bind, checkKey_run 9999 huk hok hi, Result.andThen_ok, findKey_run huk g1]
            rfl
          · cases ok
            · exact g2
            · exact ⟨[cv, .bool true], ⟨_, _, rfl, g2, _, _, rfl, rfl, rfl⟩, rfl⟩
        · split at hfound
          · rename_i z hz
            cases hfound
            obtain ⟨zv, z1, z2⟩ := zeroValue_run (σ := σ) (ρ := ρ) (w := w) hz
            refine .same hR (cv := if ok then .tuple #[zv, .bool false] else zv) (vOf_run ?_) ?_
            · rw [hk]
              simp only [Sem.run_bind, checkKey_run 9999 huk hok hi, Result.andThen_ok, findKey_run huk g, z1]
              rfl
            · cases ok
              · exact z2
              · exact ⟨[zv, .bool false], ⟨_, _, rfl, z2, _, _, rfl, rfl, rfl⟩, rfl⟩
          · cases hfound
      split at h
      · simp only [VR] at hx; subst hx
        refine fin [] [] none rfl rfl h (fun _ => Instr.lookup t (.map none) ci ok) ?_
        simp only [Instr.lookup, Sem.run_bind, underlying_run hu, Result.andThen_ok, Sem.run_pure]
        rfl
      · rename_i r
        obtain ⟨L, hL, rfl⟩ := hx
        split at h
        · rename_i es clock hb
          obtain ⟨L', o, hL', ho, l, hl, rfl⟩ := hR.obj _ _ hb
          rw [hL] at hL'; cases hL'
          split at h
          · rename_i r' hf
            refine fin es l r' hl hf h (fun _ => Instr.lookup t (.map (some L.blk)) ci ok) ?_
            simp only [Instr.lookup, Sem.run_bind, underlying_run hu, Result.andThen_ok, getObj_run ho (by simp), Sem.run_pure]
            rfl
          · cases h
        · cases h
      · cases h
    · cases h
  · cases h

theorem keyEq_same {kd : TypeDesc} {x y : AV} {cx cy : Value} (hx : VR σ ρ x cx) (hy : VR σ ρ y cy) (h : keyEq kd x y = some true) : cx = cy ∧ ∀ n, Instr.sameBits n cy cx = true := by
  unfold keyEq at h
  split at h
  · split at h
    · rename_i hk
      cases kindEq_eq hk
      simp only [VR] at hx hy
      subst hx hy
      have : ∀ {a b : Int}, some (eqI a b) = some true → a = b := fun e => by
        injection e with e; rw [eqI_eq] at e; simpa using e
      cases this h
      exact ⟨rfl, fun n => by simp [Instr.sameBits]⟩
    · cases h
  · simp only [VR] at hx hy
    subst hx hy
    rename_i a b
    have : a = b := by injection h with h; rw [bytesEq_eq] at h; simpa using h
    subst this
    refine ⟨rfl, fun n => ?_⟩
    have : ((ByteArray.mk a.toArray) == ⟨a.toArray⟩) = true := by
      show (a.toArray == a.toArray) = true
      simp
    cases n <;> simpa [Instr.sameBits] using this
  · cases h
theorem MEL.setVal {v : AV} {cv : Value} (hv : VR σ ρ v cv) : ∀ {es : List ME} {l : List MapEntry} {i : Nat} {x : MapEntry}, MEL σ ρ es l → l[i]? = some x → ∀ k, k = x.key →
    MEL σ ρ (AX.setVal v i es) (l.modify i fun e => { e with key := k, val := cv })
  | [], l, i, x, h, hx, _, _ => by cases h; simp at hx
  | e :: es, l, 0, x, ⟨y, ys, h0, h1, h2⟩, hx, k, hk => by
    subst h0; simp at hx; subst hx hk
    exact ⟨_, ys, rfl, ⟨h1.1, hv, h1.2.2⟩, h2⟩
  | e :: es, l, i+1, x, ⟨y, ys, h0, h1, h2⟩, hx, k, hk => by
    subst h0
    simp at hx
    exact ⟨y, _, rfl, h1, MEL.setVal hv h2 hx k hk⟩
theorem MEL.snoc {e : ME} {x : MapEntry} (h : MER σ ρ e x) : ∀ {es : List ME} {l : List MapEntry}, MEL σ ρ es l → MEL σ ρ (es ++ [e]) (l ++ [x])
  | [], l, hl => by cases hl; exact ⟨x, [], rfl, h, rfl⟩
  | a :: es, l, ⟨y, ys, h0, h1, h2⟩ => by subst h0; exact ⟨y, ys ++ [x], rfl, h1, MEL.snoc h h2⟩
theorem MEL.length : ∀ {es : List ME} {l : List MapEntry}, MEL σ ρ es l → es.length = l.length
  | [], l, h => by cases h; rfl
  | a :: es, l, ⟨y, ys, h0, h1, h2⟩ => by subst h0; simp [MEL.length h2]
theorem MEL.get : ∀ {es : List ME} {l : List MapEntry} {i : Nat} {e : ME}, MEL σ ρ es l → es[i]? = some e → ∃ x, l[i]? = some x ∧ MER σ ρ e x
  | [], l, i, e, h, he => by simp at he
  | a :: es, l, 0, e, ⟨y, ys, h0, h1, h2⟩, he => by subst h0; simp at he; subst he; exact ⟨y, rfl, h1⟩
  | a :: es, l, i+1, e, ⟨y, ys, h0, h1, h2⟩, he => by subst h0; simp at he ⊢; exact MEL.get h2 he
theorem MEL.delAt : ∀ {es : List ME} {l : List MapEntry} {i : Nat}, MEL σ ρ es l → MEL σ ρ (AX.delAt i es) (l.eraseIdx i)
  | [], l, i, h => by cases h; cases i <;> rfl
  | a :: es, l, 0, ⟨y, ys, h0, h1, h2⟩ => by subst h0; exact h2
  | a :: es, l, i+1, ⟨y, ys, h0, h1, h2⟩ => by subst h0; exact ⟨y, _, rfl, h1, MEL.delAt h2⟩

theorem modify_toArray (l : List MapEntry) (i : Nat) (f : MapEntry → MapEntry) : l.toArray.modify i f = (l.modify i f).toArray := by
  apply Array.ext_getElem?
  intro j
  rw [Array.getElem?_modify]
  simp only [List.getElem?_toArray, List.getElem?_modify]
  by_cases h : i = j <;> simp [h]

theorem op_mapUpd {t : TypeId} {m k x : AV} {cm ck cx : Value} {v : AV} {s' : St} (hR : Rel P σ ρ s w) (hm : VR σ ρ m cm) (hk : VR σ ρ k ck) (hx : VR σ ρ x cx)
    (h : xMapUpd P s t m k x = .val v s') : Came P σ ρ s w v s' ((uOf (Instr.mapUpdate t cm ck cx)).run P w) := by
  unfold xMapUpd at h
  split at h
  · rename_i kd elem hkd
    obtain ⟨kt, hu, huk⟩ := keyDesc_run hkd
    split at h
    · rename_i hok
      split at h
      · rename_i r
        obtain ⟨L, hL, rfl⟩ := hm
        unfold orBadS at h
        split at h
        · rename_i s1 hs1
          cases h
          unfold mapUpd at hs1
          split at hs1
          · rename_i es clock hb
            obtain ⟨L', o, hL', ho, l, hl, rfl⟩ := hR.obj _ _ hb
            rw [hL] at hL'; cases hL'
            split at hs1
            · rename_i j a hf
              cases hs1
              obtain ⟨cv, g1, g2, n, e, y, hj, he, hy, hr, heq, hev⟩ := findA_run hk hl hf
              have hj : j = n := by omega
              subst hj
              obtain ⟨hck, hbits⟩ := keyEq_same hk hr.1 heq
              refine came_obj hR hb rfl hL rfl (x := .map (l.modify j fun e => { e with key := ck, val := cx }).toArray clock) ⟨_, MEL.setVal hx hl hy ck hck, rfl⟩ (.inr ⟨uOf_run ?_, rfl⟩) ⟨[], rfl, rfl⟩
              simp only [Instr.mapUpdate, Sem.run_bind, underlying_run hu, Result.andThen_ok, getObj_run ho (by simp), checkKey_run 9999 huk hok hk, findKey_run huk g1]
              simp only [List.getElem?_toArray, hy, Option.map_some, Option.getD_some, Instr.keyThatStays, hbits, if_true, Sem.run_pure, Result.andThen_ok, setObj_run ho (by simp), modify_toArray]
            · rename_i hf
              cases hs1
              have g := findA_run hk hl hf
              simp only at g
              refine came_obj hR hb rfl hL rfl (x := .map (l ++ [({ key := ck, val := cx, born := clock } : MapEntry)]).toArray (clock + 1)) ⟨_, MEL.snoc ⟨hk, hx, rfl⟩ hl, rfl⟩ (.inr ⟨uOf_run ?_, rfl⟩) ⟨[], rfl, rfl⟩
              simp only [Instr.mapUpdate, Sem.run_bind, underlying_run hu, Result.andThen_ok, getObj_run ho (by simp), checkKey_run 9999 huk hok hk, findKey_run huk g, setObj_run ho (by simp)]
              simp
            · cases hs1
          · cases hs1
        · cases h
      · cases h
    · cases h
  · cases h
theorem op_mapEntry {t : TypeId} {m k : AV} {cm ck : Value} {v : AV} {s' : St} (hR : Rel P σ ρ s w) (hm : VR σ ρ m cm) (hk : VR σ ρ k ck)
    (h : xMapEntry P s t m k = .val v s') : Came P σ ρ s w v s' ((vOf (Instr.mapEntry t cm ck)).run P w) := by
  unfold xMapEntry at h
  split at h
  · rename_i kd elem hkd
    obtain ⟨kt, hu, huk⟩ := keyDesc_run hkd
    split at h
    · rename_i hok
      split at h
      · rename_i r
        obtain ⟨L, hL, rfl⟩ := hm
        split at h
        · rename_i es clock hb
          obtain ⟨L', o, hL', ho, l, hl, rfl⟩ := hR.obj _ _ hb
          rw [hL] at hL'; cases hL'
          split at h
          · rename_i j a hf
            obtain ⟨cv, g1, g2, n, e, y, hj, he, hy, hr, heq, hev⟩ := findA_run hk hl hf
            have hj : j = n := by omega
            subst hj
            split at h
            · rename_i e' he'
              rw [he] at he'; cases he'
              cases h
              obtain ⟨hck, hbits⟩ := keyEq_same hk hr.1 heq
              have hself : l.modify j (fun e => { e with key := ck }) = l := by
                apply List.ext_getElem?
                intro i
                rw [List.getElem?_modify]
                by_cases hij : j = i
                · subst hij; simp [hy, hck]
                · simp [hij]
              have hw : ({ w with heap := w.heap.setIfInBounds L.blk (.map l.toArray clock) } : World) = w := by
                have : w.heap.setIfInBounds L.blk (.map l.toArray clock) = w.heap := by
                  apply Array.ext_getElem?
                  intro i
                  by_cases hi : i = L.blk
                  · subst hi; rw [ho]; simp [hR.lt hb hL]
                  · rw [Array.getElem?_setIfInBounds_ne (Ne.symm hi)]
                rw [this]
              refine .same hR (cv := .tuple #[cv, .int .i64 y.born]) (vOf_run ?_) ⟨[cv, .int .i64 y.born], ⟨_, _, rfl, g2, _, _, rfl, by simp [VR, hr.2.2], rfl⟩, rfl⟩
              simp only [Instr.mapEntry, Sem.run_bind, underlying_run hu, Result.andThen_ok, getObj_run ho (by simp), checkKey_run 9999 huk hok hk, findKey_run huk g1]
              simp only [List.getElem?_toArray, hy, Option.map_some, Option.getD_some, Instr.keyThatStays, hbits, if_true, Sem.run_pure, Result.andThen_ok, setObj_run ho (by simp), modify_toArray, hself, hw, goInt]
            · cases h
          · rename_i hf
            have g := findA_run hk hl hf
            simp only at g
            split at h
            · rename_i z hz
              cases h
              obtain ⟨zv, z1, z2⟩ := zeroValue_run (σ := σ) (ρ := ρ) (w := w) hz
              refine came_obj hR hb rfl hL rfl (x := .map (l ++ [({ key := ck, val := zv, born := clock } : MapEntry)]).toArray (clock + 1)) ⟨_, MEL.snoc ⟨hk, z2, rfl⟩ hl, rfl⟩ (cv := .tuple #[zv, .int .i64 clock]) (.inl (vOf_run ?_))
                ⟨[zv, .int .i64 clock], ⟨_, _, rfl, z2, _, _, rfl, rfl, rfl⟩, rfl⟩
              simp only [Instr.mapEntry, Sem.run_bind, underlying_run hu, Result.andThen_ok, getObj_run ho (by simp), checkKey_run 9999 huk hok hk, findKey_run huk g, z1, setObj_run ho (by simp), Sem.run_pure, goInt]
              simp
            · cases h
          · cases h
        · cases h
      · cases h
    · cases h
  · cases h

theorem setBorn_run {born : Nat} {v : AV} {cv : Value} (hv : VR σ ρ v cv) : ∀ {es es' : List ME} {l : List MapEntry} (i : Nat), MEL σ ρ es l → setBorn born v es = some es' →
    ∃ n, l.findIdx? (fun e => (e.born : Int) == (born : Int)) = some n ∧ MEL σ ρ es' (l.modify n fun e => { e with val := cv })
  | [], es', l, i, h, hs => by cases hs
  | e :: es, es', l, i, ⟨y, ys, h0, h1, h2⟩, hs => by
    subst h0
    simp only [setBorn] at hs
    split at hs
    · rename_i hb
      cases hs
      have hb := Nat.eq_of_beq_eq_true hb
      refine ⟨0, ?_, _, ys, rfl, ⟨h1.1, hv, h1.2.2⟩, h2⟩
      rw [List.findIdx?_cons]
      simp [h1.2.2, hb]
    · rename_i hb
      split at hs
      · rename_i es1 hes
        cases hs
        obtain ⟨n, g1, g2⟩ := setBorn_run hv (i + 1) h2 hes
        refine ⟨n + 1, ?_, y, _, rfl, h1, g2⟩
        have hne : ¬ (y.born = born) := by rw [h1.2.2]; intro e; rw [e, Nat.beq_refl] at hb; cases hb
        rw [List.findIdx?_cons]
        have : ((y.born : Int) == (born : Int)) = false := by simp; omega
        rw [this]
        simp [g1]
      · cases hs
theorem op_entryStore {t : TypeId} {m st x : AV} {cm cst cx : Value} {v : AV} {s' : St} (hR : Rel P σ ρ s w) (hm : VR σ ρ m cm) (hst : VR σ ρ st cst) (hx : VR σ ρ x cx)
    (h : xEntryStore s m st x = .val v s') : Came P σ ρ s w v s' ((uOf (Instr.entryStore t cm cst cx)).run P w) := by
  unfold xEntryStore at h
  split at h
  · rename_i r born hborn
    obtain ⟨L, hL, rfl⟩ := hm
    obtain ⟨k, rfl⟩ := asN_VR hst hborn
    split at h
    · rename_i es clock hb
      obtain ⟨L', o, hL', ho, l, hl, rfl⟩ := hR.obj _ _ hb
      rw [hL] at hL'; cases hL'
      split at h
      · rename_i es' hes
        cases h
        obtain ⟨n, g1, g2⟩ := setBorn_run hx 0 hl hes
        refine came_obj hR hb rfl hL rfl (x := .map (l.modify n fun e => { e with val := cx }).toArray clock) ⟨_, g2, rfl⟩ (.inr ⟨uOf_run ?_, rfl⟩) ⟨[], rfl, rfl⟩
        simp only [Instr.entryStore, Sem.run_bind, Result.andThen_ok, getObj_run ho (by simp), asInt, asIntOf, Sem.run_pure]
        have : l.toArray.findIdx? (fun e => (e.born : Int) == (born : Int)) = some n := by rw [List.findIdx?_toArray]; exact g1
        simp only [this, setObj_run ho (by simp), modify_toArray]
      · cases h
    · cases h
  · cases h
end Go.AX
set_option linter.unusedVariables false
set_option linter.unusedSimpArgs false
namespace Go.AX
open Go
variable {P : Program}

theorem next_any {w : World} {rb mb since last' clock : Nat} {D : List Nat} {l : List MapEntry} (ho : w.heap[rb]? = some (.mapIter (some mb) since D.toArray last')) (hom : w.heap[mb]? = some (.map l.toArray clock))
    (hall : ∀ x ∈ l, x.born < since) (hlast : since ≤ last') (ty : TypeId) :
    ∃ w1 : World, w1.heap = w.heap ∧ w1.os = w.os ∧ w1.output = w.output ∧ w1.tape = w.tape ∧
      ((∃ x ∈ l, x.born ∉ D ∧ (Instr.next (.pointer (some ⟨rb, 0, none⟩)) false ty).run P w = .ok (.tuple #[.bool true, x.key, x.val]) { w1 with heap := w1.heap.setIfInBounds rb (.mapIter (some mb) since (D ++ [x.born]).toArray clock) }) ∨
       ((∀ x ∈ l, x.born ∈ D) ∧ (Instr.next (.pointer (some ⟨rb, 0, none⟩)) false ty).run P w = .ok (.tuple #[.bool false]) w1)) := by
  have hguard : (!D.toArray.isEmpty && !l.toArray.isEmpty && l.toArray.all (fun e => decide (e.born ≥ last'))) = false := by
    cases l with
    | nil => simp
    | cons y ys =>
      have := hall y (List.mem_cons_self ..)
      have h3 : ¬ (last' ≤ y.born) := by omega
      simp [h3]
  have hold : (l.filter fun e => !D.contains e.born).filter (fun e => decide (e.born < since)) = l.filter fun e => !D.contains e.born := by
    rw [List.filter_eq_self]
    intro x hx
    have := hall x (List.mem_filter.1 hx).1
    simpa using this
  have hnew : (l.filter fun e => !D.contains e.born).filter (fun e => decide (e.born ≥ since)) = [] := by
    rw [List.filter_eq_nil_iff]
    intro x hx
    have := hall x (List.mem_filter.1 hx).1
    simp; omega
  have hfil : l.toArray.filter (fun e => !D.toArray.contains e.born) = (l.filter fun e => !D.contains e.born).toArray := by simp
  have hmem : ∀ x, x ∈ l.filter (fun e => !D.contains e.born) → x ∈ l ∧ x.born ∉ D := fun x hx => by
    rw [List.mem_filter] at hx
    simpa using hx
  have hemp : l.filter (fun e => !D.contains e.born) = [] → ∀ x ∈ l, x.born ∈ D := fun h x hx => by
    rw [List.filter_eq_nil_iff] at h
    simpa using h x hx
  generalize (l.filter fun e => !D.contains e.born) = F at *
  have hfo : F.toArray.filter (fun e => decide (e.born < since)) = F.toArray := by rw [List.filter_toArray, hold]
  have hfn : F.toArray.filter (fun e => decide (e.born ≥ since)) = #[] := by rw [List.filter_toArray, hnew]
  have hrun : ∀ (c : Nat) (w1 : World) (hc : (choose (.mapNext ((if F.toArray.isEmpty then #[none] else #[]) ++ (F.toArray ++ #[]).map some).size)).run P w = .ok c w1),
      (Instr.next (.pointer (some ⟨rb, 0, none⟩)) false ty).run P w = (match ((if F.toArray.isEmpty then #[none] else #[]) ++ (F.toArray ++ #[]).map some)[c]? with
        | some (some e) => (do setObj rb (.mapIter (some mb) since (D.toArray.push e.born) clock); pure (.tuple #[.bool true, e.key, e.val]) : Sem Value)
        | some none => pure (.tuple #[.bool false])
        | none => stuck "Next: no such candidate").run P w1 := by
    intro c w1 hc
    simp only [Instr.next, Sem.run_bind, getObj_run ho (by simp), getObj_run hom (by simp), Result.andThen_ok, hguard]
    rw [if_neg (by simp)]
    simp only [hfil, hfo, hfn]
    rw [Sem.run_bind, hc, Result.andThen_ok]
    rfl
  by_cases hF : F = []
  · subst hF
    refine ⟨w, rfl, rfl, rfl, rfl, .inr ⟨hemp rfl, ?_⟩⟩
    rw [hrun 0 w (by rw [run_choose_drew]; simp [Question.forced])]
    simp
  · have hpos : 0 < F.length := by cases F with | nil => exact absurd rfl hF | cons => simp
    have hcand : ((if F.toArray.isEmpty then #[none] else #[]) ++ (F.toArray ++ #[]).map some) = F.toArray.map some := by
      have : F.toArray.isEmpty = false := by simpa using hF
      rw [this]; simp
    have fin : ∀ (c : Nat) (w1 : World), c < F.length → (choose (.mapNext ((if F.toArray.isEmpty then #[none] else #[]) ++ (F.toArray ++ #[]).map some).size)).run P w = .ok c w1 → w1.heap = w.heap →
        ∃ x ∈ l, x.born ∉ D ∧ (Instr.next (.pointer (some ⟨rb, 0, none⟩)) false ty).run P w = .ok (.tuple #[.bool true, x.key, x.val]) { w1 with heap := w1.heap.setIfInBounds rb (.mapIter (some mb) since (D ++ [x.born]).toArray clock) } := by
      intro c w1 hc h hh
      obtain ⟨h1, h2⟩ := hmem F[c] (List.getElem_mem hc)
      refine ⟨F[c], h1, h2, ?_⟩
      rw [hrun c w1 h, hcand]
      have : (F.toArray.map some)[c]? = some (some F[c]) := by simp [hc]
      rw [this]
      have ho1 : w1.heap[rb]? = some (.mapIter (some mb) since D.toArray last') := by rw [hh]; exact ho
      have hset := setObj_run (P := P) (x := .mapIter (some mb) since (D ++ [F[c].born]).toArray clock) ho1 (by simp)
      simp only [Sem.run_bind]
      rw [show D.toArray.push F[c].born = (D ++ [F[c].born]).toArray by simp, hset]
      rfl
    have hq : ((if F.toArray.isEmpty then #[none] else #[]) ++ (F.toArray ++ #[]).map some).size = F.length := by rw [hcand]; simp
    by_cases hf : F.length ≤ 1
    · obtain ⟨x, h1, h2, h3⟩ := fin 0 w hpos (by rw [run_choose_drew, hq]; simp [Question.forced, hf]) rfl
      exact ⟨w, rfl, rfl, rfl, rfl, .inl ⟨x, h1, h2, h3⟩⟩
    · obtain ⟨x, h1, h2, h3⟩ := fin (w.tape w.drawn (.mapNext F.length) % F.length) w.drew (Nat.mod_lt _ hpos) (by
        rw [run_choose_drew, hq, if_neg (by simp only [Question.forced, decide_eq_true_eq]; exact hf)]; rfl) rfl
      exact ⟨w.drew, rfl, rfl, rfl, rfl, .inl ⟨x, h1, h2, h3⟩⟩
theorem nodup_le : ∀ {l m : List Nat}, l.Nodup → (∀ x ∈ l, x ∈ m) → l.length ≤ m.length
  | [], _, _, _ => Nat.zero_le _
  | a :: l, m, hn, hs => by
    obtain ⟨h1, h2⟩ := List.nodup_cons.1 hn
    have hm := hs a (List.mem_cons_self ..)
    have := nodup_le (l := l) (m := m.erase a) h2 fun x hx => (List.mem_erase_of_ne (fun e => h1 (by rw [← e]; exact hx))).2 (hs x (List.mem_cons_of_mem _ hx))
    rw [List.length_erase_of_mem hm] at this
    have : 0 < m.length := List.length_pos_of_mem hm
    simp only [List.length_cons]
    omega

section
variable {σ : Sg} {ρ : Ren} {s : St}
theorem MEL_mem : ∀ {es : List ME} {l : List MapEntry}, MEL σ ρ es l → ∀ x ∈ l, ∃ e ∈ es, MER σ ρ e x
  | [], l, h, x, hx => by
    have h : l = [] := h
    subst h
    exact absurd hx List.not_mem_nil
  | e :: es, _, ⟨y, ys, rfl, h1, h2⟩, x, hx => by
    rcases List.mem_cons.1 hx with rfl | hx
    · exact ⟨e, List.mem_cons_self .., h1⟩
    · obtain ⟨e', h3, h4⟩ := MEL_mem h2 x hx
      exact ⟨e', List.mem_cons_of_mem _ h3, h4⟩
theorem MEL_mem' : ∀ {es : List ME} {l : List MapEntry}, MEL σ ρ es l → ∀ e ∈ es, ∃ x ∈ l, MER σ ρ e x
  | [], l, h, e, he => absurd he List.not_mem_nil
  | a :: es, _, ⟨y, ys, rfl, h1, h2⟩, e, he => by
    rcases List.mem_cons.1 he with rfl | he
    · exact ⟨y, List.mem_cons_self .., h1⟩
    · obtain ⟨x, h3, h4⟩ := MEL_mem' h2 e he
      exact ⟨x, List.mem_cons_of_mem _ h3, h4⟩

/-! ### Keys that are known by numbers of their own -/
theorem KeyL.length {ks : List (Nat × Nat)} : ∀ {D ids : List Nat}, KeyL ρ ks D ids → D.length = ids.length
  | [], _, e => by
    have e : _ = [] := e
    subst e; rfl
  | d :: D, _, ⟨i, l, rest, e, _, _, h⟩ => by subst e; simp [KeyL.length h]
theorem KeyL.append {ks : List (Nat × Nat)} {i d : Nat} {l : Loc} (hi : ρ i = some l) (hm : (l.blk, d) ∈ ks) : ∀ {D ids : List Nat}, KeyL ρ ks D ids → KeyL ρ ks (D ++ [d]) (ids ++ [i])
  | [], _, e => by
    have e : _ = [] := e
    subst e
    exact ⟨i, l, [], rfl, hi, hm, rfl⟩
  | d' :: D, _, ⟨i', l', rest, e, h1, h2, h⟩ => by subst e; exact ⟨i', l', rest ++ [i], rfl, h1, h2, KeyL.append hi hm h⟩
theorem KeyL.sub {ks : List (Nat × Nat)} : ∀ {D ids : List Nat}, KeyL ρ ks D ids → ∀ d ∈ D, ∃ n, (n, d) ∈ ks
  | [], _, _, d, h => absurd h List.not_mem_nil
  | a :: D, _, ⟨i, l, rest, _, _, h2, h⟩, d, hd => by
    rcases List.mem_cons.1 hd with rfl | hd
    · exact ⟨_, h2⟩
    · exact KeyL.sub h d hd
theorem KeyL.last {ks : List (Nat × Nat)} {id : Nat} : ∀ {D ids : List Nat}, KeyL ρ ks D ids → ids.getLast? = some id → ∃ d l, D.getLast? = some d ∧ ρ id = some l ∧ (l.blk, d) ∈ ks
  | [], _, e, h => by
    have e : _ = [] := e
    subst e
    cases h
  | [d], _, ⟨i, l, rest, e, h1, h2, h3⟩, h => by
    have h3 : rest = [] := h3
    subst h3
    subst e
    cases h
    exact ⟨d, l, rfl, h1, h2⟩
  | d :: d' :: D, _, ⟨i, l, rest, e, h1, h2, h3⟩, h => by
    obtain ⟨i', l', rest', e', g1, g2, g3⟩ := h3
    subst e'
    subst e
    rw [List.getLast?_cons_cons] at h
    obtain ⟨q, lq, q1, q2, q3⟩ := KeyL.last (D := d' :: D) ⟨i', l', rest', rfl, g1, g2, g3⟩ h
    exact ⟨q, lq, by rw [List.getLast?_cons_cons]; exact q1, q2, q3⟩
theorem keysOK_get {kd : IntKind} {since : Nat} : ∀ {es : List ME} {ks : List (Nat × Nat)}, keysOK kd since es ks = true →
    es.length = ks.length ∧ (∀ e ∈ es, ∃ n, e.k = .int kd (.ofNat n) ∧ (n, e.born) ∈ ks ∧ e.born < since) ∧ (ks.map (·.2)).Nodup ∧ (∀ e ∈ es, ∀ n, (n, e.born) ∈ ks → e.k = .int kd (.ofNat n)) ∧ (∀ q ∈ ks, ∃ e ∈ es, e.k = .int kd (.ofNat q.1) ∧ e.born = q.2)
  | [], [], _ => ⟨rfl, fun e h => absurd h List.not_mem_nil, List.nodup_nil, fun e h => absurd h List.not_mem_nil, fun e h => absurd h List.not_mem_nil⟩
  | [], _ :: _, h => by cases h
  | _ :: _, [], h => by cases h
  | e :: es, q :: ks, h => by
    simp only [keysOK] at h
    obtain ⟨h, h5⟩ := Bool.and_eq_true_iff.1 h
    obtain ⟨h, h4⟩ := Bool.and_eq_true_iff.1 h
    obtain ⟨h, h3⟩ := Bool.and_eq_true_iff.1 h
    obtain ⟨h1, h2⟩ := Bool.and_eq_true_iff.1 h
    obtain ⟨g1, g2, g3, g4, g5⟩ := keysOK_get h5
    have hb := Nat.eq_of_beq_eq_true h2
    have hlt : q.2 < since := by simpa [Nat.blt_eq] using h3
    have hk : e.k = .int kd (.ofNat q.1) := by
      split at h1
      · rename_i k n hek
        obtain ⟨k1, k2⟩ := Bool.and_eq_true_iff.1 h1
        have e1 : k = kd := by cases k <;> cases kd <;> first | rfl | cases k1
        rw [hek, e1, Nat.eq_of_beq_eq_true k2]
      · cases h1
    have hne : ∀ p ∈ ks, q.2 ≠ p.2 := fun p hp e1 => by
      have := List.all_eq_true.1 h4 p hp
      rw [e1, Nat.beq_refl] at this
      cases this
    refine ⟨by simp [g1], ?_, ?_, ?_, ?_⟩
    · intro e' he'
      rcases List.mem_cons.1 he' with rfl | he'
      · exact ⟨q.1, hk, by rw [hb]; exact List.mem_cons_self .., by omega⟩
      · obtain ⟨n, n1, n2, n3⟩ := g2 e' he'
        exact ⟨n, n1, List.mem_cons_of_mem _ n2, n3⟩
    · rw [List.map_cons, List.nodup_cons]
      refine ⟨fun hm => ?_, g3⟩
      obtain ⟨p, hp, e1⟩ := List.mem_map.1 hm
      exact hne p hp e1.symm
    · intro e' he' n hn
      rcases List.mem_cons.1 he' with rfl | he'
      · rcases List.mem_cons.1 hn with e1 | hn
        · rw [hk, ← e1]
        · exact absurd hb.symm (hne _ hn)
      · rcases List.mem_cons.1 hn with e1 | hn
        · obtain ⟨n', _, n2, _⟩ := g2 e' he'
          exact absurd (by rw [← e1]) (hne _ n2)
        · exact g4 e' he' n hn
    · intro p hp
      rcases List.mem_cons.1 hp with rfl | hp
      · exact ⟨e, List.mem_cons_self .., hk, hb⟩
      · obtain ⟨e', k1, k2⟩ := g5 p hp
        exact ⟨e', List.mem_cons_of_mem _ k1, k2⟩
/-- A number that is given out. -/
theorem Rel.bump {w : World} (hR : Rel P σ ρ s w) (l : Loc) : Rel P σ (ρ.put s.nx l) ⟨s.h, Nat.succ s.nx⟩ w := by
  have hle := hR.le_put l
  have hsame : ∀ j, j ≠ s.nx → (ρ.put s.nx l) j = ρ j := fun j hj => by simp [Ren.put, hj]
  have hdom : ∀ b o, s.h.get b = some o → b ≠ s.nx := fun b o hb => Nat.ne_of_lt (hR.dom b o hb)
  refine ⟨fun b o hb => ?_, fun b b' o o' l l' hb hb' hl hl' he => ?_, fun b hb => ?_, fun g hg => hle _ _ (hR.glob g hg), fun b o hb => Nat.lt_succ_of_lt (hR.dom b o hb)⟩
  · obtain ⟨l', x, h1, h2, h3⟩ := hR.obj b o hb
    exact ⟨l', x, hle _ _ h1, h2, ObjR.mono hle h3⟩
  · rw [hsame _ (hdom _ _ hb)] at hl
    rw [hsame _ (hdom _ _ hb')] at hl'
    exact hR.inj _ _ _ _ _ _ hb hb' hl hl' he
  · have hb : s.nx + 1 ≤ b := hb
    rw [hsame _ (by omega)]
    exact hR.fresh b (by omega)
theorem op_nextK {r m since last : Nat} {kd : IntKind} {ks : List (Nat × Nat)} {ids : List Nat} {L : Loc} {ty : TypeId} {v : AV} {s' : St} {w : World} (hR : Rel P σ ρ s w) (hb : s.h.get r = some (.iterK m since kd ks ids last)) (hL : ρ r = some L)
    (h : xNextK s r m since kd ks ids last = .val v s') : Came P σ ρ s w v s' ((vOf (Instr.next (.pointer (some ⟨L.blk, L.base + 0, none⟩)) false ty)).run P w) := by
  obtain ⟨L', o, hL', ho, M, D, hM, hz, hlast, hnd, hkl, rfl⟩ := hR.obj _ _ hb
  rw [hL] at hL'; cases hL'
  unfold xNextK at h
  split at h
  case h_2 => cases h
  rename_i es clock hbm
  obtain ⟨M', om, hM', hom, l, hl, rfl⟩ := hR.obj _ _ hbm
  rw [hM] at hM'; cases hM'
  split at h
  case h_2 => cases h
  rename_i hk
  obtain ⟨hk, hsc⟩ := Bool.and_eq_true_iff.1 hk
  have hsc := Nat.le_of_ble_eq_true hsc
  obtain ⟨k1, k2, k3, k4, k5⟩ := keysOK_get hk
  have hborn : ∀ x ∈ l, x.born < since := fun x hx => by
    obtain ⟨e, he, h1⟩ := MEL_mem hl x hx
    rw [h1.2.2]
    obtain ⟨_, _, _, h2⟩ := k2 e he
    exact h2
  obtain ⟨wd, d1, d2, d3, d4, hcase⟩ := next_any (P := P) ho hom hborn hlast ty
  have hDs : ∀ d ∈ D, d ∈ ks.map (·.2) := fun d hd => by
    obtain ⟨n, hn⟩ := KeyL.sub hkl d hd
    exact List.mem_map.2 ⟨_, hn, rfl⟩
  have hDl := KeyL.length hkl
  rw [hz, Nat.add_zero]
  split at h
  · rename_i hlt
    have hlt : ids.length < ks.length := by simpa [Nat.blt_eq] using hlt
    cases h
    rcases hcase with ⟨x, hx, hxD, hnext⟩ | ⟨hall, _⟩
    · obtain ⟨e, he, hm1, _, hm3⟩ := MEL_mem hl x hx
      obtain ⟨n, n1, n2, _⟩ := k2 e he
      rw [hm3] at hnext hxD
      have hlo : L.blk < w.heap.size := hR.lt hb hL
      have hR1 := hR.bump ⟨n, 0, 0⟩
      have hnr : r ≠ s.nx := Nat.ne_of_lt (hR.dom _ _ hb)
      have hle := hR.le_put ⟨n, 0, 0⟩
      have hk' : ∀ B, B ≠ L.blk → ({ wd with heap := wd.heap.setIfInBounds L.blk (.mapIter (some M.blk) since (D ++ [e.born]).toArray clock) } : World).heap[B]? = w.heap[B]? := fun B hB => by
        simp only []
        rw [Array.getElem?_setIfInBounds_ne (Ne.symm hB), d1]
      have hput : (ρ.put s.nx ⟨n, 0, 0⟩) s.nx = some ⟨n, 0, 0⟩ := by simp [Ren.put]
      refine ⟨_, _, ρ.put s.nx ⟨n, 0, 0⟩, .inl (vOf_run hnext), ⟨[.bool true, x.key, x.val], ⟨_, _, rfl, rfl, _, _, rfl, ⟨⟨n, 0, 0⟩, hput, ?_⟩, _, _, rfl, trivial, rfl⟩, rfl⟩, ?_, ?_, ?_⟩
      · rw [n1] at hm1
        exact hm1
      · refine Rel.upd (s := ⟨s.h, Nat.succ s.nx⟩) hR1 hb (hle _ _ hL) hk' (x := .mapIter (some M.blk) since (D ++ [e.born]).toArray clock) ?_ ?_
        · simp only []
          rw [Array.getElem?_setIfInBounds_self_of_lt (by rw [d1]; exact hlo)]
        · refine ⟨M, D ++ [e.born], hle _ _ hM, hz, hsc, ?_, KeyL.append hput n2 (KeyL.mono hle hkl), rfl⟩
          rw [List.nodup_append]
          refine ⟨hnd, by simp, fun y hy z hz' => ?_⟩
          simp only [List.mem_singleton] at hz'
          subst hz'
          intro e1
          exact hxD (e1 ▸ hy)
      · have hgs : ∀ b o', (s.h.set r (.iterK m since kd ks (ids ++ [s.nx]) clock)).get b = some o' → ∃ o0, s.h.get b = some o0 ∧ o0.isRom = o'.isRom ∧ b ≠ s.nx := fun b o' hb' => by
          rw [Q.get_set] at hb'
          split at hb'
          · rename_i e1; subst e1; cases hb'; exact ⟨_, hb, rfl, hnr⟩
          · exact ⟨_, hb', rfl, Nat.ne_of_lt (hR.dom _ _ hb')⟩
        refine ⟨hle, Nat.le_succ _, fun b o' lo hb' hr' hl' => ?_, fun b hb' => by simp [Ren.put, Nat.ne_of_lt hb'], fun b o' lo hb' hl' => ?_⟩
        · obtain ⟨o0, h1, h2, h3⟩ := hgs b o' hb'
          exact .inl ⟨b, o0, lo, h1, by rw [h2]; exact hr', by simpa [Ren.put, h3] using hl', rfl⟩
        · obtain ⟨o0, h1, h2, h3⟩ := hgs b o' hb'
          exact .inl ⟨b, o0, lo, h1, by simpa [Ren.put, h3] using hl', rfl⟩
      · exact Frm.put hb rfl hL hk' (by simp [d1]) d2 d3 d4
    · exfalso
      have hsub : ∀ d ∈ ks.map (·.2), d ∈ D := fun d hd => by
        obtain ⟨q, hq, rfl⟩ := List.mem_map.1 hd
        obtain ⟨e, he, _, h2⟩ := k5 q hq
        obtain ⟨x, hx, h3⟩ := MEL_mem' hl e he
        have := hall x hx
        rw [h3.2.2, h2] at this
        exact this
      have := nodup_le k3 hsub
      rw [List.length_map] at this
      omega
  · rename_i hlt
    have hlt : ¬ ids.length < ks.length := fun h' => by
      have : Nat.blt ids.length ks.length = true := by rw [Nat.blt_eq]; exact h'
      rw [hlt] at this; cases this
    cases h
    rcases hcase with ⟨x, hx, hxD, _⟩ | ⟨_, hnext⟩
    · exfalso
      obtain ⟨e, he, _, _, hm3⟩ := MEL_mem hl x hx
      obtain ⟨n, _, n2, _⟩ := k2 e he
      have hnd' : (x.born :: D).Nodup := List.nodup_cons.2 ⟨hxD, hnd⟩
      have := nodup_le (m := ks.map (·.2)) hnd' fun d hd => by
        rcases List.mem_cons.1 hd with rfl | hd
        · exact List.mem_map.2 ⟨_, n2, hm3.symm⟩
        · exact hDs d hd
      rw [List.length_map, List.length_cons] at this
      omega
    · refine ⟨_, wd, ρ, .inl (vOf_run hnext), ⟨[.bool false], ⟨_, _, rfl, rfl, rfl⟩, rfl⟩, ⟨fun b o' hb' => by rw [d1]; exact hR.obj b o' hb', hR.inj, hR.fresh, hR.glob, hR.dom⟩, Own.refl _ _ _, ⟨by rw [d1]; exact Nat.le_refl _, fun B _ _ => by rw [d1], d2, d3, d4⟩⟩
end
end Go.AX
set_option linter.unusedVariables false
namespace Go.AX
open Go
variable {P : Program} {σ : Sg} {ρ : Ren} {s : St} {w : World}

theorem newObj_run' {o : Obj} : (newObj o).run P w = .ok w.heap.size { w with heap := w.heap.push o } := rfl

theorem op_range {t : TypeId} {x : AV} {cx : Value} {v : AV} {s' : St} (hR : Rel P σ ρ s w) (hx : VR σ ρ x cx) (h : xRange P s t x = .val v s') :
    Came P σ ρ s w v s' ((vOf (Instr.range t cx)).run P w) := by
  have fin : ∀ (o : AObj) (x : Obj), ObjR P σ (ρ.put s.nx ⟨w.heap.size, 0, 0⟩) s.nx ⟨w.heap.size, 0, 0⟩ o x →
      (Instr.range t cx).run P w = .ok (.pointer (some ⟨w.heap.size, 0, none⟩)) { w with heap := w.heap.push x } →
      Came P σ ρ s w (.ptr s.nx 0) (s.new o) ((vOf (Instr.range t cx)).run P w) := fun o x ho e =>
    came_new hR (l := ⟨w.heap.size, 0, 0⟩) (x := x) (w' := { w with heap := w.heap.push x }) rfl rfl rfl rfl rfl ho (vOf_run e) put_ptr
  unfold xRange at h
  split at h
  · rename_i hu
    split at h
    · rename_i l
      simp only [VR] at hx; subst hx
      cases h
      exact fin _ (.stringIter ⟨l.toArray⟩ 0) ⟨rfl, rfl⟩ (by simp only [Instr.range, Sem.run_bind, underlying_run hu, Result.andThen_ok, Sem.run_pure, newObj_run'])
    · cases h
  · rename_i k e hu
    split at h
    · simp only [VR] at hx; subst hx
      cases h
      exact fin _ (.mapIter none 0 #[] 0) ⟨rfl, rfl⟩ (by simp only [Instr.range, Sem.run_bind, underlying_run hu, Result.andThen_ok, Sem.run_pure, newObj_run'])
    · rename_i r
      obtain ⟨L, hL, rfl⟩ := hx
      split at h
      · rename_i es clock hb
        cases h
        obtain ⟨L', o, hL', ho, l, hl, rfl⟩ := hR.obj _ _ hb
        rw [hL] at hL'; cases hL'
        exact fin _ (.mapIter (some L.blk) clock #[] clock) ⟨L, hR.le_put _ _ _ hL, rfl, rfl⟩
          (by simp only [Instr.range, Sem.run_bind, underlying_run hu, Result.andThen_ok, getObj_run ho (by simp), Sem.run_pure, newObj_run'])
      · cases h
    · cases h
  · cases h

theorem any_beq (seen : List Nat) (b : Nat) : seen.any (Nat.beq b) = seen.contains b := by
  induction seen with
  | nil => rfl
  | cons a l ih => simp only [List.any_cons, List.contains_cons, ih]; congr 1; rw [Bool.eq_iff_iff]; simp
theorem MEL.left (seen : List Nat) : ∀ {es : List ME} {l : List MapEntry}, MEL σ ρ es l → MEL σ ρ (leftOf seen es) (l.filter fun e => !seen.contains e.born)
  | [], l, h => by cases h; rfl
  | a :: es, l, ⟨y, ys, h0, h1, h2⟩ => by
    subst h0
    have ih := MEL.left seen h2
    have e : (!seen.any (Nat.beq a.born)) = !seen.contains y.born := by rw [any_beq, h1.2.2]
    unfold leftOf at ih ⊢
    rw [List.filter_cons, List.filter_cons, ← e]
    split
    · exact ⟨y, _, rfl, h1, ih⟩
    · exact ih
theorem MEL.all {f : Nat → Bool} : ∀ {es : List ME} {l : List MapEntry}, MEL σ ρ es l → es.all (fun e => f e.born) = l.all (fun e => f e.born)
  | [], l, h => by cases h; rfl
  | a :: es, l, ⟨y, ys, h0, h1, h2⟩ => by subst h0; simp only [List.all_cons, MEL.all h2, h1.2.2]

theorem op_next {it : AV} {ci : Value} {isS : Bool} {ty : TypeId} {v : AV} {s' : St} (hR : Rel P σ ρ s w) (hi : VR σ ρ it ci)
    (h : xNext s it isS = .val v s') : Came P σ ρ s w v s' ((vOf (Instr.next ci isS ty)).run P w) := by
  unfold xNext at h
  split at h
  · rename_i r
    obtain ⟨L, hL, rfl⟩ := hi
    split at h
    · rename_i l pos hb
      obtain ⟨L', o, hL', ho, hobj⟩ := hR.obj _ _ hb
      rw [hL] at hL'; cases hL'
      obtain ⟨hz, rfl⟩ := hobj
      split at h
      · unfold xNextS at h
        have hsz : (ByteArray.mk l.toArray).size = l.length := by show l.toArray.size = _; simp
        split at h
        · rename_i hlt
          have hlt : pos < l.length := by simpa [Nat.blt_eq] using hlt
          generalize hd : Utf8.decode ⟨l.toArray⟩ pos = d at h
          obtain ⟨c, wd⟩ := d
          cases h
          refine came_obj hR hb rfl hL rfl (x := .stringIter ⟨l.toArray⟩ (pos + wd)) ⟨hz, rfl⟩ (cv := .tuple #[.bool true, .int .i64 pos, .int .i32 c]) (.inl (vOf_run ?_))
            ⟨[.bool true, .int .i64 pos, .int .i32 c], ⟨_, _, rfl, rfl, _, _, rfl, rfl, _, _, rfl, rfl, rfl⟩, rfl⟩
          simp only [hz, Nat.add_zero, Instr.next, Sem.run_bind, getObj_run ho (by simp), Result.andThen_ok, hsz, if_pos hlt, hd, setObj_run ho (by simp), Sem.run_pure, goInt]
        · rename_i hlt
          have hlt : ¬ pos < l.length := by
            intro hh
            have : Nat.blt pos l.length = true := by rw [Nat.blt_eq]; exact hh
            simp_all
          cases h
          refine .same hR (cv := .tuple #[.bool false]) (vOf_run ?_) ⟨[.bool false], ⟨_, _, rfl, rfl, rfl⟩, rfl⟩
          simp only [hz, Nat.add_zero, Instr.next, Sem.run_bind, getObj_run ho (by simp), Result.andThen_ok, hsz, if_neg hlt, Sem.run_pure]
      · cases h
    · rename_i m since stamp hb
      obtain ⟨L', o, hL', ho, hobj⟩ := hR.obj _ _ hb
      exact hobj.elim
    · rename_i hb
      obtain ⟨L', o, hL', ho, hobj⟩ := hR.obj _ _ hb
      exact hobj.elim
    · rename_i m since kd ks ids last hb
      split at h
      · cases h
      · exact op_nextK hR hb hL h
    · rename_i m since seen stamp hb
      obtain ⟨L', o, hL', ho, hobj⟩ := hR.obj _ _ hb
      exact hobj.elim
    · rename_i since seen last hb
      obtain ⟨L', o, hL', ho, hobj⟩ := hR.obj _ _ hb
      rw [hL] at hL'; cases hL'
      obtain ⟨hz, rfl⟩ := hobj
      split at h
      · cases h
      · cases h
        refine .same hR (cv := .tuple #[.bool false]) (vOf_run ?_) ⟨[.bool false], ⟨_, _, rfl, rfl, rfl⟩, rfl⟩
        simp only [hz, Nat.add_zero, Instr.next, Sem.run_bind, getObj_run ho (by simp), Result.andThen_ok, Sem.run_pure]
    · rename_i m since seen last hb
      obtain ⟨L', o, hL', ho, M, hM, hz, rfl⟩ := hR.obj _ _ hb
      rw [hL] at hL'; cases hL'
      split at h
      · cases h
      · split at h
        · rename_i es clock hbm
          obtain ⟨M', om, hM', hom, l, hl, rfl⟩ := hR.obj _ _ hbm
          rw [hM] at hM'; cases hM'
          split at h
          · rename_i hall
            obtain ⟨hle, hall⟩ := Bool.and_eq_true_iff.1 hall
            have hle := Nat.le_of_ble_eq_true hle
            have hall' : ∀ x, x ∈ l → x.born < since := by
              have := MEL.all (f := fun b => Nat.blt b since) hl
              rw [this] at hall
              intro x hx
              have := List.all_eq_true.1 hall x hx
              simpa [Nat.blt_eq] using this
            have hleft := MEL.left seen hl
            have hguard : (!seen.toArray.isEmpty && !l.toArray.isEmpty && l.toArray.all (fun e => decide (e.born ≥ last))) = false := by
              cases l with
              | nil => simp
              | cons y ys =>
                have := hall' y (List.mem_cons_self ..)
                have h3 : ¬ (last ≤ y.born) := by omega
                simp [h3]
            have hold : (l.filter fun e => !seen.contains e.born).filter (fun e => decide (e.born < since)) = l.filter fun e => !seen.contains e.born := by
              rw [List.filter_eq_self]
              intro x hx
              have := hall' x (List.mem_filter.1 hx).1
              simpa using this
            have hnew : (l.filter fun e => !seen.contains e.born).filter (fun e => decide (e.born ≥ since)) = [] := by
              rw [List.filter_eq_nil_iff]
              intro x hx
              have := hall' x (List.mem_filter.1 hx).1
              simp; omega
            have hfil : l.toArray.filter (fun e => !seen.toArray.contains e.born) = (l.filter fun e => !seen.contains e.born).toArray := by
              simp
            generalize hF : (l.filter fun e => !seen.contains e.born) = F at hleft hold hnew hfil
            have hfo : F.toArray.filter (fun e => decide (e.born < since)) = F.toArray := by
              rw [List.filter_toArray, hold]
            have hfn : F.toArray.filter (fun e => decide (e.born ≥ since)) = #[] := by
              rw [List.filter_toArray, hnew]
            split at h
            · rename_i hl0
              rw [hl0] at hleft
              cases hleft
              cases h
              refine .same hR (cv := .tuple #[.bool false]) (vOf_run ?_) ⟨[.bool false], ⟨_, _, rfl, rfl, rfl⟩, rfl⟩
              simp only [hz, Nat.add_zero, Instr.next, Sem.run_bind, getObj_run ho (by simp), getObj_run hom (by simp), Result.andThen_ok, hguard]
              rw [if_neg (by simp)]
              simp only [hfil, hfo, hfn]
              simp [Question.forced]
            · rename_i e hl0
              rw [hl0] at hleft
              obtain ⟨x, xs, rfl, hx, hxs⟩ := hleft
              cases hxs
              cases h
              refine came_obj hR hb rfl hL rfl (x := .mapIter (some M.blk) since (seen ++ [e.born]).toArray clock) ⟨M, hM, hz, rfl⟩ (cv := .tuple #[.bool true, x.key, x.val]) (.inl (vOf_run ?_))
                ⟨[.bool true, x.key, x.val], ⟨_, _, rfl, rfl, _, _, rfl, hx.1, _, _, rfl, hx.2.1, rfl⟩, rfl⟩
              simp only [hz, Nat.add_zero, Instr.next, Sem.run_bind, getObj_run ho (by simp), getObj_run hom (by simp), Result.andThen_ok, hguard]
              rw [if_neg (by simp)]
              simp only [hfil, hfo, hfn]
              have hset := setObj_run (P := P) (x := .mapIter (some M.blk) since (seen ++ [x.born]).toArray clock) ho (by simp)
              rw [← hx.2.2]
              simp [Question.forced, hset]
            · cases h
          · cases h
        · cases h
    · cases h
  · cases h

theorem MEL_find {stamp : Nat} {e : ME} : ∀ {es : List ME} {l : List MapEntry}, MEL σ ρ es l → es.find? (fun e => Nat.beq e.born stamp) = some e → ∃ x, l.find? (fun e => e.born == stamp) = some x ∧ MER σ ρ e x := by
  intro es
  induction es with
  | nil => intro l _ h; simp at h
  | cons a es ih =>
    intro l hl h
    obtain ⟨y, ys, rfl, h1, h2⟩ := hl
    have hb : (y.born == stamp) = Nat.beq a.born stamp := by rw [h1.2.2, Bool.eq_iff_iff]; simp
    rw [List.find?_cons] at h ⊢
    rw [hb]
    split at h
    · cases h; exact ⟨y, rfl, h1⟩
    · exact ih h2 h
theorem op_entry {it : AV} {ci : Value} {v : AV} {s' : St} (hR : Rel P σ ρ s w) (hi : VR σ ρ it ci) (h : xEntry s it = .val v s') :
    Came P σ ρ s w v s' ((vOf (Instr.entry ci)).run P w) := by
  unfold xEntry at h
  split at h
  · rename_i r
    obtain ⟨L, hL, rfl⟩ := hi
    split at h
    · rename_i m since seen stepped hb
      obtain ⟨L', o, hL', ho, M, hM, hz, rfl⟩ := hR.obj _ _ hb
      rw [hL] at hL'; cases hL'
      split at h
      · rename_i es clock stamp hbm hlast
        obtain ⟨M', om, hM', hom, l, hl, rfl⟩ := hR.obj _ _ hbm
        rw [hM] at hM'; cases hM'
        split at h
        · rename_i hc
          have hc := Nat.eq_of_beq_eq_true hc
          subst hc
          split at h
          · rename_i e he
            cases h
            obtain ⟨x, hx, hr⟩ := MEL_find hl he
            refine .same hR (cv := .tuple #[x.key, x.val]) (vOf_run ?_) ⟨[x.key, x.val], ⟨_, _, rfl, hr.1, _, _, rfl, hr.2.1, rfl⟩, rfl⟩
            have hback : seen.toArray.back? = some stamp := by rw [List.back?_toArray]; exact hlast
            simp only [hz, Nat.add_zero, Instr.entry, Sem.run_bind, getObj_run ho (by simp), getObj_run hom (by simp), Result.andThen_ok, hback]
            simp [hx]
          · cases h
        · cases h
      · cases h
    · rename_i m since stamp stepped hb
      obtain ⟨L', o, hL', ho, M, pre, hM, hz, rfl⟩ := hR.obj _ _ hb
      rw [hL] at hL'; cases hL'
      split at h
      · rename_i es clock hbm
        obtain ⟨M', om, hM', hom, l, hl, rfl⟩ := hR.obj _ _ hbm
        rw [hM] at hM'; cases hM'
        split at h
        · rename_i hc
          have hc := Nat.eq_of_beq_eq_true hc
          subst hc
          split at h
          · rename_i e he
            cases h
            obtain ⟨x, hx, hr⟩ := MEL_find hl he
            refine .same hR (cv := .tuple #[x.key, x.val]) (vOf_run ?_) ⟨[x.key, x.val], ⟨_, _, rfl, hr.1, _, _, rfl, hr.2.1, rfl⟩, rfl⟩
            have hback : (pre ++ [stamp]).toArray.back? = some stamp := by rw [List.back?_toArray]; simp
            simp only [hz, Nat.add_zero, Instr.entry, Sem.run_bind, getObj_run ho (by simp), getObj_run hom (by simp), Result.andThen_ok, hback]
            simp [hx]
          · cases h
        · cases h
      · cases h
    · rename_i m since kd ks ids stepped hb
      obtain ⟨L', o, hL', ho, M, D, hM, hz, _, _, hkl, rfl⟩ := hR.obj _ _ hb
      rw [hL] at hL'; cases hL'
      split at h
      · rename_i es clock hbm
        obtain ⟨M', om, hM', hom, l, hl, rfl⟩ := hR.obj _ _ hbm
        rw [hM] at hM'; cases hM'
        split at h
        · rename_i id hc hlast
          obtain ⟨hk, hc⟩ := Bool.and_eq_true_iff.1 hc
          have hc := Nat.eq_of_beq_eq_true hc
          subst hc
          cases h
          obtain ⟨_, _, _, k4, k5⟩ := keysOK_get hk
          obtain ⟨d, li, hd, hli, hmem⟩ := KeyL.last hkl hlast
          obtain ⟨e, he, _, hbe⟩ := k5 _ hmem
          obtain ⟨x0, hx0, hm0⟩ := MEL_mem' hl e he
          have hfind : ∃ x, l.find? (fun e => e.born == d) = some x := by
            cases hf : l.find? (fun e => e.born == d) with
            | some x => exact ⟨x, rfl⟩
            | none =>
              have := List.find?_eq_none.1 hf x0 hx0
              rw [hm0.2.2, hbe] at this
              simp at this
          obtain ⟨x, hx⟩ := hfind
          have hxm := List.mem_of_find?_eq_some hx
          have hxb : x.born = d := by simpa using List.find?_some hx
          obtain ⟨e', he', hr⟩ := MEL_mem hl x hxm
          have hke := k4 e' he' li.blk (by rw [← hr.2.2, hxb]; exact hmem)
          have hr1 := hr.1
          rw [hke] at hr1
          refine .same hR (cv := .tuple #[x.key, x.val]) (vOf_run ?_) ⟨[x.key, x.val], ⟨_, _, rfl, ⟨li, hli, hr1⟩, _, _, rfl, trivial, rfl⟩, rfl⟩
          have hback : D.toArray.back? = some d := by rw [List.back?_toArray]; exact hd
          simp only [hz, Nat.add_zero, Instr.entry, Sem.run_bind, getObj_run ho (by simp), getObj_run hom (by simp), Result.andThen_ok, hback]
          simp [hx]
        · cases h
      · cases h
    · cases h
  · cases h

theorem op_delete {ts : Array TypeId} {m k : AV} {cm ck : Value} {ty : TypeId} {v : AV} {s' : St} (hR : Rel P σ ρ s w) (hm : VR σ ρ m cm) (hk : VR σ ρ k ck) (h : xDelete P s ts m k = .val v s') :
    Came P σ ρ s w v s' ((vOf (Builtin.delete_ ts ty #[cm, ck])).run P w) := by
  unfold xDelete at h
  split at h
  · rename_i t ht
    split at h
    · rename_i kd elem hkd
      obtain ⟨kt, hu, huk⟩ := keyDesc_run hkd
      split at h
      · rename_i hok
        split at h
        · simp only [VR] at hm; subst hm; cases h
          refine .same hR (cv := .tuple #[]) (vOf_run ?_) ⟨[], rfl, rfl⟩
          simp [Builtin.delete_, ht, underlying_run hu, checkKey_run 9999 huk hok hk]
        · rename_i r
          obtain ⟨L, hL, rfl⟩ := hm
          split at h
          · rename_i es clock hb
            obtain ⟨L', o, hL', ho, l, hl, rfl⟩ := hR.obj _ _ hb
            rw [hL] at hL'; cases hL'
            split at h
            · rename_i j a hf
              cases h
              obtain ⟨cv, g1, g2, n, e, y, hj, he, hy, hr, heq, hev⟩ := findA_run hk hl hf
              refine came_obj hR hb rfl hL rfl (x := .map (l.eraseIdx j).toArray clock) ⟨_, MEL.delAt hl, rfl⟩ (cv := .tuple #[]) (.inl (vOf_run ?_)) ⟨[], rfl, rfl⟩
              simp [Builtin.delete_, ht, underlying_run hu, checkKey_run 9999 huk hok hk, getObj_run ho (by simp), findKey_run huk g1, setObj_run ho (by simp)]
            · rename_i hf
              cases h
              have g := findA_run hk hl hf
              simp only at g
              have hw : ({ w with heap := w.heap.setIfInBounds L.blk (.map l.toArray clock) } : World) = w := by
                have : w.heap.setIfInBounds L.blk (.map l.toArray clock) = w.heap := by
                  apply Array.ext_getElem?
                  intro i
                  by_cases hi : i = L.blk
                  · subst hi; rw [ho]; simp [hR.lt hb hL]
                  · rw [Array.getElem?_setIfInBounds_ne (Ne.symm hi)]
                rw [this]
              refine .same hR (cv := .tuple #[]) (vOf_run ?_) ⟨[], rfl, rfl⟩
              simp [Builtin.delete_, ht, underlying_run hu, checkKey_run 9999 huk hok hk, getObj_run ho (by simp), findKey_run huk g, setObj_run ho (by simp), hw]
            · cases h
          · cases h
        · cases h
      · cases h
    · cases h
  · cases h
theorem op_len {ts : Array TypeId} {x : AV} {cx : Value} {ty : TypeId} {v : AV} {s' : St} (hR : Rel P σ ρ s w) (hx : VR σ ρ x cx) (h : xLen P s ts x = .val v s') :
    Came P σ ρ s w v s' ((vOf (Builtin.len_ ts ty #[cx])).run P w) := by
  have fin : ∀ n : Nat, (Builtin.len_ ts ty #[cx]).run P w = .ok (.int .i64 n) w → Came P σ ρ s w (.int .i64 (.ofNat n)) s ((vOf (Builtin.len_ ts ty #[cx])).run P w) :=
    fun n e => .same hR (cv := .int .i64 n) (vOf_run e) (by simp [VR])
  unfold xLen at h
  split at h
  · rename_i t ht
    split at h
    · rename_i hu
      split at h
      · rename_i l
        simp only [VR] at hx; subst hx; cases h
        have hsz : (ByteArray.mk l.toArray).size = l.length := by show l.toArray.size = _; simp
        exact fin _ (by simp [Builtin.len_, ht, underlying_run hu, goInt, hsz])
      · cases h
    · rename_i e hu
      split at h
      · rename_i n b o len c hn
        obtain ⟨L, cc, hL, hc, rfl⟩ := hx
        simp only [lenA] at hn; cases hn; cases h
        exact fin _ (by simp [Builtin.len_, ht, underlying_run hu, goInt])
      · simp only [VR] at hx; subst hx; cases h
        exact fin 0 (by simp [Builtin.len_, ht, underlying_run hu, goInt])
      · obtain ⟨a, c, rfl⟩ := hx; cases h
        exact fin 0 (by simp [Builtin.len_, ht, underlying_run hu, goInt])
      · cases h
    · rename_i n e hu
      cases h
      exact fin _ (by simp [Builtin.len_, ht, underlying_run hu, goInt])
    · rename_i a hu
      split at h
      · rename_i n e hu'
        cases h
        exact fin _ (by simp [Builtin.len_, ht, underlying_run hu, underlying_run hu', goInt])
      · cases h
    · rename_i k e hu
      split at h
      · simp only [VR] at hx; subst hx; cases h
        exact fin 0 (by simp [Builtin.len_, ht, underlying_run hu, goInt])
      · rename_i r
        obtain ⟨L, hL, rfl⟩ := hx
        split at h
        · rename_i es clock hb
          cases h
          obtain ⟨L', o, hL', ho, l, hl, rfl⟩ := hR.obj _ _ hb
          rw [hL] at hL'; cases hL'
          rw [hl.length]
          exact fin _ (by simp [Builtin.len_, ht, underlying_run hu, goInt, getObj_run ho (by simp)])
        · cases h
      · cases h
    · cases h
  · cases h
theorem op_cap {ts : Array TypeId} {x : AV} {cx : Value} {ty : TypeId} {v : AV} {s' : St} (hR : Rel P σ ρ s w) (hx : VR σ ρ x cx) (h : xCap P s ts x = .val v s') :
    Came P σ ρ s w v s' ((vOf (Builtin.cap_ ts ty #[cx])).run P w) := by
  unfold xCap at h
  split at h
  · rename_i t ht
    split at h
    · rename_i e he
      have hu := elemOf_run he
      split at h
      · rename_i b o l n
        obtain ⟨L, cc, hL, ⟨rfl, _⟩, rfl⟩ := hx
        cases h
        exact .same hR (cv := .int .i64 cc) (vOf_run (by simp [Builtin.cap_, ht, underlying_run hu, goInt])) (by simp [VR])
      · simp only [VR] at hx; subst hx; cases h
        exact .same hR (cv := .int .i64 0) (vOf_run (by simp [Builtin.cap_, ht, underlying_run hu, goInt])) (by simp [VR])
      · cases h
    · cases h
  · cases h
theorem op_max {ts : Array TypeId} {args : List AV} {cs : List Value} {ty : TypeId} {v : AV} {s' : St} (hR : Rel P σ ρ s w) (hx : VRL σ ρ args cs) (h : xMinMax s ltI args = .val v s') :
    Came P σ ρ s w v s' ((vOf (Builtin.max_ ts ty cs.toArray)).run P w) := by
  unfold xMinMax at h
  split at h
  · rename_i k a l
    obtain ⟨c, cs, rfl, h1, h2⟩ := hx
    simp only [VR] at h1; subst h1
    split at h
    · rename_i n hn
      cases h
      have key : ∀ (l : List AV) (cs : List Value) (a : Int), VRL σ ρ l cs → foldI ltI k a l = some n → (cs.foldlM Builtin.max2 (.int k a)).run P w = .ok (.int k n) w := by
        intro l
        induction l with
        | nil => intro cs a hv hf; cases hv; cases hf; rfl
        | cons x l ih =>
          intro cs a hv hf
          obtain ⟨c, cs, rfl, h1, h2⟩ := hv
          simp only [foldI] at hf
          split at hf
          · rename_i k' b
            simp only [VR] at h1; subst h1
            simp only [List.foldlM_cons, Sem.run_bind, Builtin.max2, Sem.run_pure, Result.andThen_ok]
            have : (if b > a then b else a) = (match ltI a b with | true => b | false => a) := by
              rw [ltI_eq]; by_cases hab : a < b <;> simp [hab]
            rw [this]
            exact ih cs _ h2 hf
          · cases hf
      exact .same hR (cv := .int k n) (vOf_run (by simp only [Builtin.max_]; exact key l cs a h2 hn)) rfl
    · cases h
  · cases h
theorem op_min {ts : Array TypeId} {args : List AV} {cs : List Value} {ty : TypeId} {v : AV} {s' : St} (hR : Rel P σ ρ s w) (hx : VRL σ ρ args cs) (h : xMinMax s (fun a b => ltI b a) args = .val v s') :
    Came P σ ρ s w v s' ((vOf (Builtin.min_ ts ty cs.toArray)).run P w) := by
  unfold xMinMax at h
  split at h
  · rename_i k a l
    obtain ⟨c, cs, rfl, h1, h2⟩ := hx
    simp only [VR] at h1; subst h1
    split at h
    · rename_i n hn
      cases h
      have key : ∀ (l : List AV) (cs : List Value) (a : Int), VRL σ ρ l cs → foldI (fun a b => ltI b a) k a l = some n → (cs.foldlM Builtin.min2 (.int k a)).run P w = .ok (.int k n) w := by
        intro l
        induction l with
        | nil => intro cs a hv hf; cases hv; cases hf; rfl
        | cons x l ih =>
          intro cs a hv hf
          obtain ⟨c, cs, rfl, h1, h2⟩ := hv
          simp only [foldI] at hf
          split at hf
          · rename_i k' b
            simp only [VR] at h1; subst h1
            simp only [List.foldlM_cons, Sem.run_bind, Builtin.min2, Sem.run_pure, Result.andThen_ok]
            have : (if b < a then b else a) = (match ltI b a with | true => b | false => a) := by
              rw [ltI_eq]; by_cases hab : b < a <;> simp [hab]
            rw [this]
            exact ih cs _ h2 hf
          · cases hf
      exact .same hR (cv := .int k n) (vOf_run (by simp only [Builtin.min_]; exact key l cs a h2 hn)) rfl
    · cases h
  · cases h

theorem op_typeAssert {x : AV} {cx : Value} {xt asserted : TypeId} {ok : Bool} {v : AV} {s' : St} (hR : Rel P σ ρ s w) (hx : VR σ ρ x cx) (h : xTypeAssert P s x asserted ok = .val v s') :
    Came P σ ρ s w v s' ((vOf (Instr.typeAssert cx xt asserted ok)).run P w) := by
  unfold xTypeAssert at h
  split at h
  · rename_i hi
    obtain ⟨d, hu, hd⟩ := isIface_run hi
    obtain ⟨ms, rfl⟩ := hd.2 rfl
    split at h
    · rename_i t a
      obtain ⟨y, hy, rfl⟩ := hx
      split at h
      · rename_i hall
        cases h
        unfold hasAll at hall
        rw [hu] at hall
        split at hall
        · rename_i ms' i hms hi'
          cases hms
          have hm : Instr.missingMethod ms i.methods = none := by simpa using hall
          refine .same hR (cv := if ok then .tuple #[.iface t y, .bool true] else .iface t y) (vOf_run ?_) ?_
          · simp [Instr.typeAssert, underlying_run hu, typeInfo_run hi', hm]
          · cases ok
            · exact ⟨y, hy, rfl⟩
            · exact ⟨[.iface t y, .bool true], ⟨_, _, rfl, ⟨y, hy, rfl⟩, _, _, rfl, rfl, rfl⟩, rfl⟩
        · cases hall
      · cases h
    · cases h
  · rename_i hi
    obtain ⟨d, hu, hd⟩ := isIface_run hi
    have hnot : ∀ ms, d ≠ .interface ms := fun ms e => by have := hd.1 ⟨ms, e⟩; cases this
    split at h
    · rename_i t a
      obtain ⟨y, hy, rfl⟩ := hx
      split at h
      · rename_i ht
        cases h
        have ht := Nat.eq_of_beq_eq_true ht
        subst ht
        refine .same hR (cv := if ok then .tuple #[y, .bool true] else y) (vOf_run ?_) ?_
        · simp only [Instr.typeAssert, Sem.run_bind, underlying_run hu, Result.andThen_ok]
          cases d <;> first | (exact absurd rfl (hnot _)) | simp
        · cases ok
          · exact hy
          · exact ⟨[y, .bool true], ⟨_, _, rfl, hy, _, _, rfl, rfl, rfl⟩, rfl⟩
      · rename_i ht
        have ht : ¬ t = asserted := fun e => by rw [e, Nat.beq_refl] at ht; cases ht
        split at h
        · split at h
          · rename_i z hz
            cases h
            obtain ⟨zv, z1, z2⟩ := zeroValue_run (σ := σ) (ρ := ρ) (w := w) hz
            refine .same hR (cv := .tuple #[zv, .bool false]) (vOf_run ?_) ⟨[zv, .bool false], ⟨_, _, rfl, z2, _, _, rfl, rfl, rfl⟩, rfl⟩
            simp only [Instr.typeAssert, Sem.run_bind, underlying_run hu, Result.andThen_ok]
            cases d <;> first | (exact absurd rfl (hnot _)) | simp [ht, z1]
          · cases h
        · cases h
    · cases h
  · cases h
end Go.AX
