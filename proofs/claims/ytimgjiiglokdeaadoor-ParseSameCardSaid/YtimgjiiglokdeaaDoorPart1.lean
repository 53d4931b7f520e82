/- Part of a proof: an interpreter of the program over trees, and what it says of calls. -/
import Derived.Calls
import Derived.Laws.Sem
import Derived.Laws.World
import Derived.Laws.IdiomCopy
import Derived.Deep.Draws
import Derived.Laws.StructEq
import Derived.ChangeKeysEq
import Derived.Laws.Cells
/- A deterministic reading of the model's code over values that are trees: no heap, no addresses: what a call owns lies in its frame. -/
namespace Go.Bv
open Go

abbrev Path := List (Nat × Nat)

inductive V where
  | any
  | int (k : IntKind) (n : Int)
  | bool (b : Bool)
  | str (b : List UInt8)
  | sc (x : Value)
  | agg (cs : List V)
  | tup (vs : List V)
  | ifc (t : TypeId) (x : V)
  | fn (f : FuncId) (pre caps : List V)
  | ro (es : List (List V))
  | rop (cs : List V) (j : Nat)
  | gp (g j : Nat)
  | box (cs : List V)
  | own (es : List (List V)) (cap : Option Nat)
  | al (r : Nat) (p : Path) (i j : Nat)
  | als (r : Nat) (p : Path) (i j n z : Nat)
  deriving Inhabited

/-- What becomes of names: those of a place and below are struck out, or turned to another place. -/
inductive Step where
  | drop (r : Nat) (p : Path)
  | turn (r : Nat) (p : Path) (r2 : Nat) (p2 : Path)

structure St where
  sl : List V
  rt : List V
  dy : List (Nat × Path)

/-- What comes of a call: its result, what its arguments hold, the places in them that were laid anew. -/
structure Out where
  res : V
  outs : List V
  dy : List (Nat × Path)

abbrev Fun := FuncId → List V → Option Out

/-- What is known beside the program: how slices are handed on, the package-level variables, the functions that are taken by a contract. -/
structure Env where
  P : Program
  give : FuncId → Nat → Bool
  lends : FuncId → Bool
  glob : Nat → Option (List V)
  apart : Nat → Nat → Bool
  frz : FuncId → Bool
  dead : FuncId → Nat → List Nat
  prim : FuncId → Option (List V → Option Out)

def ofScalar : Value → V
  | .int k n => .int k n
  | .bool b => .bool b
  | .string s => .str s.data.toList
  | v => .sc v

def ofValue : Value → V
  | .agg cs => .agg (cs.toList.map ofScalar)
  | v => ofScalar v

def V.cells : V → List V
  | .agg cs => cs
  | v => [v]

/-- Are a thing's cells told? -/
def V.told : V → Bool
  | .tup _ | .any => false
  | .sc x => x.oneCell'
  | _ => true

/-- The part of a thing that lies at a step. -/
def V.kid : V → Nat × Nat → Option V
  | .box cs, (i, j) => if i == 0 then cs[j]? else none
  | .own es _, (i, j) => match es[i]? with | some e => e[j]? | none => none
  | .tup cs, (i, j) => if i == 0 then cs[j]? else none
  | .agg cs, (i, j) => if i == 0 then cs[j]? else none
  | .fn _ _ cs, (i, j) => if i == 0 then cs[j]? else none
  | _, _ => none

def V.setKid : V → Nat × Nat → V → V
  | .box cs, (_, j), c => .box (cs.set j c)
  | .own es cap, (i, j), c => match es[i]? with | some e => .own (es.set i (e.set j c)) cap | none => .own es cap
  | .tup cs, (_, j), c => .tup (cs.set j c)
  | .agg cs, (_, j), c => .agg (cs.set j c)
  | .fn f pre cs, (_, j), c => .fn f pre (cs.set j c)
  | v, _, _ => v

def V.get : V → Path → Option V
  | v, [] => some v
  | v, s :: p => match v.kid s with | some c => c.get p | none => none

def V.put (x : V) : V → Path → Option V
  | _, [] => some x
  | v, s :: p => match v.kid s with
    | some c => match V.put x c p with | some c' => some (v.setKid s c') | none => none
    | none => none

/-- What is left of a path behind another one. -/
def behind : Path → Path → Option Path
  | [], q => some q
  | (a, b) :: p, (c, d) :: q => if a == c && b == d then behind p q else none
  | _ :: _, [] => none

def Step.act : Step → Nat → Path → Option (Nat × Path)
  | .drop r p, r', p' => if r' == r then (match behind p p' with | some _ => none | none => some (r', p')) else some (r', p')
  | .turn r p r2 p2, r', p' => if r' == r then (match behind p p' with | some q => some (r2, p2 ++ q) | none => some (r', p')) else some (r', p')

mutual
def V.sweep (f : Step) : V → V
  | .al r p i j => match f.act r p with | some (r', p') => .al r' p' i j | none => .any
  | .als r p i j n z => match f.act r p with | some (r', p') => .als r' p' i j n z | none => .any
  | .tup vs => .tup (sweeps f vs)
  | .agg vs => .agg (sweeps f vs)
  | .fn g pre vs => .fn g (sweeps f pre) (sweeps f vs)
  | v => v
def sweeps (f : Step) : List V → List V
  | [] => []
  | v :: vs => v.sweep f :: sweeps f vs
end

mutual
def V.roots : V → List Nat
  | .al r _ _ _ | .als r _ _ _ _ _ => [r]
  | .tup vs => rootsOf vs
  | .agg vs => rootsOf vs
  | .fn _ pre vs => rootsOf pre ++ rootsOf vs
  | _ => []
def rootsOf : List V → List Nat
  | [] => []
  | v :: vs => v.roots ++ rootsOf vs
end

def V.owner : V → Bool
  | .box _ | .own _ _ => true
  | _ => false
/-- Something that owns, or of which a part owns. -/
def V.rich : V → Bool
  | .box _ | .own _ _ => true
  | .tup vs => vs.any (·.owner)
  | .agg vs => vs.any (·.owner)
  | _ => false

/-- What an operation sees: the operands, the roots that they name, and what has become of names. -/
structure M where
  n : Nat
  vs : List V
  rs : List (Nat × V)
  lg : List Step
  dy : List (Nat × Path)

def look : List (Nat × V) → Nat → Option V
  | [], _ => none
  | (r, v) :: l, r' => if r == r' then some v else look l r'
def lay (x : V) : List (Nat × V) → Nat → List (Nat × V)
  | [], _ => []
  | (r, v) :: l, r' => if r == r' then (r, x) :: l else (r, v) :: lay x l r'

def M.get (m : M) (r : Nat) (p : Path) : Option V :=
  match look m.rs r with | some v => v.get p | none => none
def M.put (m : M) (r : Nat) (p : Path) (x : V) : Option M :=
  match look m.rs r with
  | some v => match V.put x v p with | some v' => some { m with rs := lay v' m.rs r } | none => none
  | none => none
def M.step (m : M) (s : Step) : M := { m with vs := sweeps s m.vs, lg := m.lg ++ [s] }
def addTo (d : Nat × Path) (l : List (Nat × Path)) : List (Nat × Path) := if l.contains d then l else l ++ [d]
def M.mark (m : M) (r : Nat) (p : Path) : M := if r < m.n then m else { m with dy := addTo (r, p) m.dy }

/-- May what lies there leave? All but a box that is lent. -/
def mayLeave (n r : Nat) : Path → V → Bool
  | [], .own _ _ => true
  | [], .box _ => Nat.blt r n
  | _ :: _, .own _ _ => true
  | _ :: _, .box _ => true
  | _, _ => false

/-- An owner leaves its place, for another one or for good. -/
def M.take (m : M) (r : Nat) (p : Path) (to : Option (Nat × Path)) : Option (V × M) :=
  match m.get r p with
  | some v =>
    if mayLeave m.n r p v then
      match m.put r p .any with
      | some m => match to with
        | some (r2, p2) => if r == r2 && ((behind p p2).isSome || (behind p2 p).isSome) then none else some (v, (m.mark r p).step (.turn r p r2 p2))
        | none => some (v, (m.mark r p).step (.drop r p))
      | none => none
    else none
  | none => none

/-- The name of what lies at a place. -/
def nameAt (r : Nat) (p : Path) : V → V
  | .box _ => .al r p 0 0
  | .own es _ => .als r p 0 0 es.length 0
  | v => v

def names (r : Nat) (p : Path) (i : Nat) : Nat → List V → List V
  | _, [] => []
  | j, c :: cs => nameAt r (p ++ [(i, j)]) c :: names r p i (j + 1) cs

def richOnly : List V → List V
  | [] => []
  | v :: vs => (if v.owner then v else .any) :: richOnly vs

/-- A result's value in its slot, and what its root holds. -/
def settle (d : Nat) : V → V × Option V
  | .box cs => (.al d [] 0 0, some (.box cs))
  | .own es cap => (.als d [] 0 0 es.length 0, some (.own es cap))
  | .tup vs => if vs.any (·.owner) then (.tup (names d [] 0 0 vs), some (.tup (richOnly vs))) else (.tup vs, none)
  | .agg vs => if vs.any (·.owner) then (.agg (names d [] 0 0 vs), some (.agg (richOnly vs))) else (.agg vs, none)
  | v => (v, none)

section
variable (E : Env)

/-- The cells of the element in which an address lies, and where in it. -/
def mem (m : M) : V → Option (List V × Nat)
  | .al r p i j => match m.get r p with
    | some (.box cs) => if i == 0 then some (cs, j) else none
    | some (.own es _) => match es[i]? with | some e => some (e, j) | none => none
    | _ => none
  | .rop cs j => some (cs, j)
  | .gp g j => match E.glob g with | some cs => some (cs, j) | none => none
  | _ => none

def isAggT (t : TypeId) : Bool := match E.P.underlying t with | some (.struct _) | some (.array _ _) => true | _ => false

/-- What is seen of cells from an address on. -/
def seen : V → List V → List V
  | .al r p i j, xs => names r p i j xs
  | _, xs => xs

def loadV (m : M) (t : TypeId) (a : V) : Option V :=
  match mem E m a, E.P.underlying t with
  | some (cs, j), some _ =>
    let xs := (cs.drop j).take (E.P.cellsOf t)
    if xs.length == E.P.cellsOf t then
      if isAggT E t then some (.agg (seen a xs)) else if E.P.cellsOf t == 1 then (seen a xs).head? else none
    else none
  | _, _ => none

/-- A value that owns nothing: slices that it names are frozen. -/
def freeze1 (m : M) (v : V) : Option (V × M) :=
  match v with
  | .als r p i 0 n _ => match m.get r p with
    | some (.own es _) =>
      if es.any (·.any (·.owner)) || es.length < i + n then none else
      match m.put r p (.ro es) with
      | some m => some (.ro ((es.drop i).take n), (m.mark r p).step (.drop r p))
      | none => none
    | _ => none
  | .al .. | .als .. | .any | .box _ | .own .. | .agg _ | .tup _ => none
  | .fn f [] [] => some (.fn f [] [], m)
  | .fn .. => none
  | v => some (v, m)

/-- A slice of no elements that owns nothing is like a frozen one. -/
def norm : V → V
  | .sc (.slice none 0 0) => .ro []
  | v => v

/-- Frozen, and like any frozen one. -/
def frz1 (m : M) (v : V) : Option (V × M) := match freeze1 m v with | some (x, m) => some (norm x, m) | none => none

def sweepAll : List Step → List V → List V
  | [], vs => vs
  | s :: ss, vs => sweepAll ss (sweeps s vs)

def sweepV (l : List Step) (v : V) : V := l.foldl (fun v s => v.sweep s) v

/-- One after the other; names go along from the log's place k on. -/
def onAll (g : M → V → Option (V × M)) (k : Nat) (m : M) : List V → Option (List V × M)
  | [] => some ([], m)
  | v :: vs => match g m (sweepV (m.lg.drop k) v) with
    | some (x, m) => match onAll g k m vs with
      | some (xs, m) => some (x :: xs, m)
      | none => none
    | none => none

def freezeV (g : M → V → Option (V × M)) (m : M) (v : V) : Option (V × M) :=
  match v with
  | .agg cs => match onAll g m.lg.length m cs with | some (xs, m) => some (.agg xs, m) | none => none
  | v => g m v

/-- Does no object hold what lies there? -/
def loose (m : M) (r : Nat) : Path → Bool
  | [] => true
  | [_] => match look m.rs r with | some (.agg _) | some (.tup _) => true | _ => false
  | _ => false

/-- A part of a new thing, for its place: what no object holds goes along whole. -/
def goAlong (m : M) (to : Nat × Path) (v : V) : Option (V × M) :=
  match v with
  | .al r p 0 0 => match m.get r p with | some (.box _) => m.take r p (some to) | _ => none
  | .als r p 0 0 n 0 =>
    match m.get r p with
    | some (.own es _) => if n == es.length && loose m r p then m.take r p (some to) else freeze1 m v
    | _ => freeze1 m v
  | v => freeze1 m v

def goAlongs (d i k : Nat) (m : M) : Nat → List V → Option (List V × M)
  | _, [] => some ([], m)
  | j, v :: vs => match goAlong m (d, [(i, j)]) (sweepV (m.lg.drop k) v) with
    | some (x, m) => match goAlongs d i k m (j + 1) vs with
      | some (xs, m) => some (x :: xs, m)
      | none => none
    | none => none

/-- A slice's elements. -/
def chunks (z : Nat) : Nat → List V → List (List V)
  | 0, _ => []
  | n + 1, cs => cs.take z :: chunks z n (cs.drop z)

def elems (m : M) : V → Option (List (List V))
  | .ro es => some es
  | .als r p i j n _ => match m.get r p with
    | some (.own es _) => if j == 0 && i + n ≤ es.length then some ((es.drop i).take n) else none
    | _ => none
  | .sc (.slice none 0 _) => some []
  | _ => none

def lenS : V → Option V
  | .ro es => some (.int .i64 es.length)
  | .als _ _ _ _ n _ => some (.int .i64 n)
  | .sc (.slice none n _) => some (.int .i64 n)
  | _ => none

def lenStr : V → Option V
  | .str b => some (.int .i64 b.length)
  | _ => none

def capLeft (cap : Option Nat) (i : Nat) : Option Nat := match cap with | some c => some (c - i) | none => none

/-- Take what a slice's name names. -/
def takeS (m : M) : V → Option (List (List V) × Option Nat × M)
  | .als r p i 0 n 0 => match m.take r p none with
    | some (.own es cap, m) => if i + n ≤ es.length && (i == 0 || !es.any (·.any (·.owner))) then some ((es.drop i).take n, capLeft cap i, m) else none
    | _ => none
  | _ => none

/-- A slot that names just a place. -/
def namer (r : Nat) (p : Path) : Nat → List V → Option Nat
  | _, [] => none
  | k, .al r2 p2 0 0 :: vs => if r2 == r && p2 == p then some k else namer r p (k + 1) vs
  | k, .als r2 p2 _ _ _ _ :: vs => if r2 == r && p2 == p then some k else namer r p (k + 1) vs
  | k, _ :: vs => namer r p (k + 1) vs

/-- What lies in one cell, names nothing and owns nothing. -/
def V.one : V → Bool
  | .any | .agg _ | .tup _ | .box _ | .own _ _ | .al .. | .als .. => false
  | .fn _ [] [] => true
  | .fn .. => false
  | .sc x => x.oneCell'
  | _ => true

def fullName (m : M) (r : Nat) (p : Path) (n : Nat) : Bool := match m.get r p with | some (.own es _) => n == es.length | _ => false

/-- One cell is stored at a place. -/
def storeCell (m : M) (r : Nat) (p : Path) (x : V) : Option M :=
  match x with
  | .als r2 p2 i j n z =>
    if !(r2 == r && p2 == p) && i == 0 && j == 0 && z == 0 && fullName m r2 p2 n then
      match m.take r2 p2 (some (r, p)) with | some (v, m) => m.put r p v | none => none
    else
      match takeS m (.als r2 p2 i j n z) with | some (es, cap, m) => m.put r p (.own es cap) | none => none
  | .al r2 p2 i j =>
    if i == 0 && j == 0 then
      match m.get r2 p2 with
      | some (.box _) => if r2 == r && p2 == p then some m else match m.take r2 p2 (some (r, p)) with | some (v, m) => m.put r p v | none => none
      | _ => none
    else none
  | x => if x.one then m.put r p x else none

/-- A slot's root is made free: what it held has no names any more. -/
def anew (d : Nat) (m : M) : M := ({ m with rs := lay .any m.rs d } : M).step (.drop d [])

/-- What a store lays over, if it owns, is set aside in the frame's spare root. -/
def setAside (m : M) (r : Nat) (p : Path) : Option M :=
  match look m.rs (m.n - 1) with
  | none => none
  | some _ =>
    let m := anew (m.n - 1) m
    match m.take r p (some (m.n - 1, [])) with
    | some (v, m) => m.put (m.n - 1) [] v
    | none => none

def clearCell (m : M) (r : Nat) (p : Path) (x : V) : Option M :=
  match m.get r p with
  | some old =>
    if old.owner then
      match x with
      | .als r2 p2 .. => if r2 == r && p2 == p then some m else setAside m r p
      | .al r2 p2 .. => if r2 == r && p2 == p then some m else setAside m r p
      | _ => setAside m r p
    else some m
  | none => none


def storeCells (r : Nat) (p : Path) (i j : Nat) : Nat → Nat → M → Option M
  | 0, _, m => some m
  | k + 1, q, m =>
    match m.vs with
    | _ :: w :: _ => match w.cells[q]? with
      | some x => match clearCell m r (p ++ [(i, j + q)]) x with
        | some m => match m.vs with
          | _ :: w :: _ => match w.cells[q]? with
            | some x => match storeCell m r (p ++ [(i, j + q)]) x with
              | some m => storeCells r p i j k (q + 1) m
              | none => none
            | none => none
          | _ => none
        | none => none
      | none => none
    | _ => none

def sizeIs (t : TypeId) (n : Nat) : Bool := match E.P.info? t with | some i => n == i.size | none => false

/-- A store: the operands are the address and the value. -/
def storeM (t : TypeId) (m : M) : Option M :=
  match m.vs with
  | [.al r p i j, v] => if v.told && sizeIs E t v.cells.length then storeCells r p i j v.cells.length 0 m else none
  | _ => none

def addJ (x : V) (off : Nat) : Option V :=
  match x with
  | .al r p i j => some (.al r p i (j + off))
  | .rop cs j => some (.rop cs (j + off))
  | .gp g j => some (.gp g (j + off))
  | _ => none

def fieldOff (t : TypeId) (f : Nat) : Option (TypeId × Nat) :=
  match E.P.underlying t with
  | some (.struct fs) => match fs[f]? with | some f => if E.P.cellsOf f.type == 0 then none else some (f.type, f.offset) | none => none
  | _ => none

def bytesLess : List UInt8 → List UInt8 → Bool
  | _, [] => false
  | [], _ :: _ => true
  | a :: x, b :: y => Nat.blt a.toNat b.toNat || (Nat.beq a.toNat b.toNat && bytesLess x y)
def bytesEq : List UInt8 → List UInt8 → Bool
  | [], [] => true
  | a :: x, b :: y => Nat.beq a.toNat b.toNat && bytesEq x y
  | _, _ => false

/-- Is a value of a pointer's, slice's, map's or function's kind nil? -/
def isNil : TypeDesc → V → Option Bool
  | .pointer _, .sc (.pointer none) | .slice _, .sc (.slice none _ _) | .map _ _, .sc (.map none) | .func _ _ _, .sc .nilFunc | .interface _, .sc .nilIface => some true
  | .pointer _, .al .. | .pointer _, .rop .. | .pointer _, .gp .. | .slice _, .als .. | .slice _, .ro (_ :: _) | .func _ _ _, .fn .. | .interface _, .ifc .. => some false
  | _, _ => none

def partV (t : TypeId) (cs : List V) (off : Nat) : Option V :=
  if isAggT E t then (if off + E.P.cellsOf t ≤ cs.length then some (.agg ((cs.drop off).take (E.P.cellsOf t))) else none) else cs[off]?

def partU (t : TypeId) (cs : List V) (off : Nat) : Option V :=
  match E.P.underlying t with
  | some _ => match partV E t cs off with | some .any => none | r => r
  | none => none

def fieldV (t : TypeId) (f : Nat) (x : V) : Option V :=
  match fieldOff E t f, x with
  | some (ft, o), .agg cs => partU E ft cs o
  | _, _ => none

def eqT : Nat → TypeId → V → V → Option Bool
  | 0, _, _, _ => none
  | d + 1, t, x, y =>
    match E.P.underlying t with
    | none => none
    | some u => match x, y with
      | .int k a, .int k' b => match u with | .int _ => if k == k' then some (a == b) else none | _ => none
      | .bool a, .bool b => match u with | .bool => some (a == b) | _ => none
      | .str a, .str b => match u with | .string => some (bytesEq a b) | _ => none
      | .ifc t x, .ifc t' y => match u with
        | .interface _ => if t == t' then (match E.P.info? t with | some i => if i.comparable then eqT d t x y else none | none => none) else some false
        | _ => none
      | .gp g j, .gp h i => match u with | .pointer e => if E.P.cellsOf e != 0 && E.apart g h then some (g == h && i == j) else none | _ => none
      | .agg xs, .agg ys => match u with | .struct fs => if E.P.stoodInHeld t then none else eqFs (eqT d) xs ys fs.toList | _ => none
      | x, y => match isNil u x, isNil u y with
        | some true, some b => some b
        | some b, some true => some b
        | _, _ => none
where
  eqFs (eq : TypeId → V → V → Option Bool) (xs ys : List V) : List Field → Option Bool
    | [] => some true
    | f :: fs =>
      if f.name == "_" then eqFs eq xs ys fs else
      match partV E f.type xs f.offset, partV E f.type ys f.offset with
      | some a, some b => match eq f.type a b, eqFs eq xs ys fs with
        | some p, some q => some (p && q)
        | _, _ => none
      | _, _ => none

def isConst : Operand → Bool
  | .const _ => true
  | _ => false

def guardV (t : TypeId) (lit : Bool) (x y : V) : Bool :=
  match x, y with
  | .sc .nilIface, .sc .nilIface => lit
  | .agg _, .agg _ => !(E.P.eqGuardType E.P.depth t)
  | .sc (.agg _), _ | _, .sc (.agg _) => false
  | _, _ => true

def binV (op : BinOp) (t : TypeId) (lit : Bool) (x y : V) : Option V :=
  match x, y with
  | .int k a, .int k' b =>
    match op with
    | .shl => if b < 0 then none else some (.int k (k.wrap (a * 2 ^ (min b.toNat k.bits))))
    | .shr => if b < 0 then none else some (.int k (a.fdiv (2 ^ (min b.toNat k.bits))))
    | _ =>
    if k == k' then
      match op with
      | .add => some (.int k (k.wrap (a + b)))
      | .sub => some (.int k (k.wrap (a - b)))
      | .mul => some (.int k (k.wrap (a * b)))
      | .quo => if b == 0 then none else some (.int k (k.wrap (a.tdiv b)))
      | .rem => if b == 0 then none else some (.int k (a.tmod b))
      | .and => some (.int k (k.wrap (BitVec.ofInt k.bits a &&& BitVec.ofInt k.bits b).toNat))
      | .or => some (.int k (k.wrap (BitVec.ofInt k.bits a ||| BitVec.ofInt k.bits b).toNat))
      | .xor => some (.int k (k.wrap (BitVec.ofInt k.bits a ^^^ BitVec.ofInt k.bits b).toNat))
      | .andNot => some (.int k (k.wrap (BitVec.ofInt k.bits a &&& ~~~ BitVec.ofInt k.bits b).toNat))
      | .eql => some (.bool (a == b))
      | .neq => some (.bool (a != b))
      | .lss => some (.bool (a < b))
      | .leq => some (.bool (a ≤ b))
      | .gtr => some (.bool (a > b))
      | .geq => some (.bool (a ≥ b))
      | _ => none
    else none
  | .str a, .str b =>
    match op with
    | .add => if a.length + b.length ≤ 1073741824 then some (.str (a ++ b)) else none
    | .eql => some (.bool (bytesEq a b))
    | .neq => some (.bool !(bytesEq a b))
    | .lss => some (.bool (bytesLess a b))
    | .leq => some (.bool (bytesLess a b || bytesEq a b))
    | .gtr => some (.bool !(bytesLess a b || bytesEq a b))
    | .geq => some (.bool !(bytesLess a b))
    | _ => none
  | x, y =>
    match op with
    | .eql => if guardV E t lit x y then (match eqT E 100 t x y with | some b => some (.bool b) | none => none) else none
    | .neq => if guardV E t lit x y then (match eqT E 100 t x y with | some b => some (.bool !b) | none => none) else none
    | _ => none

def unV (op : UnOp) (x : V) : Option V :=
  match op, x with
  | .neg, .int k n => some (.int k (k.wrap (0 - n)))
  | .not, .bool b => some (.bool !b)
  | _, _ => none

def fillAt (cs xs : List V) (off : Nat) : List V := cs.take off ++ xs ++ cs.drop (off + xs.length)

/-- Ranges that lie apart. -/
def apartR : List (Nat × Nat) → Bool
  | [] => true
  | (a, n) :: rs => rs.all (fun (b, k) => Nat.ble (a + n) b || Nat.ble (b + k) a) && apartR rs

/-- A composite's parts, one after the other: the operands are the parts. -/
def buildParts (d : Nat) : List (Nat × Nat) → Nat → List V → M → Option (List V × M)
  | [], _, cs, m => some (cs, m)
  | (off, size) :: rest, q, cs, m =>
    match m.vs[q]? with
    | some v =>
      if v.told && v.cells.length == size && off + size ≤ cs.length then
        match goAlongs d 0 m.lg.length m off v.cells with
        | some (xs, m) => buildParts d rest (q + 1) (fillAt cs xs off) m
        | none => none
      else none
    | none => none

def sliceParts : List Nat → Nat → List (List V) → M → Option (List (List V) × M)
  | [], _, es, m => some (es, m)
  | i :: rest, q, es, m => match m.vs[q]?, es[i]? with
    | some v, some e => if !v.told then none else match onAll frz1 m.lg.length m v.cells with
      | some (xs, m) => if xs.length == e.length then sliceParts rest (q + 1) (es.set i xs) m else none
      | none => none
    | _, _ => none

def zeroV (t : TypeId) : Option V := match E.P.info? t with
  | some i => match i.zero with | some v => some (ofValue v) | none => none
  | none => none

def bound (d : Nat) : Option V → Option Nat
  | none => some d
  | some (.int _ n) => if 0 ≤ n then some n.toNat else none
  | some _ => none

/-- What is left of a slice's elements of so many cells, from one to another one. -/
def cutEs (z l h : Nat) (es : List (List V)) : Option (List (List V)) :=
  if l == 0 then some (es.take h)
  else if l == h then some []
  else match es[l]? with
    | some c => if c.length == z then some ((es.take h).drop l) else none
    | none => none

def sliceV (m : M) (t : TypeId) (x : V) (lo hi : Option V) : Option V :=
  match E.P.underlying t with
  | some .string => match x with
    | .str b => match bound 0 lo, bound b.length hi with
      | some l, some h => if l ≤ h && h ≤ b.length then some (.str ((b.take h).drop l)) else none
      | _, _ => none
    | _ => none
  | some (.slice e) => if E.P.cellsOf e == 0 then none else match x with
    | .sc (.slice none 0 0) => match bound 0 lo, bound 0 hi with
      | some 0, some 0 => some x
      | _, _ => none
    | .ro es => match bound 0 lo, bound es.length hi with
      | some l, some h => if l ≤ h && h ≤ es.length then (match cutEs (E.P.cellsOf e) l h es with | some es => some (.ro es) | none => none) else none
      | _, _ => none
    | .als r p i j n z => match bound 0 lo, bound n hi with
      | some l, some h => if l ≤ h then
          match m.get r p with
          | some (.own es _) =>
            if j == 0 && h ≤ n && i + n ≤ es.length then
              if l == 0 then some (.als r p i 0 h z)
              else if l == h then some (.ro [])
              else match es[i + l]? with
                | some c => if c.length == E.P.cellsOf e then some (.als r p (i + l) 0 (h - l) z) else none
                | none => none
            else none
          | _ => none
        else none
      | _, _ => none
    | _ => none
  | some (.array k e) => if E.P.cellsOf e == 0 then none else match x with
    | .gp g j => match E.glob g with
      | some cs => match bound 0 lo, bound k hi with
        | some l, some h => if l ≤ h && h ≤ k && j + k * E.P.cellsOf e ≤ cs.length then some (.ro (chunks (E.P.cellsOf e) (h - l) (cs.drop (j + l * E.P.cellsOf e)))) else none
        | _, _ => none
      | none => none
    | _ => none
  | _ => none

def indexAddrV (m : M) (t : TypeId) (x : V) (i : Nat) : Option V :=
  match E.P.underlying t with
  | some (.array k e) => if i < k && E.P.cellsOf e != 0 then addJ x (i * E.P.cellsOf e) else none
  | some (.slice e) => if E.P.cellsOf e == 0 then none else match x with
    | .ro es => match es[i]? with | some c => if c.length == E.P.cellsOf e then some (.rop c 0) else none | none => none
    | .als r p i0 j n _ => if i < n then
        match m.get r p with
        | some (.own es _) => match es[i0 + i]? with
          | some c => if j == 0 && c.length == E.P.cellsOf e then some (.al r p (i0 + i) 0) else none
          | none => none
        | _ => none
      else none
    | _ => none
  | _ => none

def indexV (t : TypeId) (x : V) (i : Nat) : Option V :=
  match x with
  | .str b => match E.P.underlying t with
    | some .string => match b[i]? with | some c => some (.int .u8 c.toNat) | none => none
    | _ => none
  | .agg cs => match E.P.underlying t with
    | some (.array k e) => if i < k then
        partU E e cs (i * E.P.cellsOf e)
      else none
    | _ => none
  | _ => none

def byteOf : List V → Option UInt8
  | [.int .u8 n] => if 0 ≤ n && n < 256 then some (UInt8.ofNat n.toNat) else none
  | _ => none
def bytesOf : List (List V) → Option (List UInt8)
  | [] => some []
  | e :: es => match byteOf e, bytesOf es with | some b, some bs => some (b :: bs) | _, _ => none
def ofBytes (b : List UInt8) : List (List V) := b.map fun c => [.int .u8 c.toNat]

def convV (m : M) (src dst : TypeId) (x : V) : Option V :=
  match E.P.underlying src, E.P.underlying dst, x with
  | some _, some (.int k), .int _ n => some (.int k (k.wrap n))
  | some _, some .string, .str b => some (.str b)
  | some (.slice e), some .string, x => match elems m x with
    | some es => match E.P.underlying e, bytesOf es with | some (.int .u8), some b => some (.str b) | _, _ => none
    | none => none
  | _, _, _ => none

/-- A string's bytes are a new slice. -/
def toBytes (src dst : TypeId) (x : V) : Option V :=
  match E.P.underlying src, E.P.underlying dst, x with
  | some _, some (.slice e), .str b => match E.P.underlying e with | some (.int .u8) => some (.own (ofBytes b) none) | _ => none
  | _, _, _ => none

/-- Is a slice's element of so many cells? -/
def wide (z : Nat) : List (List V) → Bool
  | [] => true
  | e :: _ => e.length == z

def capApp (cap : Option Nat) (n : Nat) : Option Nat := match cap with | some c => if n ≤ c then some c else none | none => none

/-- Has what is appended such a type? -/
def yields : Option TypeDesc → V → Bool
  | some (.slice _), .str _ => false
  | some .string, .str _ => true
  | some (.slice _), _ => true
  | _, _ => false

def appended (m : M) : V → Option (List (List V))
  | .str b => some (ofBytes b)
  | y => elems m y

def appendM (t tx : TypeId) (m : M) : Option (V × M) :=
  match m.vs with
  | [x, y] =>
    match appended m y, E.P.underlying t with
    | some new, some (.slice e) =>
      match E.P.info? e with
      | none => none
      | some i =>
      if i.bytes ≤ 65536 && wide (E.P.cellsOf e) new && new.all (·.all V.one) && (match i.zero with | some z => (ofValue z).cells.length == E.P.cellsOf e | none => false) && yields (E.P.underlying tx) y then
        match x with
        | .sc (.slice none 0 0) => if new.isEmpty then some (x, m) else if new.length ≤ 16777216 then some (.own new none, m) else none
        | .ro [] => if new.isEmpty then some (x, m) else none
        | .als r p _ _ _ _ =>
          match m.get r p with
          | some (.own es0 cap0) =>
            if (if es0.isEmpty then cap0 == some 0 else wide (E.P.cellsOf e) es0) then
              match takeS m x with
              | some (es, cap, m) =>
                if es.length + new.length ≤ 16777216 then
                  some (.own (es ++ new) (capApp cap (es.length + new.length)), m)
                else none
              | none => none
            else none
          | _ => none
        | _ => none
      else none
    | _, _ => none
  | _ => none

/-- Where a lent box goes back to. -/
structure Back where
  j : Nat
  r : Nat
  p : Path

def farB (a b : Back) : Bool := !(a.r == b.r && ((behind a.p b.p).isSome || (behind b.p a.p).isSome))

def allFar : List Back → Bool
  | [] => true
  | b :: bs => bs.all (farB b) && allFar bs

/-- First what owns nothing or is given away: names of slices are frozen or taken. -/
def passSlices (f : FuncId) : Nat → Nat → List V → M → Option (List V × M)
  | 0, _, acc, m => some (acc, m)
  | k + 1, j, acc, m =>
    match m.vs[j]? with
    | some v =>
      match (match v with
        | .al .. => some (.any, m)
        | .als .. => if E.give f j then (match takeS m v with | some (es, cap, m) => some (.own es cap, m) | none => none) else frz1 m v
        | .any => none
        | .sc x => if E.give f j then freeze1 m (.sc x) else frz1 m (.sc x)
        | v => freezeV frz1 m v : Option (V × M)) with
      | some (x, m) => passSlices f k (j + 1) (acc ++ [x]) m
      | none => none
    | none => none

/-- Then boxes are lent: they leave holes. -/
def lendBoxes : Nat → List V → List V → M → Option (List V × List Back × M)
  | _, [], _, m => some ([], [], m)
  | j, a :: as, x :: xs, m => match a with
    | .al r p 0 0 => match m.get r p with
      | some (.box cs) => match m.put r p .any with
        | some m => match lendBoxes (j + 1) as xs m with
          | some (vs, bs, m) => some (.box cs :: vs, ⟨j, r, p⟩ :: bs, m)
          | none => none
        | none => none
      | _ => none
    | .al .. => none
    | _ => match lendBoxes (j + 1) as xs m with
      | some (vs, bs, m) => some (x :: vs, bs, m)
      | none => none
  | _, _ :: _, [], _ => none

def putBack (outs : List V) : List Back → M → Option M
  | [], m => some m
  | b :: bs, m =>
    match outs[b.j]? with
    | some (.box new) => match m.put b.r b.p (.box new) with
      | some m => putBack outs bs m
      | none => none
    | _ => none

/-- A callee's place in the caller's words. -/
def backPlace : List Back → Nat → Path → Option (Nat × Path)
  | [], _, _ => none
  | b :: bs, r, p => if b.j == r then some (b.r, b.p ++ p) else backPlace bs r p

def dirt (bs : List Back) : List (Nat × Path) → M → M
  | [], m => m
  | (r, p) :: ds, m =>
    match backPlace bs r p with
    | some (r2, p2) => dirt bs ds ((m.mark r2 p2).step (.drop r2 p2))
    | none => dirt bs ds m

/-- A name that a callee hands back, in the caller's words. -/
def arrive1 (bs : List Back) (v : V) : Option V :=
  match v with
  | .al r p i j => match backPlace bs r p with | some (r2, p2) => some (.al r2 p2 i j) | none => none
  | .als r p i j n z => match backPlace bs r p with | some (r2, p2) => some (.als r2 p2 i j n z) | none => none
  | v => match v.roots with | [] => some v | _ => none

def arrives (bs : List Back) : List V → Option (List V)
  | [] => some []
  | v :: vs => match arrive1 bs v, arrives bs vs with
    | some x, some xs => some (x :: xs)
    | _, _ => none

def arrive (bs : List Back) (v : V) : Option V :=
  match v with
  | .tup vs => match arrives bs vs with | some xs => some (.tup xs) | none => none
  | .agg vs => match arrives bs vs with | some xs => some (.agg xs) | none => none
  | v => arrive1 bs v

def scalarV : V → Bool
  | .int .. | .bool _ | .str _ => true
  | .tup [] => true
  | _ => false

/-- What a callee only reads while it is called. -/
def lendArgs (m : M) : List V → Option (List V)
  | [] => some []
  | v :: vs => match lendArgs m vs with
    | some xs => match v with
      | .als r p i 0 n _ => match m.get r p with
        | some (.own es _) => if es.any (·.any (·.owner)) || es.length < i + n then none else some (.ro ((es.drop i).take n) :: xs)
        | _ => none
      | .int .. | .bool _ | .str _ | .ro _ => some (v :: xs)
      | _ => none
    | none => none

/-- A call: the operands are the arguments. -/
def callM (rec : Fun) (f : FuncId) (m : M) : Option (V × M) :=
  if E.lends f then
    match lendArgs m m.vs with
    | some vs => match rec f vs with
      | some o => if scalarV o.res then some (o.res, m) else none
      | none => none
    | none => none
  else
  match passSlices E f m.vs.length 0 [] m with
  | some (xs, m) => match lendBoxes 0 m.vs xs m with
    | some (vs, bs, m) =>
      if allFar bs then
        match rec f vs with
        | some o =>
          if !(o.dy.all (fun x => !(x.2.isEmpty && bs.any (fun b => b.j == x.1)))) then none else
          match putBack o.outs bs m with
          | some m =>
            match arrive bs o.res with
            | some v => some (v, dirt bs o.dy m)
            | none => none
          | none => none
        | none => none
      else none
    | none => none
  | none => none

def opts : Option Operand → List Operand
  | some x => [x]
  | none => []

/-- The operands of an operation, as they are laid into 'vs'. -/
def opnds : Op → List Operand
  | .slice _ x lo hi _ => x :: (opts lo ++ opts hi)
  | .call c => (match c.callee with | .value f => [f] | .invoke r _ => [r] | .builtin _ => []) ++ c.args.toList
  | op => op.operands.toList

def partsOf (t : TypeId) : Option (Nat → Option (Nat × Nat)) :=
  match E.P.underlying t with
  | some (.struct fs) => if fs.all (fun f => (E.P.info? f.type).isSome) then some fun i => match fs[i]? with | some f => some (f.offset, E.P.cellsOf f.type) | none => none else none
  | some (.array _ e) => if (E.P.info? e).isSome then some fun i => some (i * E.P.cellsOf e, E.P.cellsOf e) else none
  | _ => none

def offsOf (g : Nat → Option (Nat × Nat)) : List (Nat × Operand) → Option (List (Nat × Nat))
  | [] => some []
  | (i, _) :: rest => match g i, offsOf g rest with
    | some x, some xs => some (x :: xs)
    | _, _ => none

def nilV : V → Option V
  | .al r p i j => some (.al r p i j)
  | .rop cs j => some (.rop cs j)
  | .gp g j => some (.gp g j)
  | .ifc t v => some (.ifc t v)
  | .fn f a b => some (.fn f a b)
  | _ => none

def just (m : M) (v : Option V) : Option (V × M) := match v with | some v => some (v, m) | none => none

def opM (rec : Fun) (d : Nat) (op : Op) (m : M) : Option (V × M) :=
  match op, m.vs with
  | .move _, [v] | .assign _, [v] => (match v with | .any => none | v => some (v, m))
  | .pick _ _ _, [.bool c, a, b] => (match (if c then a else b) with | .any => none | v => some (v, m))
  | .alloc t, [] => just m (match zeroV E t with | some v => some (.box v.cells) | none => none)
  | .box _ _, [_] => let m := anew d m; match m.vs with
    | [v] => if !v.told then none else match goAlongs d 0 m.lg.length m 0 v.cells with | some (cs, m) => some (.box cs, m) | none => none
    | _ => none
  | .build t parts, _ => match zeroV E t, partsOf E t with
    | some z, some g => match offsOf g parts.toList with
      | some offs => if !apartR offs then none else match buildParts d offs 0 z.cells (anew d m) with | some (cs, m) => some (.agg cs, m) | none => none
      | none => none
    | _, _ => none
  | .buildSlice t n parts, _ => match E.P.underlying t with
    | some (.slice e) => match zeroV E e with
      | some z => if n * E.P.cellsOf e ≤ 65536 && z.cells.length == E.P.cellsOf e && Nat.blt 0 (E.P.cellsOf e) then
          (match sliceParts (parts.toList.map (·.1)) 0 (List.replicate n z.cells) m with
          | some (es, m) => some (.own es (some n), m)
          | none => none) else none
      | none => none
    | _ => none
  | .load t _, [a] => just m (loadV E m t a)
  | .store t _ _, _ => match storeM E t m with | some m => some (.any, m) | none => none
  | .nilCheck _, [v] => just m (nilV v)
  | .binOp op t x' y' _, [x, y] => just m (binV E op t (isConst x' || isConst y') x y)
  | .unOp op _ _, [x] => just m (unV op x)
  | .convert a b _, [x] => match toBytes E a b x with | some v => some (v, m) | none => just m (convV E m a b x)
  | .makeInterface t _, [v] => match E.P.underlying t with
    | some (.interface _) | none => none
    | some _ => match freezeV frz1 m v with | some (v, m) => some (.ifc t v, m) | none => none
  | .slice t _ lo hi none, x :: bs =>
    just m (match lo, hi, bs with
    | none, none, [] => sliceV E m t x none none
    | some _, none, [a] => sliceV E m t x (some a) none
    | none, some _, [b] => sliceV E m t x none (some b)
    | some _, some _, [a, b] => sliceV E m t x (some a) (some b)
    | _, _, _ => none)
  | .fieldAddr t _ f, [x] => just m (match fieldOff E t f with | some (_, o) => addJ x o | none => none)
  | .field t _ f, [x] => just m (fieldV E t f x)
  | .indexAddr t _ _, [x, .int _ i] => just m (if 0 ≤ i then indexAddrV E m t x i.toNat else none)
  | .index t _ _, [x, .int _ i] => just m (if 0 ≤ i then indexV E t x i.toNat else none)
  | .extract _ ix, [.tup vs] => just m (match vs[ix]? with | some .any => none | v => v)
  | .call c, vs => match c.callee with
    | .builtin .len => match vs, c.argTypes[0]? with
      | [x], some t => match E.P.underlying t with
        | some (.array n _) => some (.int .i64 n, m)
        | some (.slice _) => just m (lenS x)
        | some .string => just m (lenStr x)
        | _ => none
      | _, _ => none
    | .builtin .append => match c.argTypes.toList with
      | [t, tx] => appendM E t tx m
      | _ => none
    | .value _ => match vs with
      | .fn f [] [] :: args => callM E rec f { m with vs := args }
      | _ => none
    | _ => none
  | _, _ => none

/-- Does an operation leave all roots but its own as they are? -/
def light : Op → Bool
  | .move _ | .assign _ | .pick .. | .alloc _ | .load .. | .nilCheck _ | .binOp .. | .unOp .. | .convert .. | .fieldAddr .. | .field .. | .indexAddr .. | .index ..
  | .extract .. | .slice .. => true
  | .call c => match c.callee with | .builtin .len => true | _ => false
  | _ => false

def St.ev (s : St) : Operand → V
  | .tmp t => s.sl.getD t .any
  | .const v => ofValue v
  | .global g => .gp g 0
  | .func f => .fn f [] []

/-- The roots that an operation touches. -/
def touched (d : Nat) (op : Op) (vs : List V) : List Nat :=
  (match op with | .store .. => [] | _ => [d]) ++ rootsOf vs

def layAll : List (Nat × V) → List V → List V
  | [], rt => rt
  | (r, v) :: l, rt => (layAll l rt).set r v

def pick (rt : List V) : List Nat → List (Nat × V)
  | [] => []
  | r :: rs => match rt[r]? with
    | some v => (r, v) :: pick rt rs
    | none => pick rt rs

/-- Does an operation move owners into its own root? -/
def moves : Op → Bool
  | .box .. | .build .. => true
  | _ => false

/-- What is known of an operation's doing: the roots that it touches, those that it changes. -/
structure Foot where
  T : List Nat
  W : List Nat

/-- What an operation does to a frame. -/
structure Eff where
  d : Option Nat
  v : V
  rs : List (Nat × V)
  lg : List Step
  dy : List (Nat × Path)

def Eff.act (e : Eff) (s : St) : St where
  sl := match e.d with | some d => (sweepAll e.lg s.sl).set d e.v | none => sweepAll e.lg s.sl
  rt := layAll e.rs s.rt
  dy := e.dy.foldl (fun l x => addTo x l) s.dy

/-- Where dirt is told, as if it were a root. -/
def dirtRoot : Nat := 4294967295

def Step.roots : Step → List Nat
  | .drop r _ => [r]
  | .turn r _ r2 _ => [r, r2]

def stepRoots : List Step → List Nat
  | [] => []
  | s :: l => s.roots ++ stepRoots l

def foot (o : Oper) (e : Eff) (T : List Nat) : Foot where
  T := T ++ e.v.roots
  W := (if light o.op then [] else if e.dy.isEmpty then T else dirtRoot :: T) ++ stepRoots e.lg

/-- The root in which an operation's result lies. -/
def dOf (n : Nat) (o : Oper) : Nat := match o.dst with | some d => d | none => n - 1

/-- Do steps of names stay among the roots that are seen? -/
def stepsIn (rs : List (Nat × V)) (l : List Step) : Bool := (stepRoots l).all fun r => (look rs r).isSome

/-- What becomes of the roots that are seen. -/
def relay (rs new : List (Nat × V)) : List (Nat × V) := rs.map fun x => (x.1, match look new x.1 with | some v => v | none => x.2)

/-- What an operation does to a frame of so many roots of its own, by its operands and what lies in the roots that it touches. -/
def effT (rec : Fun) (n : Nat) (o : Oper) (vs : List V) (rs : List (Nat × V)) : Option Eff :=
  match opM E rec (dOf n o) o.op { n, vs, rs, lg := [], dy := [] } with
  | none => none
  | some (v, m) =>
    if !(stepsIn rs m.lg) then none else
    match o.dst with
    | none => if moves o.op then none else some { d := none, v := .any, rs := if light o.op then [] else relay rs m.rs, lg := m.lg, dy := m.dy }
    | some d =>
      if Nat.ble n d then none else
      if v.rich then
        let vm := if moves o.op then (v, m) else (v.sweep (.drop d []), anew d m)
        match settle d vm.1 with
        | (v, some w) => some { d := some d, v, rs := (d, w) :: (if light o.op then [] else relay rs vm.2.rs), lg := vm.2.lg, dy := vm.2.dy }
        | (_, none) => none
      else some { d := some d, v, rs := if light o.op then [] else relay rs m.rs, lg := m.lg, dy := m.dy }

def isStore : Op → Bool
  | .store .. => true
  | _ => false

def opEff (rec : Fun) (n : Nat) (o : Oper) (s : St) : Option (Eff × Foot) :=
  let vs := (opnds o.op).map s.ev
  let T := touched (dOf n o) o.op vs
  match effT E rec n o vs (pick s.rt T) with
  | some e => some (e, foot o e T)
  | none => if isStore o.op then (match effT E rec n o vs (pick s.rt ((n - 1) :: T)) with | some e => some (e, foot o e ((n - 1) :: T)) | none => none) else none

inductive Ex where
  | nx | rt
  | ex (id : Nat)
  | gt (l : Nat)

def guardOk (ops : Array Oper) (s : St) (o : Oper) : Option Bool :=
  match o.guard with
  | none => some true
  | some (j, want) => match ops[j]? with
    | some q => match q.dst with
      | some t => match s.sl[t]? with
        | some (.bool b) => some (b == want)
        | some (.tup []) => some false
        | _ => none
      | none => none
    | none => none

def skipEff (o : Oper) : Eff := ⟨o.dst, .tup [], [], [], []⟩

/-- One operation of a region, or none, if its guard says so. -/
def oneRun (rec : Fun) (n : Nat) (ops : Array Oper) (o : Oper) (s : St) : Option (Eff × Foot) :=
  match guardOk ops s o with
  | some true => opEff E rec n o s
  | some false => some (skipEff o, ⟨[], []⟩)
  | none => none

def opsRun (rec : Fun) (n : Nat) (ops : Array Oper) : List Oper → St → Option St
  | [], s => some s
  | o :: rest, s => match oneRun E rec n ops o s with
    | some (e, _) => opsRun rec n ops rest (e.act s)
    | none => none

/-- Must one operation of a region come behind another one? -/
def reach (ops : Array Oper) : Nat → Nat → Nat → Bool
  | 0, _, _ => false
  | f + 1, k, i => match ops[k]? with
    | some o => o.after.toList.any fun e => Region.binds .any e && Nat.blt e.on k && (Nat.beq e.on i || reach ops f e.on i)
    | none => false

def looksAt (ops : Array Oper) (o : Oper) : List Nat :=
  (opnds o.op).filterMap (fun | .tmp t => some t | _ => none) ++
  (match o.guard with
   | some (g, _) => match ops[g]? with | some q => q.dst.toList | none => []
   | none => [])

def slotsApart (ops : Array Oper) (x y : Oper) : Bool :=
  (match x.dst with
   | some d => !(looksAt ops y).contains d && (match y.dst with | some e => !(Nat.beq d e) | none => true)
   | none => true) &&
  (match y.dst with
   | some d => !(looksAt ops x).contains d
   | none => true)

def slotsOkWith (ops : Array Oper) (k : Nat) (y : Oper) : Nat → List Oper → Bool
  | _, [] => true
  | i, x :: xs => (slotsApart ops x y || reach ops k k i) && slotsOkWith ops k y (i + 1) xs

/-- Is the listed order one that the edges allow, and are all slots apart where they leave the order open? -/
def slotsOk (ops : Array Oper) : List Oper → Nat → List Oper → Bool
  | _, _, [] => true
  | before, k, y :: ys => y.after.toList.all (fun e => !Region.binds .any e || Nat.blt e.on k) && slotsOkWith ops k y 0 before && slotsOk ops (before ++ [y]) (k + 1) ys

def disj : List Nat → List Nat → Bool
  | [], _ => true
  | a :: as, bs => !(bs.any (Nat.beq a)) && disj as bs

def feetApart (ops : Array Oper) (k : Nat) (f : Foot) : Nat → List Foot → Bool
  | _, [] => true
  | i, g :: gs => ((disj g.W f.T && disj f.W g.T && disj g.W f.W) || reach ops k k i) && feetApart ops k f (i + 1) gs

/-- Do an operation's steps of names leave alone what later ones look at, where the edges leave the order open? -/
def unhit (ops : Array Oper) (k : Nat) (s : St) (rs : List Nat) : Nat → List Oper → Bool
  | _, [] => true
  | j, x :: xs => (reach ops j j k || (looksAt ops x).all (fun t => disj (s.sl.getD t .any).roots rs)) && unhit ops k s rs (j + 1) xs

def noHit (l : List Step) (b : Bool) : Bool := match l with | [] => true | _ :: _ => b

/-- The operations of a region of which the order is drawn. -/
def drawRun (rec : Fun) (n : Nat) (ops : Array Oper) : List Oper → List Foot → Nat → St → Option St
  | [], _, _, s => some s
  | o :: rest, fs, k, s => match oneRun E rec n ops o s with
    | some (e, f) => if feetApart ops k f 0 fs && noHit e.lg (unhit ops k s (stepRoots e.lg) (k + 1) rest) then drawRun rec n ops rest (fs ++ [f]) (k + 1) (e.act s) else none
    | none => none

def known : V → Bool
  | .any => false
  | _ => true

/-- At a loop's head: what was not known when it began is forgotten. -/
def clearSl : List Bool → List V → List V
  | b :: bs, v :: vs => (if b then v else .any) :: clearSl bs vs
  | _, vs => vs

/-- Roots of the frame's own that nothing names hold nothing any more. -/
def clearRt (nm : List Nat) : Nat → Nat → List V → List V
  | _, 0, vs => vs
  | _, _ + 1, [] => []
  | i, k + 1, v :: vs => (if nm.any (Nat.beq i) then v else .any) :: clearRt nm (i + 1) k vs

def clearSt (nr : Nat) (mask : List Bool) (s : St) : St :=
  { sl := clearSl mask s.sl, rt := clearRt (rootsOf (clearSl mask s.sl)) 0 nr s.rt, dy := s.dy }

/-- What tells a loop from the others of its function: its first region. -/
def loopKey : Code → Nat
  | .region id _ _ => id
  | .seq a _ => loopKey a
  | .block _ a => loopKey a
  | .cond _ a _ => loopKey a
  | .loop a => loopKey a
  | .scope a => loopKey a
  | _ => 0

def deadMask (ds : List Nat) : Nat → List V → List Bool
  | _, [] => []
  | i, _ :: vs => (!(ds.any (Nat.beq i))) :: deadMask ds (i + 1) vs

/-- Before a loop, what nobody looks at any more is forgotten. -/
def clearDead (nr : Nat) (ds : List Nat) (s : St) : St := clearSt nr (deadMask ds 0 s.sl) s

def loopRun (nr : Nat) (body : St → Option (Ex × St)) (mask : List Bool) : Nat → St → Option (Ex × St)
  | 0, _ => none
  | k + 1, s => match body s with
    | some (.nx, s) => loopRun nr body mask k (clearSt nr mask s)
    | r => r

def scopeRun (ex : Code → St → Option (Ex × St)) (body : Code) : Nat → Code → St → Option (Ex × St)
  | 0, _, _ => none
  | k + 1, cur, s => match ex cur s with
    | some (.gt l, s) => match findLabel body l with
      | some c => scopeRun ex body k c s
      | none => some (.gt l, s)
    | r => r

def exec (rec : Fun) (lv : Nat → List Nat) (nr : Nat) : Nat → Code → St → Option (Ex × St)
  | 0, _, _ => none
  | n + 1, c, s =>
    match c with
    | .skip | .label _ => some (.nx, s)
    | .region _ ops draw =>
      if draw then
        if slotsOk ops [] 0 ops.toList then match drawRun E rec nr ops ops.toList [] 0 s with | some s => some (.nx, s) | none => none else none
      else match opsRun E rec nr ops ops.toList s with | some s => some (.nx, s) | none => none
    | .seq a b => match exec rec lv nr n a s with
      | some (.nx, s) => exec rec lv nr n b s
      | r => r
    | .cond x a b => match s.ev x with
      | .bool t => exec rec lv nr n (if t then a else b) s
      | _ => none
    | .block id body => match exec rec lv nr n body s with
      | some (.ex i, s) => some (if i == id then .nx else .ex i, s)
      | r => r
    | .loop body => loopRun nr (exec rec lv nr n body) ((clearDead nr (lv (loopKey body)) s).sl.map known) n (clearDead nr (lv (loopKey body)) s)
    | .exit id => some (.ex id, s)
    | .ret => some (.rt, s)
    | .goto l => some (.gt l, s)
    | .scope body => scopeRun (exec rec lv nr n) body n body s
    | _ => none

/-- A result on its way out of a frame. -/
def leave1 (fz : Bool) (m : M) (v : V) : Option (V × M) :=
  match v with
  | .als r p i j k z =>
    if fz then frz1 m v else
    if r < m.n then
      match takeS m v with | some (es, cap, m) => some (.own es cap, m) | none => none
    else
      match p, m.get r p with
      | [], some (.own _ _) => match takeS m v with | some (es, cap, m) => some (.own es cap, m) | none => none
      | _, some (.own _ _) => some (.als (r - m.n) p i j k z, m)
      | _, _ => none
  | .al r p i j =>
    if r < m.n then (match i, j, m.get r p with | 0, 0, some (.box _) => m.take r p none | _, _, _ => none)
    else some (.al (r - m.n) p i j, m)
  | v => if fz then frz1 m v else freeze1 m v

/-- One of several results: it names nothing. -/
def leaveR (fz : Bool) (m : M) (v : V) : Option (V × M) :=
  match leave1 fz m v with
  | some (x, m) => (match x.roots with | [] => some (x, m) | _ :: _ => none)
  | none => none

/-- The result of a call, or one of several: of these only what is no composite may own. -/
def leave (fz single : Bool) (m : M) (v : V) : Option (V × M) :=
  match v with
  | .agg cs => match onAll (if single then leaveR fz else frz1) m.lg.length m cs with | some (xs, m) => some (.agg xs, m) | none => none
  | v => if single then leave1 fz m v else leaveR fz m v

def srcOf (m : M) (rv : ResultVar) (v : V) : Option V := match rv with | .tmp _ => some v | .cell _ t => loadV E m t v

def resultsV (fz single : Bool) : List ResultVar → Nat → M → Option (List V × M)
  | [], _, m => some ([], m)
  | rv :: rs, q, m =>
    match m.vs[q]? with
    | some v => match srcOf E m rv v with
      | some v => match leave fz single m v with
        | some (x, m) => match resultsV fz single rs (q + 1) m with | some (xs, m) => some (x :: xs, m) | none => none
        | none => none
      | none => none
    | none => none

def enterSl (n : Nat) : Nat → List V → List V
  | _, [] => []
  | j, v :: as => nameAt (n + j) [] v :: enterSl n (j + 1) as

def enterRt : List V → List V
  | [] => []
  | .box cs :: as => .box cs :: enterRt as
  | .own es cap :: as => .own es cap :: enterRt as
  | _ :: as => .any :: enterRt as

def enter (n : Nat) (args : List V) : St :=
  { sl := enterSl (n + 1) 0 args ++ List.replicate (n - args.length) .any, rt := List.replicate (n + 1) .any ++ enterRt args, dy := [] }

def ownDirt (n : Nat) : List (Nat × Path) → List (Nat × Path)
  | [] => []
  | (r, p) :: ds => (r - n, p) :: ownDirt n ds

def rootVal (rs : List (Nat × V)) (n : Nat) : V := match look rs n with | some v => v | none => .any

/-- What lies in the roots from one on. -/
def outsOf (rs : List (Nat × V)) (n : Nat) : Nat → List V
  | 0 => []
  | k + 1 => rootVal rs n :: outsOf rs (n + 1) k

def oneOr : List V → V
  | [v] => v
  | vs => .tup vs

def resSlot (s : St) : ResultVar → V
  | .tmp t => s.sl.getD t .any
  | .cell a _ => s.sl.getD a .any

def allRoots : Nat → List V → List (Nat × V)
  | _, [] => []
  | i, v :: vs => (i, v) :: allRoots (i + 1) vs

def finish (fz : Bool) (n : Nat) (rs : List ResultVar) (s : St) : Option Out :=
  match resultsV E fz (rs.length == 1) rs 0 { n, vs := rs.map (resSlot s), rs := allRoots 0 s.rt, lg := [], dy := s.dy } with
  | some (vs, m) => some ⟨oneOr vs, outsOf m.rs n (s.rt.length - n), ownDirt n m.dy⟩
  | none => none

def run : Nat → Fun
  | 0 => fun _ _ => none
  | n + 1 => fun f args =>
    match E.prim f with
    | some g => g args
    | none =>
    match E.P.funcs[f]? with
    | some fn => match fn.body with
      | some c => match exec E (run n) (E.dead f) (fn.ntmps + 1) n c (enter fn.ntmps args) with
        | some (.nx, s) | some (.rt, s) => finish E (E.frz f) (fn.ntmps + 1) fn.results.toList s
        | _ => none
      | none => none
    | none => none
end
end Go.Bv
/- Places in trees: what lies at a path behind a change at another one. -/
namespace Go.Bv
open Go

theorem get_nil (v : V) : v.get [] = some v := by cases v <;> rfl
theorem get_cons (v : V) (s : Nat × Nat) (p : Path) : v.get (s :: p) = match v.kid s with | some c => c.get p | none => none := by cases v <;> rfl
theorem put_nil (x v : V) : V.put x v [] = some x := by cases v <;> rfl
theorem put_cons (x v : V) (s : Nat × Nat) (p : Path) : V.put x v (s :: p) = match v.kid s with
    | some c => match V.put x c p with | some c' => some (v.setKid s c') | none => none
    | none => none := by cases v <;> rfl

theorem get_append (v : V) (p q : Path) : v.get (p ++ q) = match v.get p with | some c => c.get q | none => none := by
  induction p generalizing v with
  | nil => simp [get_nil]
  | cons s p ih =>
    simp only [List.cons_append, get_cons]
    cases v.kid s with
    | none => rfl
    | some c => exact ih c

theorem kid_setKid_same {v : V} {s : Nat × Nat} {c c' : V} (h : v.kid s = some c) : (v.setKid s c').kid s = some c' := by
  obtain ⟨i, j⟩ := s
  cases v <;> simp only [V.kid, V.setKid] at h ⊢ <;> try (simp at h; done)
  case box cs => split at h <;> simp_all [List.getElem?_set]; exact (List.getElem?_eq_some_iff.1 h).1
  case tup cs => split at h <;> simp_all [List.getElem?_set]; exact (List.getElem?_eq_some_iff.1 h).1
  case agg cs => split at h <;> simp_all [List.getElem?_set]; exact (List.getElem?_eq_some_iff.1 h).1
  case fn f pre cs => split at h <;> simp_all [List.getElem?_set]; exact (List.getElem?_eq_some_iff.1 h).1
  case own es cap =>
    cases he : es[i]? with
    | none => simp [he] at h
    | some e =>
      simp only [he] at h ⊢
      have hi := (List.getElem?_eq_some_iff.1 he).1
      have hj := (List.getElem?_eq_some_iff.1 h).1
      simp [V.kid, List.getElem?_set, hi, hj]

theorem kid_setKid_ne {v : V} {s t : Nat × Nat} {c c' : V} (hs : v.kid s = some c) (h : t ≠ s) : (v.setKid s c').kid t = v.kid t := by
  obtain ⟨i, j⟩ := s
  obtain ⟨a, b⟩ := t
  have flat : ∀ (cs : List V), (if i = 0 then cs[j]? else none) = some c → (if a = 0 then (cs.set j c')[b]? else none) = (if a = 0 then cs[b]? else none) := by
    intro cs hc
    by_cases ha : a = 0
    · subst ha
      by_cases hi : i = 0
      · subst hi
        have : b ≠ j := fun e => h (by rw [e])
        simp [List.getElem?_set_ne (Ne.symm this)]
      · simp [hi] at hc
    · simp [ha]
  cases v <;> simp only [V.kid, V.setKid, beq_iff_eq] at hs ⊢ <;> try (simp at hs; done)
  case box cs => exact flat cs hs
  case tup cs => exact flat cs hs
  case agg cs => exact flat cs hs
  case fn f pre cs => exact flat cs hs
  case own es cap =>
    cases he : es[i]? with
    | none => simp [he] at hs
    | some e =>
      simp only [he] at hs ⊢
      by_cases ha : a = i
      · subst ha
        have hb : b ≠ j := fun e => h (by rw [e])
        have hi := (List.getElem?_eq_some_iff.1 he).1
        have he' : es[a] = e := by rw [List.getElem?_eq_getElem hi] at he; exact Option.some.inj he
        simp [hi, List.getElem?_set_ne (Ne.symm hb), he']
      · simp [List.getElem?_set_ne (Ne.symm ha)]

/-- How two paths lie to each other. -/
theorem behind_some {p q r : Path} (h : behind p q = some r) : q = p ++ r := by
  induction p generalizing q with
  | nil => cases q <;> simp [behind] at h <;> simp [h]
  | cons s p ih =>
    obtain ⟨a, b⟩ := s
    cases q with
    | nil => simp [behind] at h
    | cons t q =>
      obtain ⟨c, d⟩ := t
      simp only [behind] at h
      split at h
      · rename_i hc
        simp at hc
        obtain ⟨rfl, rfl⟩ := hc
        rw [ih h]; rfl
      · simp at h

theorem behind_append (p r : Path) : behind p (p ++ r) = some r := by
  induction p with
  | nil => cases r <;> rfl
  | cons s p ih => obtain ⟨a, b⟩ := s; simp [behind, ih]

theorem behind_none {p q : Path} (h : behind p q = none) (r : Path) : q ≠ p ++ r := by
  intro e; rw [e, behind_append] at h; simp at h

/-- Two places: one lies in the other, or they part at a step. -/
inductive Lie (p q : Path) : Prop
  | below (r : Path) (h : q = p ++ r)
  | above (s : Nat × Nat) (r : Path) (h : p = q ++ s :: r)
  | apart (c : Path) (s t : Nat × Nat) (a b : Path) (hp : p = c ++ s :: a) (hq : q = c ++ t :: b) (hne : s ≠ t)

theorem lie (p q : Path) : Lie p q := by
  induction p generalizing q with
  | nil => exact .below q rfl
  | cons s p ih =>
    cases q with
    | nil => exact .above s p rfl
    | cons t q =>
      by_cases h : s = t
      · subst h
        cases ih q with
        | below r h => exact .below r (by rw [h]; rfl)
        | above u r h => exact .above u r (by rw [h]; rfl)
        | apart c u w a b hp hq hne => exact .apart (s :: c) u w a b (by rw [hp]; rfl) (by rw [hq]; rfl) hne
      · exact .apart [] s t p q rfl rfl h

theorem put_get_below {v v' x : V} {p : Path} (h : V.put x v p = some v') (q : Path) : v'.get (p ++ q) = x.get q := by
  induction p generalizing v v' with
  | nil => rw [put_nil] at h; simp at h; subst h; rfl
  | cons s p ih =>
    rw [put_cons] at h
    cases hk : v.kid s with
    | none => simp [hk] at h
    | some c =>
      simp only [hk] at h
      cases hp : V.put x c p with
      | none => simp [hp] at h
      | some c' =>
        simp only [hp, Option.some.injEq] at h
        subst h
        rw [List.cons_append, get_cons, kid_setKid_same hk]
        exact ih hp

theorem put_get_apart {v v' x : V} {c : Path} {s t : Nat × Nat} {a b : Path} (h : V.put x v (c ++ s :: a) = some v') (hne : s ≠ t) :
    v'.get (c ++ t :: b) = v.get (c ++ t :: b) := by
  induction c generalizing v v' with
  | nil =>
    rw [List.nil_append, put_cons] at h
    cases hk : v.kid s with
    | none => simp [hk] at h
    | some k =>
      simp only [hk] at h
      cases hp : V.put x k a with
      | none => simp [hp] at h
      | some c' =>
        simp only [hp, Option.some.injEq] at h
        subst h
        simp only [List.nil_append, get_cons]
        rw [kid_setKid_ne hk (Ne.symm hne)]
  | cons u c ih =>
    rw [List.cons_append, put_cons] at h
    cases hk : v.kid u with
    | none => simp [hk] at h
    | some k =>
      simp only [hk] at h
      cases hp : V.put x k (c ++ s :: a) with
      | none => simp [hp] at h
      | some c' =>
        simp only [hp, Option.some.injEq] at h
        subst h
        simp only [List.cons_append, get_cons]
        rw [kid_setKid_same hk, hk]
        exact ih hp

/-- Above a change: the thing there has one part changed. -/
theorem put_get_above {v v' x : V} {q : Path} {s : Nat × Nat} {r : Path} (h : V.put x v (q ++ s :: r) = some v') :
    ∃ u k k', v.get q = some u ∧ u.kid s = some k ∧ V.put x k r = some k' ∧ v'.get q = some (u.setKid s k') := by
  induction q generalizing v v' with
  | nil =>
    rw [List.nil_append, put_cons] at h
    cases hk : v.kid s with
    | none => simp [hk] at h
    | some k =>
      simp only [hk] at h
      cases hp : V.put x k r with
      | none => simp [hp] at h
      | some k' =>
        simp only [hp, Option.some.injEq] at h
        exact ⟨v, k, k', get_nil v, hk, hp, by rw [← h, get_nil]⟩
  | cons u q ih =>
    rw [List.cons_append, put_cons] at h
    cases hk : v.kid u with
    | none => simp [hk] at h
    | some k =>
      simp only [hk] at h
      cases hp : V.put x k (q ++ s :: r) with
      | none => simp [hp] at h
      | some c' =>
        simp only [hp, Option.some.injEq] at h
        obtain ⟨a, b, c, h1, h2, h3, h4⟩ := ih hp
        refine ⟨a, b, c, ?_, h2, h3, ?_⟩
        · rw [get_cons, hk]; exact h1
        · rw [← h, get_cons, kid_setKid_same hk]; exact h4

theorem put_some {v x : V} {p : Path} {u : V} (h : v.get p = some u) : ∃ v', V.put x v p = some v' := by
  induction p generalizing v with
  | nil => exact ⟨x, put_nil x v⟩
  | cons s p ih =>
    rw [get_cons] at h
    cases hk : v.kid s with
    | none => simp [hk] at h
    | some c =>
      simp only [hk] at h
      obtain ⟨c', hc⟩ := ih h
      exact ⟨v.setKid s c', by rw [put_cons, hk]; simp [hc]⟩

theorem put_get_some {v v' x : V} {p : Path} (h : V.put x v p = some v') : ∃ u, v.get p = some u := by
  induction p generalizing v v' with
  | nil => exact ⟨v, get_nil v⟩
  | cons s p ih =>
    rw [put_cons] at h
    cases hk : v.kid s with
    | none => simp [hk] at h
    | some c =>
      simp only [hk] at h
      cases hp : V.put x c p with
      | none => simp [hp] at h
      | some c' => obtain ⟨u, hu⟩ := ih hp; exact ⟨u, by rw [get_cons, hk]; exact hu⟩

end Go.Bv
/- What trees say of memory: owners have their cells, labelled by their places; what is frozen lies in a memory that never turns. -/
namespace Go.Bv
open Go

structure Base where
  b : Nat
  o : Nat
  z : Nat
  C : Nat

/-- The ghost: the memory that never turns, the owners' bases, the cells' owners. -/
structure Gh where
  rho : Nat → Nat → Option Value
  base : Nat → Path → Option Base
  lam : Nat → Nat → Option (Nat × Path)

abbrev cellAt (w : World) (b k : Nat) : Option Value := w.cell? ⟨b, k, none⟩
def ptr (b k : Nat) : Value := .pointer (some ⟨b, k, none⟩)
def slc (b k n c : Nat) : Value := .slice (some ⟨b, k, none⟩) n c

section
variable (gam : Nat → Option (Nat × Nat))

mutual
def Pv (rho : Nat → Nat → Option Value) : V → Value → Prop
  | .any, _ => True
  | .int k n, c => c = .int k n
  | .bool b, c => c = .bool b
  | .str b, c => c = .string ⟨b.toArray⟩
  | .sc x, c => c = x
  | .agg cs, c => ∃ cv, c = .agg cv ∧ Pvs rho cs cv.toList
  | .tup cs, c => ∃ cv, c = .tuple cv ∧ Pvs rho cs cv.toList
  | .ifc t x, c => ∃ cx, c = .iface t cx ∧ Pv rho x cx
  | .fn f pre caps, c => ∃ p q, c = .func (.func f) p q ∧ Pvs rho pre p.toList ∧ Pvs rho caps q.toList
  | .ro es, c => ∃ a b o z k, c = .slice a es.length k ∧ es.length ≤ k ∧ (es = [] ∨ a = some ⟨b, o, none⟩) ∧ RoEs rho z b o es
  | .rop cs j, c => ∃ b o, c = ptr b (o + j) ∧ RoCs rho b o cs
  | .gp g j, c => ∃ b o, gam g = some (b, o) ∧ c = ptr b (o + j)
  | .box _, _ | .own _ _, _ | .al _ _ _ _, _ | .als _ _ _ _ _ _, _ => False
def Pvs (rho : Nat → Nat → Option Value) : List V → List Value → Prop
  | [], cs => cs = []
  | x :: xs, cs => ∃ c cs', cs = c :: cs' ∧ Pv rho x c ∧ Pvs rho xs cs'
def RoCs (rho : Nat → Nat → Option Value) (b o : Nat) : List V → Prop
  | [] => True
  | x :: xs => (∃ c, rho b o = some c ∧ Pv rho x c ∧ ∀ s, x.kid s = none) ∧ RoCs rho b (o + 1) xs
def RoEs (rho : Nat → Nat → Option Value) (z b o : Nat) : List (List V) → Prop
  | [] => True
  | e :: es => e.length = z ∧ RoCs rho b o e ∧ RoEs rho z b (o + z) es
end

def Grows (rho rho' : Nat → Nat → Option Value) : Prop := ∀ b k c, rho b k = some c → rho' b k = some c

theorem Grows.refl (rho : Nat → Nat → Option Value) : Grows rho rho := fun _ _ _ h => h
theorem Grows.trans {a b c : Nat → Nat → Option Value} (h : Grows a b) (k : Grows b c) : Grows a c := fun _ _ _ e => k _ _ _ (h _ _ _ e)

mutual
theorem Pv.mono {rho rho' : Nat → Nat → Option Value} (h : Grows rho rho') : ∀ (v : V) (c : Value), Pv gam rho v c → Pv gam rho' v c
  | .any, _, e => e
  | .int _ _, _, e => e
  | .bool _, _, e => e
  | .str _, _, e => e
  | .sc _, _, e => e
  | .agg cs, _, ⟨cv, e, k⟩ => ⟨cv, e, Pvs.mono h cs _ k⟩
  | .tup cs, _, ⟨cv, e, k⟩ => ⟨cv, e, Pvs.mono h cs _ k⟩
  | .ifc _ x, _, ⟨cx, e, k⟩ => ⟨cx, e, Pv.mono h x _ k⟩
  | .fn _ pre caps, _, ⟨p, q, e, k, l⟩ => ⟨p, q, e, Pvs.mono h pre _ k, Pvs.mono h caps _ l⟩
  | .ro es, _, ⟨a, b, o, z, k, e, hk, ha, l⟩ => ⟨a, b, o, z, k, e, hk, ha, RoEs.mono h z b o es l⟩
  | .rop cs _, _, ⟨b, o, e, l⟩ => ⟨b, o, e, RoCs.mono h b o cs l⟩
  | .gp _ _, _, e => e
  | .box _, _, e => e
  | .own _ _, _, e => e
  | .al .., _, e => e
  | .als .., _, e => e
theorem Pvs.mono {rho rho' : Nat → Nat → Option Value} (h : Grows rho rho') : ∀ (v : List V) (c : List Value), Pvs gam rho v c → Pvs gam rho' v c
  | [], _, e => e
  | x :: xs, _, ⟨c, cs, e, k, l⟩ => ⟨c, cs, e, Pv.mono h x _ k, Pvs.mono h xs _ l⟩
theorem RoCs.mono {rho rho' : Nat → Nat → Option Value} (h : Grows rho rho') : ∀ (b o : Nat) (v : List V), RoCs gam rho b o v → RoCs gam rho' b o v
  | _, _, [], e => e
  | b, o, x :: xs, ⟨⟨c, e, k, k2⟩, l⟩ => ⟨⟨c, h _ _ _ e, Pv.mono h x _ k, k2⟩, RoCs.mono h b (o + 1) xs l⟩
theorem RoEs.mono {rho rho' : Nat → Nat → Option Value} (h : Grows rho rho') : ∀ (z b o : Nat) (v : List (List V)), RoEs gam rho z b o v → RoEs gam rho' z b o v
  | _, _, _, [], e => e
  | z, b, o, x :: xs, ⟨e, k, l⟩ => ⟨e, RoCs.mono h b o x k, RoEs.mono h z b (o + z) xs l⟩
end

/-- What a cell holds, of which a place says so. -/
def Ck (g : Gh) (r : Nat) (p : Path) : V → Value → Prop
  | .box _, c => ∃ B, g.base r p = some B ∧ c = ptr B.b B.o
  | .own es _, c => ∃ B, g.base r p = some B ∧ c = slc B.b B.o es.length B.C
  | v, c => Pv gam g.rho v c ∧ ∀ s, v.kid s = none

def Fits : V → Base → Prop
  | .box cs, B => B.z = cs.length ∧ B.C = 1
  | .own es cap, B => es.length ≤ B.C ∧ (∀ c, cap = some c → B.C = c) ∧ ∀ e, e ∈ es → e.length = B.z
  | _, _ => True

def Lab (g : Gh) (r : Nat) (p : Path) (B : Base) : Prop := ∀ k, k < B.C * B.z → g.lam B.b (B.o + k) = some (r, p)

def Claim (g : Gh) (w : World) (r : Nat) (p : Path) (v : V) : Prop :=
  v.owner = true → ∃ B, g.base r p = some B ∧ Fits v B ∧ Lab g r p B ∧
    ∀ s x, v.kid s = some x → ∃ c, cellAt w B.b (B.o + s.1 * B.z + s.2) = some c ∧ Ck gam g r (p ++ [s]) x c

abbrev Roots := Nat → Option V
def rget (R : Roots) (r : Nat) (p : Path) : Option V := match R r with | some v => v.get p | none => none

structure Glob (g : Gh) (w : World) : Prop where
  cells : ∀ b k q, g.lam b k = some q → ∃ c, cellAt w b k = some c ∧ w.frozen? ⟨b, k, none⟩ = false
  sep : ∀ b k q, g.lam b k = some q → g.rho b k = none
  ro : ∀ b k c, g.rho b k = some c → cellAt w b k = some c

def Claims (g : Gh) (w : World) (R : Roots) : Prop := ∀ r p v, rget R r p = some v → Claim gam g w r p v

theorem kid_range {v : V} {s : Nat × Nat} {x : V} (h : v.kid s = some x) {B : Base} (hf : Fits v B) (ho : v.owner = true) : s.1 * B.z + s.2 < B.C * B.z := by
  obtain ⟨i, j⟩ := s
  cases v <;> simp [V.owner] at ho
  case box cs =>
    simp only [V.kid, beq_iff_eq] at h
    split at h
    · rename_i hi
      obtain ⟨h1, h2⟩ := hf
      have := (List.getElem?_eq_some_iff.1 h).1
      subst hi
      rw [h1, h2]; simpa using this
    · simp at h
  case own es cap =>
    simp only [V.kid] at h
    cases he : es[i]? with
    | none => simp [he] at h
    | some e =>
      simp only [he] at h
      obtain ⟨h1, _, h3⟩ := hf
      have hi := (List.getElem?_eq_some_iff.1 he).1
      have hj := (List.getElem?_eq_some_iff.1 h).1
      have hz := h3 e (List.mem_of_getElem? he)
      have : (i + 1) * B.z ≤ B.C * B.z := Nat.mul_le_mul_right _ (by omega)
      rw [Nat.add_mul] at this
      simp only
      omega

theorem setKid_owner (v : V) (s : Nat × Nat) (c : V) : (v.setKid s c).owner = v.owner := by
  obtain ⟨i, j⟩ := s
  cases v <;> simp only [V.setKid, V.owner]
  case own es cap => cases es[i]? <;> rfl

theorem Fits_setKid {v : V} {s : Nat × Nat} {c : V} {B : Base} (h : Fits v B) : Fits (v.setKid s c) B := by
  obtain ⟨i, j⟩ := s
  cases v <;> simp only [V.setKid, Fits] at h ⊢
  case box cs => simpa using h
  case own es cap =>
    cases he : es[i]? with
    | none => simpa using h
    | some e =>
      refine ⟨by simpa using h.1, h.2.1, ?_⟩
      intro e' he'
      rcases List.mem_or_eq_of_mem_set he' with hm | rfl
      · exact h.2.2 e' hm
      · simp; exact h.2.2 e (List.mem_of_getElem? he)

/-- A cell's claim hangs on an owner's outer form alone. -/
theorem Ck_setKid {g : Gh} {r : Nat} {p : Path} {v : V} {s : Nat × Nat} {c : V} {cv : Value} (ho : v.owner = true) (h : Ck gam g r p v cv) : Ck gam g r p (v.setKid s c) cv := by
  obtain ⟨i, j⟩ := s
  cases v <;> simp [V.owner] at ho
  case box cs => simpa [V.setKid, Ck] using h
  case own es cap =>
    simp only [V.setKid]
    cases he : es[i]? with
    | none => exact h
    | some e => simpa [Ck] using h

/-- Does a place lie at another one or below? -/
def At (r : Nat) (p : Path) (q : Nat × Path) : Prop := q.1 = r ∧ ∃ t, q.2 = p ++ t

/-- An owner lies at a place. -/
def Live (R : Roots) (q : Nat × Path) : Prop := ∃ u, rget R q.1 q.2 = some u ∧ u.owner = true

/-- The claims behind a change at one place: what the new thing claims, what the cell that holds it says, and that all other owners' cells, bases and labels stay. -/
theorem Claims.put {g g' : Gh} {w w' : World} {R R' : Roots} (hC : Claims gam g w R) {r : Nat} {p : Path} {x v v' : V}
    (hv : R r = some v) (hput : V.put x v p = some v') (hR' : ∀ r2, R' r2 = if r2 = r then some v' else R r2)
    (hx : ∀ q u, x.get q = some u → Claim gam g' w' r (p ++ q) u)
    (hnp : ∀ q u, v.get q = some u → u.owner = false → ∀ s x', u.kid s = some x' → ∀ t, p = q ++ s :: t → q = [])
    (hpar : ∀ q s u B, p = q ++ [s] → v.get q = some u → u.owner = true → g.base r q = some B → ∃ c, cellAt w' B.b (B.o + s.1 * B.z + s.2) = some c ∧ Ck gam g' r p x c)
    (hgrow : Grows g.rho g'.rho)
    (hbase : ∀ r2 q, Live R (r2, q) → ¬ At r p (r2, q) → g'.base r2 q = g.base r2 q)
    (hlam : ∀ b k q, g.lam b k = some q → Live R q → ¬ At r p q → g'.lam b k = some q)
    (hcell : ∀ b k q, g.lam b k = some q → Live R q → ¬ At r p q →
      (∀ q0 s u B, p = q0 ++ [s] → v.get q0 = some u → u.owner = true → g.base r q0 = some B → ¬ (b = B.b ∧ k = B.o + s.1 * B.z + s.2)) → cellAt w' b k = cellAt w b k) :
    Claims gam g' w' R' := by
  intro r2 q u hu ho
  -- an owner that is not at the place: its claim, with its kids' cells, but for the one that holds the place
  have keep : ∀ (r2 : Nat) (q : Path) (u : V), ¬ At r p (r2, q) → rget R r2 q = some u → u.owner = true →
      ∃ B, g'.base r2 q = some B ∧ g.base r2 q = some B ∧ Fits u B ∧ Lab g' r2 q B ∧ Lab g r2 q B ∧
        ∀ s x, u.kid s = some x → ¬ (r2 = r ∧ p = q ++ [s]) → ∃ c, cellAt w' B.b (B.o + s.1 * B.z + s.2) = some c ∧ Ck gam g r2 (q ++ [s]) x c := by
    intro r2 q u hna hu ho
    obtain ⟨B, hB, hf, hl, hk⟩ := hC r2 q u hu ho
    have hlv : Live R (r2, q) := ⟨u, hu, ho⟩
    refine ⟨B, by rw [hbase r2 q hlv hna]; exact hB, hB, hf, fun k hk => hlam _ _ _ (hl k hk) hlv hna, hl, ?_⟩
    intro s x hx' hne
    obtain ⟨c, hc, hck⟩ := hk s x hx'
    refine ⟨c, ?_, hck⟩
    have hr := kid_range hx' hf ho
    have hlab := hl (s.1 * B.z + s.2) hr
    rw [← Nat.add_assoc] at hlab
    rw [hcell _ _ _ hlab hlv hna ?_]
    · exact hc
    · intro q0 s0 u0 B0 hp0 hu0 ho0 hB0 ⟨e1, e2⟩
      have hC0 := hC r q0 u0 (by simp [rget, hv, hu0]) ho0
      obtain ⟨B1, hB1, hf1, hl1, hk1⟩ := hC0
      rw [hB0] at hB1
      cases hB1
      -- the place's own parent: its kid at s0 exists
      have hkid : ∃ y, u0.kid s0 = some y := by
        obtain ⟨z, hz⟩ := put_get_some hput
        rw [hp0, get_append, hu0] at hz
        simp only [get_cons] at hz
        cases hks : u0.kid s0 with
        | none => simp [hks] at hz
        | some y => exact ⟨y, rfl⟩
      obtain ⟨y, hy⟩ := hkid
      have hr1 := kid_range hy hf1 ho0
      have hlab1 := hl1 (s0.1 * B0.z + s0.2) hr1
      rw [← Nat.add_assoc, ← e1, ← e2, hlab] at hlab1
      simp only [Option.some.injEq, Prod.mk.injEq] at hlab1
      obtain ⟨rfl, rfl⟩ := hlab1
      rw [hB] at hB0
      cases hB0
      -- one owner, two kids at one offset: they are one
      have : s = s0 := by
        obtain ⟨i, j⟩ := s
        obtain ⟨i0, j0⟩ := s0
        have e3 : i * B.z + j = i0 * B.z + j0 := by simp only at e2; omega
        have hj : j < B.z := by
          clear hlab
          cases u <;> simp [V.owner] at ho
          case box cs => simp only [V.kid] at hx'; split at hx' <;> try (simp at hx'; done)
                         have := (List.getElem?_eq_some_iff.1 hx').1; rw [hf.1]; exact this
          case own es cap =>
            simp only [V.kid] at hx'
            cases he : es[i]? with
            | none => simp [he] at hx'
            | some e => simp only [he] at hx'; rw [← hf.2.2 e (List.mem_of_getElem? he)]; exact (List.getElem?_eq_some_iff.1 hx').1
        have hj0 : j0 < B.z := by
          cases u0 <;> simp [V.owner] at ho0
          case box cs => simp only [V.kid] at hy; split at hy <;> try (simp at hy; done)
                         have := (List.getElem?_eq_some_iff.1 hy).1; rw [hf1.1]; exact this
          case own es cap =>
            simp only [V.kid] at hy
            cases he : es[i0]? with
            | none => simp [he] at hy
            | some e => simp only [he] at hy; rw [← hf1.2.2 e (List.mem_of_getElem? he)]; exact (List.getElem?_eq_some_iff.1 hy).1
        have hz : 0 < B.z := by omega
        have h1 : i = i0 := by
          have a1 : (i * B.z + j) / B.z = i := by rw [Nat.add_comm, Nat.add_mul_div_right _ _ hz, Nat.div_eq_of_lt hj]; simp
          have a2 : (i0 * B.z + j0) / B.z = i0 := by rw [Nat.add_comm, Nat.add_mul_div_right _ _ hz, Nat.div_eq_of_lt hj0]; simp
          rw [← a1, e3, a2]
        subst h1
        have : j = j0 := by omega
        rw [this]
      exact hne ⟨rfl, by rw [hp0, this]⟩
  -- a kid's claim goes over, where its place is not the changed one nor below
  have kidok : ∀ (r2 : Nat) (q : Path) (x' : V) (c : Value), rget R r2 q = some x' → ¬ At r p (r2, q) → Ck gam g r2 q x' c → Ck gam g' r2 q x' c := by
    intro r2 q x' c hx' hna hck
    cases x' <;> simp only [Ck] at hck ⊢ <;> first
      | exact ⟨Pv.mono gam hgrow _ _ hck.1, hck.2⟩
      | (rw [hbase r2 q ⟨_, hx', rfl⟩ hna]; exact hck)
  have kidget : ∀ (r2 : Nat) (q : Path) (u : V) (s : Nat × Nat) (x' : V), rget R r2 q = some u → u.kid s = some x' → rget R r2 (q ++ [s]) = some x' := by
    intro r2 q u s x' hu hk
    unfold rget at hu ⊢
    cases hr : R r2 with
    | none => simp [hr] at hu
    | some v => simp only [hr] at hu ⊢; rw [get_append, hu]; simp [get_cons, hk, get_nil]
  by_cases hr : r2 = r
  · subst hr
    have hu' : v'.get q = some u := by simpa [rget, hR'] using hu
    cases lie p q with
    | below t h => subst h; rw [put_get_below hput] at hu'; exact hx t u hu' ho
    | apart c s t a b hp hq hne =>
      subst hp; subst hq
      have hna : ¬ At r2 (c ++ s :: a) (r2, c ++ t :: b) := by
        rintro ⟨_, z, hz⟩
        simp at hz
        exact hne hz.1.symm
      rw [put_get_apart hput hne] at hu'
      obtain ⟨B, h1, _, h2, h3, _, h4⟩ := keep r2 _ u hna (by simp [rget, hv, hu']) ho
      refine ⟨B, h1, h2, h3, fun s' x' hx' => ?_⟩
      have hne2 : ¬ (r2 = r2 ∧ c ++ s :: a = (c ++ t :: b) ++ [s']) := by
        rintro ⟨_, e⟩
        simp at e
        exact hne e.1
      obtain ⟨k, hk1, hk2⟩ := h4 s' x' hx' hne2
      refine ⟨k, hk1, kidok _ _ _ _ (kidget r2 _ u s' x' (by simp [rget, hv, hu']) hx') ?_ hk2⟩
      rintro ⟨_, z, hz⟩
      simp at hz
      exact hne hz.1.symm
    | above s t h =>
      subst h
      obtain ⟨u0, k, k', h1, h2, h3, h4⟩ := put_get_above hput
      rw [h4] at hu'
      cases hu'
      have ho0 : u0.owner = true := by rw [← setKid_owner u0 s k']; exact ho
      have hna : ¬ At r2 (q ++ s :: t) (r2, q) := by
        rintro ⟨_, z, hz⟩
        have := congrArg List.length hz
        simp at this
      obtain ⟨B, b1, b1', b2, b3, _, b4⟩ := keep r2 q u0 hna (by simp [rget, hv, h1]) ho0
      refine ⟨B, b1, Fits_setKid b2, b3, fun s' x' hx' => ?_⟩
      by_cases hs : s' = s
      · subst hs
        rw [kid_setKid_same h2] at hx'
        cases hx'
        cases t with
        | nil =>
          rw [put_nil] at h3
          cases h3
          exact hpar q s' u0 B (by simp) h1 ho0 b1'
        | cons t1 t2 =>
          have hne2 : ¬ (r2 = r2 ∧ q ++ s' :: t1 :: t2 = q ++ [s']) := by rintro ⟨_, e⟩; simp at e
          obtain ⟨c, hc1, hc2⟩ := b4 s' k h2 hne2
          refine ⟨c, hc1, ?_⟩
          rw [put_cons] at h3
          cases hkk : k.kid t1 with
          | none => simp [hkk] at h3
          | some kk =>
            simp only [hkk] at h3
            cases hpp : V.put x kk t2 with
            | none => simp [hpp] at h3
            | some kk' =>
              simp only [hpp, Option.some.injEq] at h3
              subst h3
              have hok : k.owner = true := by
                by_cases hh : k.owner = true
                · exact hh
                · have := hnp (q ++ [s']) k (by rw [get_append, h1]; simp [get_cons, h2, get_nil]) (by simpa using hh) t1 kk hkk t2 (by simp)
                  simp at this
              refine Ck_setKid gam hok (kidok _ _ _ _ (kidget r2 q u0 s' k (by simp [rget, hv, h1]) h2) ?_ hc2)
              rintro ⟨_, z, hz⟩
              have := congrArg List.length hz
              simp at this
      · rw [kid_setKid_ne h2 hs] at hx'
        have hne2 : ¬ (r2 = r2 ∧ q ++ s :: t = q ++ [s']) := by
          rintro ⟨_, e⟩
          simp at e
          exact hs e.1.symm
        obtain ⟨c, hc1, hc2⟩ := b4 s' x' hx' hne2
        refine ⟨c, hc1, kidok _ _ _ _ (kidget r2 q u0 s' x' (by simp [rget, hv, h1]) hx') ?_ hc2⟩
        rintro ⟨_, z, hz⟩
        simp at hz
        exact hs hz.1
  · have hu' : rget R r2 q = some u := by simpa [rget, hR', hr] using hu
    have hna : ∀ q', ¬ At r p (r2, q') := fun q' h => hr h.1
    obtain ⟨B, h1, _, h2, h3, _, h4⟩ := keep r2 q u (hna q) hu' ho
    refine ⟨B, h1, h2, h3, fun s x' hx' => ?_⟩
    obtain ⟨c, hc1, hc2⟩ := h4 s x' hx' (fun h => hr h.1)
    exact ⟨c, hc1, kidok _ _ _ _ (kidget r2 q u s x' hu' hx') (hna _) hc2⟩

end
end Go.Bv
/- What a frame's trees say of the run's slots; how names go along; what a piece of a run leaves as it was. -/
namespace Go.Bv
open Go

section
variable (gam : Nat → Option (Nat × Nat))

mutual
def Sv (g : Gh) : V → Value → Prop
  | .al r p i j, c => ∃ B, g.base r p = some B ∧ c = ptr B.b (B.o + i * B.z + j)
  | .als r p i j n z, c => ∃ B k, g.base r p = some B ∧ c = slc B.b (B.o + i * B.z + j) n k ∧ n ≤ k ∧ (z = 0 → j = 0 ∧ k + i = B.C)
  | .tup vs, c => ∃ cv, c = .tuple cv ∧ Svs g vs cv.toList
  | .agg vs, c => ∃ cv, c = .agg cv ∧ Svs g vs cv.toList
  | .fn f pre caps, c => ∃ p q, c = .func (.func f) p q ∧ Svs g pre p.toList ∧ Svs g caps q.toList
  | v, c => Pv gam g.rho v c
def Svs (g : Gh) : List V → List Value → Prop
  | [], cs => cs = []
  | x :: xs, cs => ∃ c cs', cs = c :: cs' ∧ Sv g x c ∧ Svs g xs cs'
end

mutual
theorem Sv.of_pv (g : Gh) : ∀ (v : V) (c : Value), Pv gam g.rho v c → Sv gam g v c
  | .any, _, e => e
  | .int _ _, _, e => e
  | .bool _, _, e => e
  | .str _, _, e => e
  | .sc _, _, e => e
  | .agg cs, _, ⟨cv, e, k⟩ => ⟨cv, e, Svs.of_pvs g cs _ k⟩
  | .tup cs, _, ⟨cv, e, k⟩ => ⟨cv, e, Svs.of_pvs g cs _ k⟩
  | .ifc _ _, _, e => e
  | .fn _ pre caps, _, ⟨p, q, e, k, l⟩ => ⟨p, q, e, Svs.of_pvs g pre _ k, Svs.of_pvs g caps _ l⟩
  | .ro _, _, e => e
  | .rop _ _, _, e => e
  | .gp _ _, _, e => e
  | .box _, _, e => e
  | .own _ _, _, e => e
  | .al .., _, e => e.elim
  | .als .., _, e => e.elim
theorem Svs.of_pvs (g : Gh) : ∀ (v : List V) (c : List Value), Pvs gam g.rho v c → Svs gam g v c
  | [], _, e => e
  | x :: xs, _, ⟨c, cs, e, k, l⟩ => ⟨c, cs, e, Sv.of_pv g x _ k, Svs.of_pvs g xs _ l⟩
end

/-- A change of ghosts that names survive: as 'act' turns them. -/
def Turns (g g' : Gh) (act : Nat → Path → Option (Nat × Path)) : Prop :=
  ∀ r p r' p' B, act r p = some (r', p') → g.base r p = some B → g'.base r' p' = some B

mutual
theorem Sv.sweep {g g' : Gh} {s : Step} (ht : Turns g g' s.act) (hg : Grows g.rho g'.rho) : ∀ (v : V) (c : Value), Sv gam g v c → Sv gam g' (v.sweep s) c
  | .al r p i j, c, ⟨B, hB, e⟩ => by
    simp only [V.sweep]
    cases h : s.act r p with
    | none => trivial
    | some q => obtain ⟨r', p'⟩ := q; exact ⟨B, ht _ _ _ _ _ h hB, e⟩
  | .als r p i j n z, c, ⟨B, k, hB, e⟩ => by
    simp only [V.sweep]
    cases h : s.act r p with
    | none => trivial
    | some q => obtain ⟨r', p'⟩ := q; exact ⟨B, k, ht _ _ _ _ _ h hB, e⟩
  | .tup vs, c, ⟨cv, e, k⟩ => by simp only [V.sweep]; exact ⟨cv, e, Svs.sweep ht hg vs _ k⟩
  | .agg vs, c, ⟨cv, e, k⟩ => by simp only [V.sweep]; exact ⟨cv, e, Svs.sweep ht hg vs _ k⟩
  | .fn f pre caps, c, ⟨p, q, e, k, l⟩ => by
    simp only [V.sweep]
    exact ⟨p, q, e, Svs.sweep ht hg pre _ k, Svs.sweep ht hg caps _ l⟩
  | .any, _, e => e
  | .int _ _, _, e => e
  | .bool _, _, e => e
  | .str _, _, e => e
  | .sc _, _, e => e
  | .ifc _ _, _, e => by simp only [V.sweep]; exact Pv.mono gam hg _ _ e
  | .ro _, _, e => by simp only [V.sweep]; exact Pv.mono gam hg _ _ e
  | .rop _ _, _, e => by simp only [V.sweep]; exact Pv.mono gam hg _ _ e
  | .gp _ _, _, e => e
  | .box _, _, e => e
  | .own _ _, _, e => e
theorem Svs.sweep {g g' : Gh} {s : Step} (ht : Turns g g' s.act) (hg : Grows g.rho g'.rho) : ∀ (v : List V) (c : List Value), Svs gam g v c → Svs gam g' (sweeps s v) c
  | [], _, e => e
  | x :: xs, _, ⟨c, cs, e, k, l⟩ => ⟨c, cs, e, Sv.sweep ht hg x _ k, Svs.sweep ht hg xs _ l⟩
end

/-- Names of places that stay. -/
theorem Sv.keep {g g' : Gh} (hg : Grows g.rho g'.rho) (hb : ∀ r p B, g.base r p = some B → g'.base r p = some B) {v : V} {c : Value} (h : Sv gam g v c) : Sv gam g' v c := by
  have key : ∀ v : V, v.sweep (.drop 0 []) = v.sweep (.drop 0 []) := fun _ => rfl
  clear key
  exact go hg hb v c h
where
  go {g g' : Gh} (hg : Grows g.rho g'.rho) (hb : ∀ r p B, g.base r p = some B → g'.base r p = some B) : ∀ (v : V) (c : Value), Sv gam g v c → Sv gam g' v c
  | .al r p i j, c, ⟨B, hB, e⟩ => ⟨B, hb _ _ _ hB, e⟩
  | .als r p i j n z, c, ⟨B, k, hB, e⟩ => ⟨B, k, hb _ _ _ hB, e⟩
  | .tup vs, c, ⟨cv, e, k⟩ => ⟨cv, e, gos hg hb vs _ k⟩
  | .agg vs, c, ⟨cv, e, k⟩ => ⟨cv, e, gos hg hb vs _ k⟩
  | .fn f pre caps, c, ⟨p, q, e, k, l⟩ => ⟨p, q, e, gos hg hb pre _ k, gos hg hb caps _ l⟩
  | .any, _, e => e
  | .int _ _, _, e => e
  | .bool _, _, e => e
  | .str _, _, e => e
  | .sc _, _, e => e
  | .ifc _ _, _, e => Pv.mono gam hg _ _ e
  | .ro _, _, e => Pv.mono gam hg _ _ e
  | .rop _ _, _, e => Pv.mono gam hg _ _ e
  | .gp _ _, _, e => e
  | .box _, _, e => e
  | .own _ _, _, e => e
  gos {g g' : Gh} (hg : Grows g.rho g'.rho) (hb : ∀ r p B, g.base r p = some B → g'.base r p = some B) : ∀ (v : List V) (c : List Value), Svs gam g v c → Svs gam g' v c
  | [], _, e => e
  | x :: xs, _, ⟨c, cs, e, k, l⟩ => ⟨c, cs, e, go hg hb x _ k, gos hg hb xs _ l⟩

theorem Svs.length {g : Gh} : ∀ {v : List V} {c : List Value}, Svs gam g v c → c.length = v.length
  | [], _, e => by rw [show _ = [] from e]; rfl
  | _ :: _, _, ⟨_, _, e, _, l⟩ => by rw [e]; simp [Svs.length l]

theorem Svs.get {g : Gh} : ∀ {v : List V} {c : List Value} {i : Nat} {x : V}, Svs gam g v c → v[i]? = some x → ∃ y, c[i]? = some y ∧ Sv gam g x y
  | _ :: _, _, 0, _, ⟨_, _, e, k, _⟩, h => by simp at h; subst h; exact ⟨_, by rw [e]; rfl, k⟩
  | _ :: _, _, _ + 1, _, ⟨_, _, e, _, l⟩, h => by
    simp at h
    obtain ⟨y, h1, h2⟩ := Svs.get l h
    exact ⟨y, by rw [e]; simpa using h1, h2⟩

theorem Svs.append {g : Gh} : ∀ {v u : List V} {c d : List Value}, Svs gam g v c → Svs gam g u d → Svs gam g (v ++ u) (c ++ d)
  | [], _, _, _, e, k => by rw [show _ = [] from e]; exact k
  | _ :: _, _, _, _, ⟨_, _, e, h, l⟩, k => by rw [e]; exact ⟨_, _, rfl, h, Svs.append l k⟩

theorem Svs.drop {g : Gh} : ∀ {v : List V} {c : List Value} (n : Nat), Svs gam g v c → Svs gam g (v.drop n) (c.drop n)
  | _, _, 0, h => by simpa using h
  | [], _, _ + 1, h => by rw [show _ = [] from h]; rfl
  | _ :: _, _, _ + 1, ⟨_, _, e, _, l⟩ => by rw [e]; simpa using Svs.drop _ l

theorem Svs.take {g : Gh} : ∀ {v : List V} {c : List Value} (n : Nat), Svs gam g v c → Svs gam g (v.take n) (c.take n)
  | _, _, 0, _ => by simp [Svs]
  | [], _, _ + 1, h => by rw [show _ = [] from h]; rfl
  | _ :: _, _, _ + 1, ⟨_, _, e, k, l⟩ => by rw [e]; exact ⟨_, _, by simp, k, Svs.take _ l⟩

/-- What a piece of a run leaves of memory. -/
def Kept (g0 : Gh) (b : Nat) (o o' : Option Obj) : Prop :=
  o' = o ∨ ∃ c t f c', o = some (.cells c t f) ∧ o' = some (.cells c' t f) ∧ c'.size = c.size ∧ ∀ k, g0.lam b k = none → c'[k]? = c[k]?

structure Fr (g0 g : Gh) (w0 w : World) : Prop where
  grow : Grows g0.rho g.rho
  os : w.os = w0.os
  tape : w.tape = w0.tape
  output : w.output = w0.output
  size : w0.heap.size ≤ w.heap.size
  lam : ∀ b k q, b < w0.heap.size → g.lam b k = some q → ∃ q0, g0.lam b k = some q0
  rho : ∀ b k c, b < w0.heap.size → g.rho b k = some c → g0.rho b k = some c ∨ ∃ q0, g0.lam b k = some q0
  kept : ∀ b, b < w0.heap.size → Kept g0 b w0.heap[b]? w.heap[b]?

theorem Kept.refl (g0 : Gh) (b : Nat) (o : Option Obj) : Kept g0 b o o := .inl rfl

theorem Fr.refl (g : Gh) (w : World) : Fr g g w w :=
  ⟨Grows.refl _, rfl, rfl, rfl, Nat.le_refl _, fun _ _ q _ h => ⟨q, h⟩, fun _ _ _ _ h => .inl h, fun _ _ => Kept.refl _ _ _⟩

theorem Kept.trans {g0 g1 : Gh} {b : Nat} {o o1 o2 : Option Obj} (hl : ∀ k q, g1.lam b k = some q → ∃ q0, g0.lam b k = some q0) (h : Kept g0 b o o1) (k : Kept g1 b o1 o2) : Kept g0 b o o2 := by
  have hn : ∀ j, g0.lam b j = none → g1.lam b j = none := by
    intro j hj
    cases h1 : g1.lam b j with
    | none => rfl
    | some q => obtain ⟨q0, h0⟩ := hl j q h1; rw [hj] at h0; cases h0
  rcases h with rfl | ⟨c, t, f, c', rfl, rfl, a3, a4⟩
  · rcases k with rfl | ⟨c1, t1, f1, c2, e, rfl, b3, b4⟩
    · exact .inl rfl
    · exact .inr ⟨c1, t1, f1, c2, e, rfl, b3, fun j hj => b4 j (hn j hj)⟩
  · rcases k with rfl | ⟨c1, t1, f1, c2, e, rfl, b3, b4⟩
    · exact .inr ⟨c, t, f, c', rfl, rfl, a3, a4⟩
    · cases e
      exact .inr ⟨c, t, f, c2, rfl, rfl, b3.trans a3, fun j hj => (b4 j (hn j hj)).trans (a4 j hj)⟩

theorem Fr.trans {g0 g1 g2 : Gh} {w0 w1 w2 : World} (h : Fr g0 g1 w0 w1) (k : Fr g1 g2 w1 w2) : Fr g0 g2 w0 w2 where
  grow := h.grow.trans k.grow
  os := k.os.trans h.os
  tape := k.tape.trans h.tape
  output := k.output.trans h.output
  size := Nat.le_trans h.size k.size
  lam b j q hb e := by
    obtain ⟨q1, h1⟩ := k.lam b j q (Nat.lt_of_lt_of_le hb h.size) e
    exact h.lam b j q1 hb h1
  rho b j c hb e := by
    rcases k.rho b j c (Nat.lt_of_lt_of_le hb h.size) e with h1 | ⟨q1, h1⟩
    · exact h.rho b j c hb h1
    · exact .inr (h.lam b j q1 hb h1)
  kept b hb := Kept.trans (fun j q e => h.lam b j q hb e) (h.kept b hb) (k.kept b (Nat.lt_of_lt_of_le hb h.size))

/-- What nobody owns is as it was. -/
theorem Fr.cell {g0 g : Gh} {w0 w : World} (h : Fr g0 g w0 w) {b k : Nat} (hb : b < w0.heap.size) (hl : g0.lam b k = none) : cellAt w b k = cellAt w0 b k := by
  rcases h.kept b hb with e | ⟨c, t, f, c', e, e', _, h4⟩
  · simp [cellAt, World.cell?, e]
  · simp [cellAt, World.cell?, e, e', h4 k hl]

theorem Fr.frozen {g0 g : Gh} {w0 w : World} (h : Fr g0 g w0 w) {b k : Nat} (hb : b < w0.heap.size) : w.frozen? ⟨b, k, none⟩ = w0.frozen? ⟨b, k, none⟩ := by
  rcases h.kept b hb with e | ⟨c, t, f, c', e, e', _, _⟩
  · simp [World.frozen?, e]
  · simp [World.frozen?, e, e']

theorem cell_lt {w : World} {b k : Nat} {c : Value} (h : cellAt w b k = some c) : b < w.heap.size := by
  simp only [cellAt, World.cell?] at h
  split at h
  · rename_i e; exact (Array.getElem?_eq_some_iff.1 e).1
  · simp at h

end
end Go.Bv
/- Owners that leave their places for other ones; what is forgotten. -/
namespace Go.Bv
open Go

def Leaf (x : V) : Prop := ∀ s, x.kid s = none

/-- Below a tree's top all that has parts owns. -/
def WFV (v : V) : Prop := ∀ q u s x, v.get q = some u → u.kid s = some x → x.owner = true ∨ Leaf x

def WFR (R : Roots) : Prop := ∀ r v, R r = some v → WFV v

theorem WFV.leaf {x : V} (h : Leaf x) : WFV x := by
  intro q u s y hu hk
  cases q with
  | nil => rw [get_nil] at hu; cases hu; rw [h s] at hk; cases hk
  | cons t q => rw [get_cons, h t] at hu; cases hu

theorem WFV.sub {v u : V} {p : Path} (h : WFV v) (hu : v.get p = some u) : WFV u := by
  intro q y s x hy hk
  exact h (p ++ q) y s x (by rw [get_append, hu]; exact hy) hk

theorem setKid_leaf {k : V} {t : Nat × Nat} {kk : V} (h : k.kid t = some kk) (c : V) : ¬ Leaf k := by
  intro hl; rw [hl t] at h; cases h

theorem WFV.put {v v' x : V} {p : Path} (h : WFV v) (hput : V.put x v p = some v') (hx : p = [] ∨ x.owner = true ∨ Leaf x) (hw : WFV x) : WFV v' := by
  intro q u s y hu hk
  cases lie p q with
  | below r hq => subst hq; rw [put_get_below hput] at hu; exact hw r u s y hu hk
  | apart c s1 t a b hp hq hne => subst hp; subst hq; rw [put_get_apart hput hne] at hu; exact h _ u s y hu hk
  | above s1 r hp =>
    subst hp
    obtain ⟨u0, k, k', h1, h2, h3, h4⟩ := put_get_above hput
    rw [h4] at hu
    cases hu
    by_cases hs : s = s1
    · subst hs
      rw [kid_setKid_same h2] at hk
      cases hk
      cases r with
      | nil =>
        rw [put_nil] at h3
        cases h3
        rcases hx with hx | hx
        · simp at hx
        · exact hx
      | cons t1 t2 =>
        rw [put_cons] at h3
        cases hkk : k.kid t1 with
        | none => simp [hkk] at h3
        | some kk =>
          simp only [hkk] at h3
          cases hpp : V.put x kk t2 with
          | none => simp [hpp] at h3
          | some kk' =>
            simp only [hpp, Option.some.injEq] at h3
            subst h3
            rcases h q u0 s k h1 h2 with ho | hl
            · left; rw [setKid_owner]; exact ho
            · exact (setKid_leaf hkk kk hl).elim
    · rw [kid_setKid_ne h2 hs] at hk
      exact h q u0 s y h1 hk

/-- The middle of a path to a part owns, but for the top. -/
theorem WFV.mid {v : V} (h : WFV v) {q : Path} {u : V} (hu : v.get q = some u) (ho : u.owner = false) {s : Nat × Nat} {x : V} (hk : u.kid s = some x) : q = [] := by
  rcases List.eq_nil_or_concat q with hq | ⟨q0, s0, hq⟩
  · exact hq
  · rw [List.concat_eq_append] at hq
    subst hq
    rw [get_append] at hu
    cases h0 : v.get q0 with
    | none => simp [h0] at hu
    | some u0 =>
      simp only [h0, get_cons] at hu
      cases hk0 : u0.kid s0 with
      | none => simp [hk0] at hu
      | some k0 =>
        simp only [hk0, get_nil, Option.some.injEq] at hu
        subst hu
        rcases h q0 u0 s0 _ h0 hk0 with h1 | h1
        · rw [ho] at h1; cases h1
        · rw [h1 s] at hk; cases hk

/-- Two places, neither of which lies at the other or below. -/
def Far (r : Nat) (p : Path) (r2 : Nat) (p2 : Path) : Prop := r ≠ r2 ∨ (∀ t, p2 ≠ p ++ t) ∧ (∀ t, p ≠ p2 ++ t)

/-- The ghost of a move. -/
def Gh.move (g : Gh) (r : Nat) (p : Path) (r2 : Nat) (p2 : Path) : Gh where
  rho := g.rho
  base x q := match (if x = r2 then behind p2 q else none) with
    | some t => g.base r (p ++ t)
    | none => match (if x = r then behind p q else none) with
      | some _ => none
      | none => g.base x q
  lam b k := match g.lam b k with
    | some (x, q) => match (if x = r then behind p q else none) with
      | some t => some (r2, p2 ++ t)
      | none => some (x, q)
    | none => none

theorem move_base_to (g : Gh) (r : Nat) (p : Path) (r2 : Nat) (p2 t : Path) : (g.move r p r2 p2).base r2 (p2 ++ t) = g.base r (p ++ t) := by
  simp [Gh.move, behind_append]

theorem move_base_other (g : Gh) {r : Nat} {p : Path} {r2 : Nat} {p2 : Path} {x : Nat} {q : Path} (h1 : ¬ At r2 p2 (x, q)) (h2 : ¬ At r p (x, q)) : (g.move r p r2 p2).base x q = g.base x q := by
  have e1 : (if x = r2 then behind p2 q else none) = none := by
    split
    · rename_i hx
      cases hb : behind p2 q with
      | none => rfl
      | some t => exact (h1 ⟨hx, t, behind_some hb⟩).elim
    · rfl
  have e2 : (if x = r then behind p q else none) = none := by
    split
    · rename_i hx
      cases hb : behind p q with
      | none => rfl
      | some t => exact (h2 ⟨hx, t, behind_some hb⟩).elim
    · rfl
  simp only [Gh.move, e1, e2]

theorem move_lam_to (g : Gh) {r : Nat} {p : Path} {r2 : Nat} {p2 : Path} {b k : Nat} {t : Path} (h : g.lam b k = some (r, p ++ t)) : (g.move r p r2 p2).lam b k = some (r2, p2 ++ t) := by
  simp [Gh.move, h, behind_append]

theorem move_lam_other (g : Gh) {r : Nat} {p : Path} {r2 : Nat} {p2 : Path} {b k : Nat} {q : Nat × Path} (h : g.lam b k = some q) (hn : ¬ At r p q) : (g.move r p r2 p2).lam b k = some q := by
  obtain ⟨x, q⟩ := q
  have e2 : (if x = r then behind p q else none) = none := by
    split
    · rename_i hx
      cases hb : behind p q with
      | none => rfl
      | some t => exact (hn ⟨hx, t, behind_some hb⟩).elim
    · rfl
  simp only [Gh.move, h, e2]

theorem move_lam_some (g : Gh) {r : Nat} {p : Path} {r2 : Nat} {p2 : Path} {b k : Nat} {q : Nat × Path} (h : (g.move r p r2 p2).lam b k = some q) : ∃ q0, g.lam b k = some q0 := by
  simp only [Gh.move] at h
  cases h0 : g.lam b k with
  | none => simp [h0] at h
  | some q0 => exact ⟨q0, rfl⟩

section
variable (gam : Nat → Option (Nat × Nat))

theorem Glob.move {g : Gh} {w : World} (h : Glob g w) (r : Nat) (p : Path) (r2 : Nat) (p2 : Path) : Glob (g.move r p r2 p2) w where
  cells b k q hq := by obtain ⟨q0, h0⟩ := move_lam_some g hq; exact h.cells b k q0 h0
  sep b k q hq := by obtain ⟨q0, h0⟩ := move_lam_some g hq; exact h.sep b k q0 h0
  ro := h.ro

theorem Fr.move (g : Gh) (w : World) (r : Nat) (p : Path) (r2 : Nat) (p2 : Path) : Fr g (g.move r p r2 p2) w w where
  grow := Grows.refl _
  os := rfl
  tape := rfl
  output := rfl
  size := Nat.le_refl _
  lam _ _ _ _ hq := move_lam_some g hq
  rho _ _ _ _ h := .inl h
  kept _ _ := Kept.refl _ _ _

/-- A thing that floats: its claims, as if it lay at a place. -/
def Float (g : Gh) (w : World) (r : Nat) (p : Path) (v : V) : Prop := ∀ q u, v.get q = some u → Claim gam g w r (p ++ q) u

theorem Ck.moved {g g' : Gh} (hr : g'.rho = g.rho) {r : Nat} {p : Path} {r2 : Nat} {p2 : Path} (hb : g'.base r2 p2 = g.base r p) {x : V} {c : Value} (h : Ck gam g r p x c) : Ck gam g' r2 p2 x c := by
  cases x <;> simp only [Ck, hr, hb] at h ⊢ <;> exact h

/-- An owner leaves: what stays makes its claims, and so does what floats. -/
theorem move_out {g : Gh} {w : World} {R R' : Roots} {r : Nat} {p : Path} {t t' x v : V} {r2 : Nat} {p2 : Path}
    (hC : Claims gam g w R) (hW : WFR R) (hR : R r = some t) (hv : t.get p = some v) (hput : V.put x t p = some t')
    (hx : Leaf x) (hxo : x.owner = false) (hxc : ∀ g' c, Ck gam g' r p x c ∨ p = []) (hR' : ∀ y, R' y = if y = r then some t' else R y)
    (hfree : ∀ q, Live R q → ¬ At r2 p2 q) (hfar : Far r p r2 p2) :
    Claims gam (g.move r p r2 p2) w R' ∧ Float gam (g.move r p r2 p2) w r2 p2 v := by
  constructor
  · refine Claims.put gam hC hR hput hR' ?_ ?_ ?_ (Grows.refl _) ?_ ?_ ?_
    · intro q u hu
      cases q with
      | nil => rw [get_nil] at hu; cases hu; intro ho; rw [hxo] at ho; cases ho
      | cons s q => rw [get_cons, hx s] at hu; cases hu
    · intro q u hu ho s x' hk _ _
      exact (hW r t hR).mid hu ho hk
    · intro q s u B hp hu ho hB
      obtain ⟨B1, hB1, _, _, hk⟩ := hC r q u (by simp [rget, hR, hu]) ho
      rw [hB] at hB1; cases hB1
      have hks : u.kid s = some v := by
        rw [hp, get_append, hu] at hv
        simp only [get_cons] at hv
        cases h : u.kid s with
        | none => simp [h] at hv
        | some y => simp only [h, get_nil] at hv; exact hv
      obtain ⟨c, hc, _⟩ := hk s v hks
      refine ⟨c, hc, ?_⟩
      rcases hxc (g.move r p r2 p2) c with h | h
      · exact h
      · rw [hp] at h; simp at h
    · intro x2 q hl hna
      exact move_base_other g (hfree _ hl) hna
    · intro b k q hq _ hna
      exact move_lam_other g hq hna
    · intro b k q _ _ _ _; rfl
  · intro q u hu ho
    have hu2 : rget R r (p ++ q) = some u := by simp [rget, hR, get_append, hv, hu]
    obtain ⟨B, hB, hf, hl, hk⟩ := hC r (p ++ q) u hu2 ho
    refine ⟨B, ?_, hf, fun k hk => move_lam_to g (hl k hk), fun s x hx => ?_⟩
    · rw [move_base_to]; exact hB
    · obtain ⟨c, hc, hck⟩ := hk s x hx
      refine ⟨c, hc, Ck.moved gam (g := g) (g' := g.move r p r2 p2) (r := r) (p := p ++ q ++ [s]) rfl ?_ hck⟩
      rw [List.append_assoc, move_base_to, List.append_assoc]

/-- Names go along with a move. -/
theorem turns_turn (g : Gh) {r : Nat} {p : Path} {r2 : Nat} {p2 : Path} (hfree : ∀ q, g.base r2 (p2 ++ q) = none) :
    Turns g (g.move r p r2 p2) (Step.turn r p r2 p2).act := by
  intro x q x' q' B ha hB
  simp only [Step.act, beq_iff_eq] at ha
  split at ha
  · rename_i hx
    subst hx
    cases hb : behind p q with
    | some t =>
      simp only [hb, Option.some.injEq, Prod.mk.injEq] at ha
      obtain ⟨rfl, rfl⟩ := ha
      rw [move_base_to, ← behind_some hb]; exact hB
    | none =>
      simp only [hb, Option.some.injEq, Prod.mk.injEq] at ha
      obtain ⟨rfl, rfl⟩ := ha
      rw [move_base_other]
      · exact hB
      · rintro ⟨h1, t, h2⟩
        simp only at h1 h2
        subst h1; subst h2
        rw [hfree] at hB; cases hB
      · rintro ⟨_, t, h2⟩
        exact behind_none hb t h2
  · rename_i hx
    simp only [Option.some.injEq, Prod.mk.injEq] at ha
    obtain ⟨rfl, rfl⟩ := ha
    rw [move_base_other]
    · exact hB
    · rintro ⟨h1, t, h2⟩
      simp only at h1 h2
      subst h1; subst h2
      rw [hfree] at hB; cases hB
    · rintro ⟨h1, _⟩
      exact hx h1

theorem turns_drop (g : Gh) {r : Nat} {p : Path} {r2 : Nat} {p2 : Path} (hfree : ∀ q, g.base r2 (p2 ++ q) = none) :
    Turns g (g.move r p r2 p2) (Step.drop r p).act := by
  intro x q x' q' B ha hB
  simp only [Step.act, beq_iff_eq] at ha
  have other : ∀ (hx : ¬ At r p (x, q)), (g.move r p r2 p2).base x q = some B := by
    intro hx
    rw [move_base_other]
    · exact hB
    · rintro ⟨h1, t, h2⟩
      simp only at h1 h2
      subst h1; subst h2
      rw [hfree] at hB; cases hB
    · exact hx
  split at ha
  · rename_i hx
    subst hx
    cases hb : behind p q with
    | some t => simp [hb] at ha
    | none =>
      simp only [hb, Option.some.injEq, Prod.mk.injEq] at ha
      obtain ⟨rfl, rfl⟩ := ha
      exact other (by rintro ⟨_, t, h2⟩; exact behind_none hb t h2)
  · rename_i hx
    simp only [Option.some.injEq, Prod.mk.injEq] at ha
    obtain ⟨rfl, rfl⟩ := ha
    exact other (by rintro ⟨h1, _⟩; exact hx h1)

end
end Go.Bv
/- Cells that are stored, things that are made, slices that are frozen. -/
namespace Go.Bv
open Go

section
variable (gam : Nat → Option (Nat × Nat))

theorem cell_set_same {w : World} {b k : Nat} {c u : Value} (h : cellAt w b k = some u) : cellAt (w.setCell ⟨b, k, none⟩ c) b k = some c :=
  World.cell?_setCell_same w _ c h

theorem cell_set_other {w : World} {b k b' k' : Nat} {c : Value} (h : ¬ (b' = b ∧ k' = k)) : cellAt (w.setCell ⟨b, k, none⟩ c) b' k' = cellAt w b' k' :=
  World.cell?_setCell_other w _ _ c (by intro e; simp at e; exact h ⟨e.1.symm, e.2.symm⟩)

theorem Glob.set {g : Gh} {w : World} (h : Glob g w) {b k : Nat} {q : Nat × Path} (hl : g.lam b k = some q) (c : Value) : Glob g (w.setCell ⟨b, k, none⟩ c) where
  cells b' k' q' hq := by
    obtain ⟨c', h1, h2⟩ := h.cells b' k' q' hq
    by_cases e : b' = b ∧ k' = k
    · obtain ⟨rfl, rfl⟩ := e
      exact ⟨c, cell_set_same h1, by rw [World.frozen?_setCell]; exact h2⟩
    · exact ⟨c', by rw [cell_set_other e]; exact h1, by rw [World.frozen?_setCell]; exact h2⟩
  sep := h.sep
  ro b' k' c' hr := by
    by_cases e : b' = b ∧ k' = k
    · obtain ⟨rfl, rfl⟩ := e
      rw [h.sep _ _ _ hl] at hr; cases hr
    · rw [cell_set_other e]; exact h.ro _ _ _ hr

theorem Fr.set {g : Gh} {w : World} {b k : Nat} {q : Nat × Path} (hl : g.lam b k = some q) (c : Value) : Fr g g w (w.setCell ⟨b, k, none⟩ c) where
  grow := Grows.refl _
  os := rfl
  tape := rfl
  output := rfl
  size := by simp [World.setCell]
  lam _ _ q _ h := ⟨q, h⟩
  rho _ _ _ _ h := .inl h
  kept b' _ := by
    by_cases e : b' = b
    · subst e
      simp only [World.setCell, Array.getElem?_modify, if_pos]
      cases hh : w.heap[b']? with
      | none => exact .inl rfl
      | some o =>
        cases o with
        | cells cs t f =>
          refine .inr ⟨cs, t, f, cs.setIfInBounds k c, rfl, by simp, by simp, fun j hj => ?_⟩
          have : j ≠ k := by rintro rfl; rw [hl] at hj; cases hj
          simp [Array.getElem?_setIfInBounds_ne (Ne.symm this)]
        | _ => exact .inl rfl
    · left
      simp only [World.setCell, Array.getElem?_modify]
      rw [if_neg (by omega)]

theorem kid_inj {u : V} {B : Base} (ho : u.owner = true) (hf : Fits u B) {s s0 : Nat × Nat} {x y : V} (h : u.kid s = some x) (h0 : u.kid s0 = some y)
    (e : s.1 * B.z + s.2 = s0.1 * B.z + s0.2) : s = s0 := by
  obtain ⟨i, j⟩ := s
  obtain ⟨i0, j0⟩ := s0
  have small : ∀ (i j : Nat) (x : V), u.kid (i, j) = some x → j < B.z := by
    intro i j x hx'
    cases u <;> simp [V.owner] at ho
    case box cs =>
      simp only [V.kid] at hx'
      split at hx' <;> try (simp at hx'; done)
      have := (List.getElem?_eq_some_iff.1 hx').1; rw [hf.1]; exact this
    case own es cap =>
      simp only [V.kid] at hx'
      cases he : es[i]? with
      | none => simp [he] at hx'
      | some e => simp only [he] at hx'; rw [← hf.2.2 e (List.mem_of_getElem? he)]; exact (List.getElem?_eq_some_iff.1 hx').1
  have hj := small _ _ _ h
  have hj0 := small _ _ _ h0
  simp only at e
  have hz : 0 < B.z := by omega
  have h1 : i = i0 := by
    have a1 : (i * B.z + j) / B.z = i := by rw [Nat.add_comm, Nat.add_mul_div_right _ _ hz, Nat.div_eq_of_lt hj]; simp
    have a2 : (i0 * B.z + j0) / B.z = i0 := by rw [Nat.add_comm, Nat.add_mul_div_right _ _ hz, Nat.div_eq_of_lt hj0]; simp
    rw [← a1, e, a2]
  subst h1
  have : j = j0 := by omega
  rw [this]

/-- A cell's new thing: pure, or an owner that floats there. -/
theorem store_at {g : Gh} {w : World} {R R' : Roots} {r : Nat} {q : Path} {s : Nat × Nat} {t t' u x old : V} {B : Base} {c : Value}
    (hC : Claims gam g w R) (hW : WFR R) (hG : Glob g w) (hR : R r = some t) (hu : t.get q = some u) (ho : u.owner = true) (hk : u.kid s = some old)
    (hB : g.base r q = some B) (hput : V.put x t (q ++ [s]) = some t') (hR' : ∀ y, R' y = if y = r then some t' else R y)
    (hx : Float gam g w r (q ++ [s]) x) (hck : Ck gam g r (q ++ [s]) x c) :
    Claims gam g (w.setCell ⟨B.b, B.o + s.1 * B.z + s.2, none⟩ c) R' ∧ Glob g (w.setCell ⟨B.b, B.o + s.1 * B.z + s.2, none⟩ c) ∧
      Fr g g w (w.setCell ⟨B.b, B.o + s.1 * B.z + s.2, none⟩ c) := by
  obtain ⟨B1, hB1, hf, hl, hks⟩ := hC r q u (by simp [rget, hR, hu]) ho
  rw [hB] at hB1; cases hB1
  have hlab : g.lam B.b (B.o + s.1 * B.z + s.2) = some (r, q) := by
    have := hl (s.1 * B.z + s.2) (kid_range hk hf ho)
    rwa [← Nat.add_assoc] at this
  obtain ⟨c0, hc0, _⟩ := hks s old hk
  refine ⟨?_, hG.set hlab c, Fr.set hlab c⟩
  refine Claims.put gam hC hR hput hR' ?_ ?_ ?_ (Grows.refl _) (fun _ _ _ _ => rfl) (fun _ _ _ h _ _ => h) ?_
  · intro q2 y hy hyo
    obtain ⟨B2, h1, h2, h3, h4⟩ := hx q2 y hy hyo
    refine ⟨B2, h1, h2, h3, fun s2 x2 hx2 => ?_⟩
    obtain ⟨c2, hc2, hck2⟩ := h4 s2 x2 hx2
    refine ⟨c2, ?_, hck2⟩
    rw [cell_set_other]
    · exact hc2
    · rintro ⟨e1, e2⟩
      have := h3 (s2.1 * B2.z + s2.2) (kid_range hx2 h2 hyo)
      rw [← Nat.add_assoc, e1, e2, hlab] at this
      simp at this
  · intro q2 y hy hyo s2 x2 hx2 _ _
    exact (hW r t hR).mid hy hyo hx2
  · intro q0 s0 u0 B0 hp hu0 ho0 hB0
    have : q0 = q ∧ s0 = s := by
      have := List.append_inj' hp rfl
      simp at this
      exact ⟨this.1.symm, this.2.symm⟩
    obtain ⟨rfl, rfl⟩ := this
    rw [hB] at hB0; cases hB0
    exact ⟨c, cell_set_same hc0, hck⟩
  · intro b k q2 hq2 _ _ hne
    rw [cell_set_other]
    rintro ⟨e1, e2⟩
    exact hne q s u B rfl hu ho hB ⟨e1, e2⟩

theorem Float.leaf {g : Gh} {w : World} {r : Nat} {p : Path} {x : V} (hl : Leaf x) (ho : x.owner = false) : Float gam g w r p x := by
  intro q u hu
  cases q with
  | nil => rw [get_nil] at hu; cases hu; intro h; rw [ho] at h; cases h
  | cons s q => rw [get_cons, hl s] at hu; cases hu

/-- An owner that floats is laid into a root. -/
theorem root_at {g : Gh} {w : World} {R R' : Roots} {d : Nat} {t x : V} (hC : Claims gam g w R) (hR : R d = some t) (hR' : ∀ y, R' y = if y = d then some x else R y)
    (hx : Float gam g w d [] x) : Claims gam g w R' := by
  refine Claims.put gam (x := x) (p := []) hC hR (put_nil x t) hR' (fun q u hu => hx q u hu) ?_ ?_ (Grows.refl _) (fun _ _ _ _ => rfl) (fun _ _ _ h _ _ => h) (fun _ _ _ _ _ _ _ => rfl)
  · intro q u _ _ s x' _ t' h; simp at h
  · intro q s u B h; simp at h

end
end Go.Bv
/- New memory; what is frozen; what an owner's change of length claims. -/
namespace Go.Bv
open Go

/-- A block more. -/
structure Adds (w w' : World) (cv : Array Value) (T : TypeId) (f : Nat × Nat) : Prop where
  os : w'.os = w.os
  tape : w'.tape = w.tape
  output : w'.output = w.output
  heap : w'.heap = w.heap.push (.cells cv T f)

theorem Adds.old {w w' : World} {cv : Array Value} {T : TypeId} {f : Nat × Nat} (h : Adds w w' cv T f) {b : Nat} (hb : b < w.heap.size) : w'.heap[b]? = w.heap[b]? := by
  rw [h.heap, Array.getElem?_push, if_neg (by omega)]

theorem Adds.cell {w w' : World} {cv : Array Value} {T : TypeId} {f : Nat × Nat} (h : Adds w w' cv T f) {b : Nat} (hb : b < w.heap.size) (k : Nat) : cellAt w' b k = cellAt w b k := by
  simp [cellAt, World.cell?, h.old hb]

theorem Adds.frozen {w w' : World} {cv : Array Value} {T : TypeId} {f : Nat × Nat} (h : Adds w w' cv T f) {b : Nat} (hb : b < w.heap.size) (k : Nat) : w'.frozen? ⟨b, k, none⟩ = w.frozen? ⟨b, k, none⟩ := by
  simp [World.frozen?, h.old hb]

theorem Adds.newCell {w w' : World} {cv : Array Value} {T : TypeId} {f : Nat × Nat} (h : Adds w w' cv T f) (k : Nat) : cellAt w' w.heap.size k = cv[k]? := by
  simp [cellAt, World.cell?, h.heap]

theorem Adds.newFrozen {w w' : World} {cv : Array Value} {T : TypeId} {f : Nat × Nat} (h : Adds w w' cv T f) (k : Nat) : w'.frozen? ⟨w.heap.size, k, none⟩ = (decide (f.1 ≤ k) && decide (k < f.2)) := by
  obtain ⟨lo, hi⟩ := f
  simp [World.frozen?, h.heap]

def Gh.new (g : Gh) (d : Nat) (B : Base) : Gh where
  rho := g.rho
  base x q := if x = d ∧ q = [] then some B else g.base x q
  lam b k := if b = B.b ∧ B.o ≤ k ∧ k < B.o + B.C * B.z then some (d, []) else g.lam b k

section
variable (gam : Nat → Option (Nat × Nat))

theorem Glob.new {g : Gh} {w w' : World} {cv : Array Value} {T : TypeId} {f : Nat × Nat} (h : Glob g w) (ha : Adds w w' cv T f) {d : Nat} {B : Base}
    (hb : B.b = w.heap.size) (hs : B.o + B.C * B.z ≤ cv.size) (hf : ∀ k, B.o ≤ k → k < B.o + B.C * B.z → ¬ (f.1 ≤ k ∧ k < f.2)) : Glob (g.new d B) w' where
  cells b k q hq := by
    simp only [Gh.new] at hq
    split at hq
    · rename_i hc
      obtain ⟨rfl, h1, h2⟩ := hc
      rw [hb]
      refine ⟨cv[k]'(by omega), by rw [ha.newCell]; simp, ?_⟩
      rw [ha.newFrozen]
      have := hf k h1 h2
      simpa using this
    · obtain ⟨c, h1, h2⟩ := h.cells b k q hq
      exact ⟨c, by rw [ha.cell (cell_lt h1)]; exact h1, by rw [ha.frozen (cell_lt h1)]; exact h2⟩
  sep b k q hq := by
    simp only [Gh.new] at hq
    split at hq
    · rename_i hc
      show g.rho b k = none
      cases hr : g.rho b k with
      | none => rfl
      | some c => have := cell_lt (h.ro b k c hr); omega
    · exact h.sep b k q hq
  ro b k c hr := by rw [ha.cell (cell_lt (h.ro b k c hr))]; exact h.ro b k c hr

theorem Fr.new {g : Gh} {w w' : World} {cv : Array Value} {T : TypeId} {f : Nat × Nat} (ha : Adds w w' cv T f) {d : Nat} {B : Base} (hb : B.b = w.heap.size) : Fr g (g.new d B) w w' where
  grow := Grows.refl _
  os := ha.os
  tape := ha.tape
  output := ha.output
  size := by rw [ha.heap]; simp
  lam b k q hlt hq := by
    simp only [Gh.new] at hq
    split at hq
    · omega
    · exact ⟨q, hq⟩
  rho _ _ _ _ h := .inl h
  kept b hlt := .inl (ha.old hlt)

theorem Ck.keep {g g' : Gh} (hg : Grows g.rho g'.rho) {r : Nat} {p : Path} (hb : ∀ B, g.base r p = some B → g'.base r p = some B) {x : V} {c : Value} (h : Ck gam g r p x c) : Ck gam g' r p x c := by
  cases x <;> simp only [Ck] at h ⊢ <;> first
    | exact ⟨Pv.mono gam hg _ _ h.1, h.2⟩
    | (obtain ⟨B, h1, h2⟩ := h; exact ⟨B, hb B h1, h2⟩)

/-- Claims over more memory. -/
theorem Claim.keep {g g' : Gh} {w w' : World} (hg : Grows g.rho g'.rho) {r : Nat} {p : Path} {v : V}
    (hb : ∀ q B, g.base r (p ++ q) = some B → g'.base r (p ++ q) = some B) (hl : ∀ b k q, g.lam b k = some (r, p ++ q) → g'.lam b k = some (r, p ++ q))
    (hc : ∀ b k q c, g.lam b k = some (r, p ++ q) → cellAt w b k = some c → cellAt w' b k = some c) (h : Claim gam g w r p v) : Claim gam g' w' r p v := by
  intro ho
  obtain ⟨B, h1, h2, h3, h4⟩ := h ho
  refine ⟨B, by have := hb [] B; simpa using this (by simpa using h1), h2, fun k hk => by have := hl B.b (B.o + k) []; simpa using this (by simpa using h3 k hk), fun s x hx => ?_⟩
  obtain ⟨c, hc1, hc2⟩ := h4 s x hx
  refine ⟨c, hc _ _ [] c ?_ hc1, Ck.keep gam hg (fun B hB => hb [s] B hB) hc2⟩
  have := h3 (s.1 * B.z + s.2) (kid_range hx h2 ho)
  rw [← Nat.add_assoc] at this
  simpa using this

theorem Float.keep {g g' : Gh} {w w' : World} (hg : Grows g.rho g'.rho) {r : Nat} {p : Path} {v : V}
    (hb : ∀ q B, g.base r (p ++ q) = some B → g'.base r (p ++ q) = some B) (hl : ∀ b k q, g.lam b k = some (r, p ++ q) → g'.lam b k = some (r, p ++ q))
    (hc : ∀ b k q c, g.lam b k = some (r, p ++ q) → cellAt w b k = some c → cellAt w' b k = some c) (h : Float gam g w r p v) : Float gam g' w' r p v := by
  intro q u hu
  refine Claim.keep gam hg (fun t B h => ?_) (fun b k t h => ?_) (fun b k t c h => ?_) (h q u hu)
  · rw [List.append_assoc] at h ⊢; exact hb _ _ h
  · rw [List.append_assoc] at h ⊢; exact hl _ _ _ h
  · rw [List.append_assoc] at h; exact hc _ _ _ c h

theorem Claims.keep {g g' : Gh} {w w' : World} {R : Roots} (hg : Grows g.rho g'.rho)
    (hb : ∀ r p B, Live R (r, p) → g.base r p = some B → g'.base r p = some B) (hl : ∀ b k q, Live R q → g.lam b k = some q → g'.lam b k = some q)
    (hc : ∀ b k q c, Live R q → g.lam b k = some q → cellAt w b k = some c → cellAt w' b k = some c) (h : Claims gam g w R) : Claims gam g' w' R := by
  intro r p v hv ho
  obtain ⟨B, h1, h2, h3, h4⟩ := h r p v hv ho
  have hlv : Live R (r, p) := ⟨v, hv, ho⟩
  refine ⟨B, hb _ _ _ hlv h1, h2, fun k hk => hl _ _ _ hlv (h3 k hk), fun s x hx => ?_⟩
  obtain ⟨c, hc1, hc2⟩ := h4 s x hx
  have hl2 := h3 (s.1 * B.z + s.2) (kid_range hx h2 ho)
  rw [← Nat.add_assoc] at hl2
  refine ⟨c, hc _ _ _ c hlv hl2 hc1, ?_⟩
  have hkid : rget R r (p ++ [s]) = some x := by
    unfold rget at hv ⊢
    cases hr : R r with
    | none => simp [hr] at hv
    | some t => simp only [hr] at hv ⊢; rw [get_append, hv]; simp [get_cons, hx, get_nil]
  cases x <;> simp only [Ck] at hc2 ⊢ <;> first
    | exact ⟨Pv.mono gam hg _ _ hc2.1, hc2.2⟩
    | (obtain ⟨B', h5, h6⟩ := hc2; exact ⟨B', hb _ _ _ ⟨_, hkid, rfl⟩ h5, h6⟩)

/-- What stays claimed where a block is added for a root that nobody has. -/
theorem Claims.new {g : Gh} {w w' : World} {R : Roots} {cv : Array Value} {T : TypeId} {f : Nat × Nat} (h : Claims gam g w R) (hG : Glob g w) (ha : Adds w w' cv T f) {d : Nat} {B : Base}
    (hb : B.b = w.heap.size) (hd : ¬ Live R (d, [])) : Claims gam (g.new d B) w' R := by
  refine Claims.keep gam (g := g) (g' := g.new d B) (Grows.refl _) ?_ ?_ ?_ h
  · intro r p B' hl hB
    simp only [Gh.new]
    rw [if_neg]
    · exact hB
    · rintro ⟨rfl, rfl⟩; exact hd hl
  · intro b k q _ hq
    simp only [Gh.new]
    rw [if_neg]
    · exact hq
    · rintro ⟨e, _⟩
      obtain ⟨c, hc, _⟩ := hG.cells b k q hq
      have := cell_lt hc
      omega
  · intro b k q c _ _ hc
    rw [ha.cell (cell_lt hc)]; exact hc

/-- What floats at a step of the new root goes along. -/
theorem Float.new {g : Gh} {w w' : World} {cv : Array Value} {T : TypeId} {f : Nat × Nat} (hG : Glob g w) (ha : Adds w w' cv T f) {d : Nat} {B : Base} (hb : B.b = w.heap.size)
    {r : Nat} {p : Path} {v : V} (hne : r ≠ d ∨ p ≠ []) (h : Float gam g w r p v) : Float gam (g.new d B) w' r p v := by
  refine Float.keep gam (g := g) (g' := g.new d B) (Grows.refl _) ?_ ?_ ?_ h
  · intro q B' hB
    simp only [Gh.new]
    rw [if_neg]
    · exact hB
    · rintro ⟨h1, h2⟩
      rcases hne with h3 | h3
      · exact h3 h1
      · simp at h2; exact h3 h2.1
  · intro b k q hq
    simp only [Gh.new]
    rw [if_neg]
    · exact hq
    · rintro ⟨e, _⟩
      obtain ⟨c, hc, _⟩ := hG.cells b k _ hq
      have := cell_lt hc
      omega
  · intro b k q c _ hc
    rw [ha.cell (cell_lt hc)]; exact hc

/-- The new owner itself. -/
theorem new_owner {g : Gh} {w w' : World} {cv : Array Value} {T : TypeId} {f : Nat × Nat} (hG : Glob g w) (ha : Adds w w' cv T f) {d : Nat} {B : Base}
    (hb : B.b = w.heap.size) {v : V} (hf : Fits v B)
    (hk : ∀ s x, v.kid s = some x → Float gam g w d [s] x ∧ ∃ c, cv[B.o + s.1 * B.z + s.2]? = some c ∧ Ck gam g d [s] x c) : Float gam (g.new d B) w' d [] v := by
  intro q u hu
  cases q with
  | nil =>
    rw [get_nil] at hu
    cases hu
    intro ho
    refine ⟨B, by simp [Gh.new], hf, fun k hk => by simp [Gh.new]; omega, fun s x hx => ?_⟩
    obtain ⟨_, c, h1, h2⟩ := hk s x hx
    refine ⟨c, ?_, Ck.keep gam (g := g) (g' := g.new d B) (Grows.refl _) (fun B' hB => ?_) h2⟩
    · rw [hb, ha.newCell]; exact h1
    · simp [Gh.new]; exact hB
  | cons s q =>
    rw [get_cons] at hu
    cases h : v.kid s with
    | none => simp [h] at hu
    | some x =>
      simp only [h] at hu
      exact Float.new gam hG ha hb (.inr (by simp)) (hk s x h).1 q u hu

/-- Names, where a block is added for a root that nobody names. -/
theorem turns_new (g : Gh) {d : Nat} {B : Base} (hd : g.base d [] = none) : ∀ r p B', g.base r p = some B' → (g.new d B).base r p = some B' := by
  intro r p B' h
  simp only [Gh.new]
  rw [if_neg]
  · exact h
  · rintro ⟨rfl, rfl⟩; rw [hd] at h; cases h

/-- A root is made free. -/
def Gh.free (g : Gh) (d : Nat) : Gh where
  rho := g.rho
  base x q := if x = d then none else g.base x q
  lam := g.lam

theorem Fr.free (g : Gh) (w : World) (d : Nat) : Fr g (g.free d) w w where
  grow := Grows.refl _
  os := rfl
  tape := rfl
  output := rfl
  size := Nat.le_refl _
  lam _ _ q _ h := ⟨q, h⟩
  rho _ _ _ _ h := .inl h
  kept _ _ := Kept.refl _ _ _

theorem Claims.free {g : Gh} {w : World} {R R' : Roots} {d : Nat} (h : Claims gam g w R) (hR' : ∀ y, R' y = if y = d then (if (R d).isSome then some .any else none) else R y) : Claims gam (g.free d) w R' := by
  intro r p v hv ho
  by_cases hr : r = d
  · subst hr
    simp only [rget, hR', if_pos] at hv
    cases hd : R r with
    | none => simp [hd] at hv
    | some t =>
      simp only [hd, Option.isSome_some, if_true] at hv
      cases p with
      | nil => rw [get_nil] at hv; cases hv; cases ho
      | cons s p => rw [get_cons] at hv; simp [V.kid] at hv
  · have hv' : rget R r p = some v := by simpa [rget, hR', hr] using hv
    obtain ⟨B, h1, h2, h3, h4⟩ := h r p v hv' ho
    refine ⟨B, by simp [Gh.free, hr, h1], h2, h3, fun s x hx => ?_⟩
    obtain ⟨c, hc1, hc2⟩ := h4 s x hx
    exact ⟨c, hc1, Ck.keep gam (g := g) (g' := g.free d) (Grows.refl _) (fun B' hB => by simp [Gh.free, hr, hB]) hc2⟩

theorem turns_free (g : Gh) (d : Nat) : Turns g (g.free d) (Step.drop d []).act := by
  intro r p r' p' B ha hB
  simp only [Step.act, beq_iff_eq] at ha
  split at ha
  · simp [behind] at ha
  · rename_i hr
    simp only [Option.some.injEq, Prod.mk.injEq] at ha
    obtain ⟨rfl, rfl⟩ := ha
    simp [Gh.free, hr, hB]

end
end Go.Bv
/- Slices that are frozen; owners whose extent is told anew. -/
namespace Go.Bv
open Go

section
variable (gam : Nat → Option (Nat × Nat))

theorem RoCs.intro {rho : Nat → Nat → Option Value} {b : Nat} : ∀ {e : List V} {o : Nat}, (∀ j x, e[j]? = some x → ∃ c, rho b (o + j) = some c ∧ Pv gam rho x c ∧ Leaf x) → RoCs gam rho b o e
  | [], _, _ => trivial
  | x :: e, o, h => ⟨h 0 x rfl, RoCs.intro fun j y hy => by have := h (j + 1) y (by simpa using hy); rwa [show o + (j + 1) = o + 1 + j by omega] at this⟩

theorem RoEs.intro {rho : Nat → Nat → Option Value} {z b : Nat} : ∀ {es : List (List V)} {o : Nat}, (∀ e, e ∈ es → e.length = z) →
    (∀ i e j x, es[i]? = some e → e[j]? = some x → ∃ c, rho b (o + i * z + j) = some c ∧ Pv gam rho x c ∧ Leaf x) → RoEs gam rho z b o es
  | [], _, _, _ => trivial
  | e :: es, o, hz, h => ⟨hz e (by simp), RoCs.intro gam fun j x hx => by have := h 0 e j x rfl hx; simpa using this,
      RoEs.intro (fun e' he => hz e' (by simp [he])) fun i e' j x he hx => by
        have := h (i + 1) e' j x (by simpa using he) hx
        rwa [show o + (i + 1) * z + j = o + z + i * z + j by rw [Nat.add_mul]; omega] at this⟩

theorem RoCs.elim {rho : Nat → Nat → Option Value} {b : Nat} : ∀ {e : List V} {o : Nat}, RoCs gam rho b o e → ∀ j x, e[j]? = some x → ∃ c, rho b (o + j) = some c ∧ Pv gam rho x c ∧ Leaf x
  | _ :: _, _, ⟨⟨c, h1, h2⟩, _⟩, 0, _, hx => by simp at hx; subst hx; exact ⟨c, by simpa using h1, h2⟩
  | _ :: _, o, ⟨_, h⟩, j + 1, x, hx => by
    obtain ⟨c, h1, h2⟩ := RoCs.elim h j x (by simpa using hx)
    exact ⟨c, by rwa [show o + (j + 1) = o + 1 + j by omega], h2⟩

theorem RoEs.elim {rho : Nat → Nat → Option Value} {z b : Nat} : ∀ {es : List (List V)} {o : Nat}, RoEs gam rho z b o es → ∀ i e, es[i]? = some e → e.length = z ∧ RoCs gam rho b (o + i * z) e
  | _ :: _, _, ⟨h1, h2, _⟩, 0, _, he => by simp at he; subst he; exact ⟨h1, by simpa using h2⟩
  | _ :: _, o, ⟨_, _, h⟩, i + 1, e, he => by
    obtain ⟨h1, h2⟩ := RoEs.elim h i e (by simpa using he)
    exact ⟨h1, by rwa [show o + (i + 1) * z = o + z + i * z by rw [Nat.add_mul]; omega]⟩

open Classical in
noncomputable def Gh.freeze (g : Gh) (w : World) (r : Nat) (p : Path) : Gh where
  rho b k := if g.lam b k = some (r, p) then cellAt w b k else g.rho b k
  base x q := if At r p (x, q) then none else g.base x q
  lam b k := if g.lam b k = some (r, p) then none else g.lam b k

theorem Grows.freeze {g : Gh} {w : World} (hG : Glob g w) (r : Nat) (p : Path) : Grows g.rho (g.freeze w r p).rho := by
  intro b k c h
  simp only [Gh.freeze]
  split
  · rename_i hl; rw [hG.sep b k _ hl] at h; cases h
  · exact h

theorem Glob.freeze {g : Gh} {w : World} (hG : Glob g w) (r : Nat) (p : Path) : Glob (g.freeze w r p) w where
  cells b k q hq := by
    simp only [Gh.freeze] at hq
    split at hq
    · cases hq
    · exact hG.cells b k q hq
  sep b k q hq := by
    simp only [Gh.freeze] at hq ⊢
    split at hq
    · cases hq
    · rename_i h; rw [if_neg h]; exact hG.sep b k q hq
  ro b k c h := by
    simp only [Gh.freeze] at h
    split at h
    · exact h
    · exact hG.ro b k c h

theorem Fr.freeze {g : Gh} {w : World} (hG : Glob g w) (r : Nat) (p : Path) : Fr g (g.freeze w r p) w w where
  grow := Grows.freeze hG r p
  os := rfl
  tape := rfl
  output := rfl
  size := Nat.le_refl _
  lam b k q _ h := by
    simp only [Gh.freeze] at h
    split at h
    · cases h
    · exact ⟨q, h⟩
  rho b k c _ h := by
    simp only [Gh.freeze] at h
    split at h
    · rename_i hl; exact .inr ⟨_, hl⟩
    · exact .inl h
  kept _ _ := Kept.refl _ _ _

theorem turns_freeze (g : Gh) (w : World) (r : Nat) (p : Path) : Turns g (g.freeze w r p) (Step.drop r p).act := by
  intro x q x' q' B ha hB
  have key : ¬ At r p (x, q) → (g.freeze w r p).base x q = some B := fun h => by simp only [Gh.freeze, if_neg h]; exact hB
  simp only [Step.act, beq_iff_eq] at ha
  split at ha
  · rename_i hx
    subst hx
    cases hb : behind p q with
    | some t => simp [hb] at ha
    | none =>
      simp only [hb, Option.some.injEq, Prod.mk.injEq] at ha
      obtain ⟨rfl, rfl⟩ := ha
      exact key (by rintro ⟨_, t, h2⟩; exact behind_none hb t h2)
  · rename_i hx
    simp only [Option.some.injEq, Prod.mk.injEq] at ha
    obtain ⟨rfl, rfl⟩ := ha
    exact key (by rintro ⟨h1, _⟩; exact hx h1)

theorem ro_leaf (es : List (List V)) : Leaf (.ro es) := fun s => by obtain ⟨i, j⟩ := s; rfl

theorem freeze_at {g : Gh} {w : World} {R R' : Roots} {r : Nat} {p : Path} {t t' : V} {es : List (List V)} {cap : Option Nat} {B : Base}
    (hC : Claims gam g w R) (hW : WFR R) (hG : Glob g w) (hR : R r = some t) (hv : t.get p = some (.own es cap)) (hB : g.base r p = some B)
    (hpure : ∀ e, e ∈ es → ∀ x, x ∈ e → x.owner = false) (hput : V.put (.ro es) t p = some t') (hR' : ∀ y, R' y = if y = r then some t' else R y) :
    Claims gam (g.freeze w r p) w R' ∧
      ∀ i n, i + n ≤ es.length → ∀ k, n ≤ k → Pv gam (g.freeze w r p).rho (.ro ((es.drop i).take n)) (slc B.b (B.o + i * B.z) n k) := by
  obtain ⟨B1, hB1, hf, hl, hk⟩ := hC r p (.own es cap) (by simp [rget, hR, hv]) rfl
  rw [hB] at hB1; cases hB1
  obtain ⟨f1, f2, f3⟩ := hf
  have cells : ∀ i e j x, es[i]? = some e → e[j]? = some x → ∃ c, (g.freeze w r p).rho B.b (B.o + i * B.z + j) = some c ∧ Pv gam (g.freeze w r p).rho x c ∧ Leaf x := by
    intro i e j x he hx
    have hkid : (V.own es cap).kid (i, j) = some x := by simp [V.kid, he, hx]
    obtain ⟨c, h1, h2⟩ := hk (i, j) x hkid
    have hlab := hl (i * B.z + j) (kid_range (v := .own es cap) hkid ⟨f1, f2, f3⟩ rfl)
    rw [← Nat.add_assoc] at hlab
    refine ⟨c, by simp only [Gh.freeze, if_pos hlab]; exact h1, ?_⟩
    have hxo := hpure e (List.mem_of_getElem? he) x (List.mem_of_getElem? hx)
    have h3 : Pv gam g.rho x c ∧ Leaf x := by
      cases x <;> simp [V.owner] at hxo <;> exact h2
    exact ⟨Pv.mono gam (Grows.freeze hG r p) _ _ h3.1, h3.2⟩
  have sub : ∀ i n, i + n ≤ es.length → ∀ k, n ≤ k → Pv gam (g.freeze w r p).rho (.ro ((es.drop i).take n)) (slc B.b (B.o + i * B.z) n k) := by
    intro i n hin k hnk
    have hlen : ((es.drop i).take n).length = n := by simp; omega
    refine ⟨some ⟨B.b, B.o + i * B.z, none⟩, B.b, B.o + i * B.z, B.z, k, by rw [hlen]; rfl, by rw [hlen]; exact hnk, .inr rfl, RoEs.intro gam (fun e he => f3 e (List.mem_of_mem_drop (List.mem_of_mem_take he))) ?_⟩
    intro a e j x he hx
    have he' : es[i + a]? = some e := by
      rw [List.getElem?_take] at he
      split at he
      · rwa [List.getElem?_drop] at he
      · cases he
    obtain ⟨c, h1, h2⟩ := cells (i + a) e j x he' hx
    exact ⟨c, by rwa [show B.o + i * B.z + a * B.z + j = B.o + (i + a) * B.z + j by rw [Nat.add_mul]; omega], h2⟩
  refine ⟨?_, sub⟩
  refine Claims.put gam hC hR hput hR' ?_ ?_ ?_ (Grows.freeze hG r p) ?_ ?_ ?_
  · intro q u hu
    exact Float.leaf gam (ro_leaf es) rfl q u hu
  · intro q u hu ho s x' hk' _ _
    exact (hW r t hR).mid hu ho hk'
  · intro q s u B2 hp hu ho hB2
    obtain ⟨B3, hB3, g1, g2, g3⟩ := hC r q u (by simp [rget, hR, hu]) ho
    rw [hB2] at hB3; cases hB3
    have hks : u.kid s = some (.own es cap) := by
      rw [hp, get_append, hu] at hv
      simp only [get_cons] at hv
      cases h : u.kid s with
      | none => simp [h] at hv
      | some y => simp only [h, get_nil] at hv; exact hv
    obtain ⟨c, hc, hck⟩ := g3 s _ hks
    refine ⟨c, hc, ?_⟩
    rw [← hp] at hck
    obtain ⟨B4, h4, h5⟩ := hck
    rw [hB] at h4; cases h4
    refine ⟨?_, ro_leaf es⟩
    rw [h5]
    have := sub 0 es.length (by omega) B.C f1
    simpa using this
  · intro x q hlv hna
    simp only [Gh.freeze, if_neg hna]
  · intro b k q hq _ hna
    simp only [Gh.freeze]
    rw [if_neg]
    · exact hq
    · intro h
      rw [hq] at h
      cases h
      exact hna ⟨rfl, [], by simp⟩
  · intro b k q _ _ _ _; rfl

theorem float_intro {g : Gh} {w : World} {d : Nat} {p : Path} {v : V} {B : Base} (hB : g.base d p = some B) (hf : Fits v B) (hl : Lab g d p B)
    (hk : ∀ s x, v.kid s = some x → Float gam g w d (p ++ [s]) x ∧ ∃ c, cellAt w B.b (B.o + s.1 * B.z + s.2) = some c ∧ Ck gam g d (p ++ [s]) x c) : Float gam g w d p v := by
  intro q u hu
  cases q with
  | nil =>
    rw [get_nil] at hu
    cases hu
    intro _
    exact ⟨B, by simpa using hB, hf, by simpa using hl, fun s x hx => by simpa using (hk s x hx).2⟩
  | cons s q =>
    rw [get_cons] at hu
    cases h : v.kid s with
    | none => simp [h] at hu
    | some x =>
      simp only [h] at hu
      have := (hk s x h).1 q u hu
      rwa [List.append_assoc] at this

/-- What floats, part by part. -/
theorem Float.kid {g : Gh} {w : World} {d : Nat} {p : Path} {v : V} (h : Float gam g w d p v) {s : Nat × Nat} {x : V} (hx : v.kid s = some x) : Float gam g w d (p ++ [s]) x := by
  intro q u hu
  have := h (s :: q) u (by rw [get_cons, hx]; exact hu)
  rwa [List.append_assoc]

end
end Go.Bv
/- What an operation's own view of a frame says of memory, and how it goes on from step to step. -/
namespace Go.Bv
open Go

def over (R : Roots) (rs : List (Nat × V)) : Roots := fun r => match look rs r with | some v => some v | none => R r

theorem look_lay {rs : List (Nat × V)} {r : Nat} {x t : V} (h : look rs r = some t) (y : Nat) : look (lay x rs r) y = if y = r then some x else look rs y := by
  induction rs with
  | nil => simp [look] at h
  | cons a rs ih =>
    obtain ⟨r0, v0⟩ := a
    simp only [look, lay, beq_iff_eq] at h ⊢
    by_cases e : r0 = r
    · subst e
      simp only [if_true, look, beq_iff_eq]
      by_cases e2 : r0 = y
      · subst e2; simp
      · simp [e2, Ne.symm e2]
    · simp only [if_neg e] at h ⊢
      simp only [look, beq_iff_eq]
      by_cases e2 : r0 = y
      · subst e2; simp [e]
      · simp only [if_neg e2]; exact ih h

theorem over_lay {R : Roots} {rs : List (Nat × V)} {r : Nat} {x t : V} (h : look rs r = some t) (y : Nat) : over R (lay x rs r) y = if y = r then some x else over R rs y := by
  simp only [over, look_lay h]
  by_cases e : y = r <;> simp [e]

theorem over_look {R : Roots} {rs : List (Nat × V)} {r : Nat} {t : V} (h : look rs r = some t) : over R rs r = some t := by simp [over, h]

theorem M.get_look {m : M} {r : Nat} {p : Path} {v : V} (h : m.get r p = some v) : ∃ t, look m.rs r = some t ∧ t.get p = some v := by
  unfold M.get at h
  cases hl : look m.rs r with
  | none => simp [hl] at h
  | some t => simp only [hl] at h; exact ⟨t, rfl, h⟩

theorem M.put_look {m m' : M} {r : Nat} {p : Path} {x : V} (h : m.put r p x = some m') : ∃ t t', look m.rs r = some t ∧ V.put x t p = some t' ∧ m' = { m with rs := lay t' m.rs r } := by
  unfold M.put at h
  cases hl : look m.rs r with
  | none => simp [hl] at h
  | some t =>
    simp only [hl] at h
    cases hp : V.put x t p with
    | none => simp [hp] at h
    | some t' => simp only [hp, Option.some.injEq] at h; exact ⟨t, t', rfl, hp, h.symm⟩

theorem sweeps_map (s : Step) (vs : List V) : sweeps s vs = vs.map (·.sweep s) := by
  induction vs with
  | nil => rfl
  | cons v vs ih => simp [sweeps, ih]

theorem sweepAll_map (l : List Step) (vs : List V) : sweepAll l vs = vs.map (sweepV l) := by
  induction l generalizing vs with
  | nil => rw [show sweepV [] = id from rfl]; simp [sweepAll]
  | cons s l ih => simp only [sweepAll, ih, sweeps_map, List.map_map]; rfl

theorem sweepV_append (l k : List Step) (v : V) : sweepV (l ++ k) v = sweepV k (sweepV l v) := by simp [sweepV]

/-- A place at which something has been laid anew, or that lies below. -/
def Under (dy : List (Nat × Path)) (r : Nat) (p : Path) : Prop := ∃ q t, (r, q) ∈ dy ∧ p = q ++ t

section
variable (gam : Nat → Option (Nat × Nat))

structure MS (g : Gh) (w : World) (R : Roots) (m : M) (cs : List Value) : Prop where
  vs : Svs gam g m.vs cs
  cl : Claims gam g w (over R m.rs)
  wf : WFR (over R m.rs)
  gl : Glob g w

/-- From one view to the next one. -/
structure MT (g : Gh) (w : World) (m : M) (g' : Gh) (w' : World) (m' : M) : Prop where
  fr : Fr g g' w w'
  nm : ∃ l, m'.lg = m.lg ++ l ∧ ∀ v c, Sv gam g v c → Sv gam g' (sweepV l v) c
  n : m'.n = m.n
  ks : ∀ r, (look m'.rs r).isSome = (look m.rs r).isSome
  dy : ∀ x, x ∈ m.dy → x ∈ m'.dy
  kb : ∀ r p B, m.n ≤ r → g.base r p = some B → Under m'.dy r p ∨ g'.base r p = some B

theorem MT.refl (g : Gh) (w : World) (m : M) : MT gam g w m g w m :=
  ⟨Fr.refl g w, ⟨[], by simp, fun _ _ h => h⟩, rfl, fun _ => rfl, fun _ h => h, fun _ _ _ _ h => .inr h⟩

theorem MT.trans {g g1 g2 : Gh} {w w1 w2 : World} {m m1 m2 : M} (h : MT gam g w m g1 w1 m1) (k : MT gam g1 w1 m1 g2 w2 m2) : MT gam g w m g2 w2 m2 where
  fr := h.fr.trans k.fr
  nm := by
    obtain ⟨l, e, a⟩ := h.nm
    obtain ⟨l', e', a'⟩ := k.nm
    exact ⟨l ++ l', by rw [e', e, List.append_assoc], fun v c hv => by rw [sweepV_append]; exact a' _ _ (a _ _ hv)⟩
  n := k.n.trans h.n
  ks r := (k.ks r).trans (h.ks r)
  dy x hx := k.dy x (h.dy x hx)
  kb r p B hr hB := by
    rcases h.kb r p B hr hB with ⟨q, t, hq, hp⟩ | h1
    · exact .inl ⟨q, t, k.dy _ hq, hp⟩
    · exact k.kb r p B (by rw [h.n]; exact hr) h1

theorem mem_addTo {d x : Nat × Path} {l : List (Nat × Path)} (h : x ∈ l) : x ∈ addTo d l := by
  unfold addTo; split
  · exact h
  · exact List.mem_append_left _ h

theorem addTo_mem (d : Nat × Path) (l : List (Nat × Path)) : d ∈ addTo d l := by
  unfold addTo; split
  · rename_i h; simpa using h
  · simp

theorem mark_n (m : M) (r : Nat) (p : Path) : (m.mark r p).n = m.n := by unfold M.mark; split <;> rfl
theorem mark_rs (m : M) (r : Nat) (p : Path) : (m.mark r p).rs = m.rs := by unfold M.mark; split <;> rfl
theorem mark_vs (m : M) (r : Nat) (p : Path) : (m.mark r p).vs = m.vs := by unfold M.mark; split <;> rfl
theorem mark_lg (m : M) (r : Nat) (p : Path) : (m.mark r p).lg = m.lg := by unfold M.mark; split <;> rfl
theorem mark_dy {m : M} {r : Nat} {p : Path} {x : Nat × Path} (h : x ∈ m.dy) : x ∈ (m.mark r p).dy := by
  unfold M.mark; split
  · exact h
  · exact mem_addTo h
theorem mark_mem {m : M} {r : Nat} {p : Path} (h : m.n ≤ r) : (r, p) ∈ (m.mark r p).dy := by
  unfold M.mark
  rw [if_neg (by omega)]
  exact addTo_mem _ _

/-- Nothing lies at a place, and nobody names it. -/
structure FreeAt (g : Gh) (R : Roots) (r : Nat) (p : Path) : Prop where
  base : ∀ q, g.base r (p ++ q) = none
  live : ∀ q, Live R q → ¬ At r p q

theorem any_leaf : Leaf .any := fun s => by obtain ⟨i, j⟩ := s; rfl

theorem WFR.over_put {R : Roots} {m m' : M} {r : Nat} {p : Path} {x : V} (h : WFR (over R m.rs)) (hp : m.put r p x = some m') (hx : p = [] ∨ x.owner = true ∨ Leaf x) (hw : WFV x) : WFR (over R m'.rs) := by
  obtain ⟨t, t', h1, h2, rfl⟩ := M.put_look hp
  intro y v hv
  rw [over_lay h1] at hv
  split at hv
  · cases hv; exact (h r t (over_look h1)).put h2 hx hw
  · exact h y v hv

/-- An owner leaves its place. -/
theorem take_ok {g : Gh} {w : World} {R : Roots} {m m' : M} {cs : List Value} {r : Nat} {p : Path} {to : Option (Nat × Path)} {v : V}
    (hS : MS gam g w R m cs) (h : m.take r p to = some (v, m')) (r2 : Nat) (p2 : Path) (hto : ∀ x, to = some x → x = (r2, p2)) (hfar : to = none → Far r p r2 p2)
    (hfree : FreeAt g (over R m.rs) r2 p2) :
    m.get r p = some v ∧ v.owner = true ∧ WFV v ∧ m.put r p .any ≠ none ∧
    MS gam (g.move r p r2 p2) w R m' cs ∧ MT gam g w m (g.move r p r2 p2) w m' ∧ Float gam (g.move r p r2 p2) w r2 p2 v := by
  unfold M.take at h
  cases hg : m.get r p with
  | none => simp [hg] at h
  | some u =>
    simp only [hg] at h
    split at h
    · rename_i hml
      cases hput : m.put r p .any with
      | none => simp [hput] at h
      | some m1 =>
        simp only [hput] at h
        have hfar' : Far r p r2 p2 := by
          cases to with
          | none => exact hfar rfl
          | some x =>
            have := hto x rfl
            subst this
            simp only at h
            split at h
            · cases h
            · rename_i hc
              simp only [Bool.and_eq_true, beq_iff_eq, Bool.or_eq_true, not_and, not_or] at hc
              by_cases e : r = r2
              · right
                have := hc e
                constructor
                · intro t et
                  apply this.1
                  rw [et, behind_append]; rfl
                · intro t et
                  apply this.2
                  rw [et, behind_append]; rfl
              · exact .inl e
        have hvm : v = u ∧ ∃ s : Step, m' = (m1.mark r p).step s ∧ (s = .turn r p r2 p2 ∨ s = .drop r p) := by
          cases to with
          | none => simp only [Option.some.injEq, Prod.mk.injEq] at h; exact ⟨h.1.symm, _, h.2.symm, .inr rfl⟩
          | some x =>
            have := hto x rfl
            subst this
            simp only at h
            split at h
            · cases h
            · simp only [Option.some.injEq, Prod.mk.injEq] at h; exact ⟨h.1.symm, _, h.2.symm, .inl rfl⟩
        obtain ⟨rfl, s, rfl, hs⟩ := hvm
        obtain ⟨t, t', h1, h2, e1⟩ := M.put_look hput
        obtain ⟨t0, h10, hget⟩ := M.get_look hg
        rw [h1] at h10; cases h10
        have hvo : v.owner = true := by
          revert hml; unfold mayLeave; split <;> simp [V.owner]
        have hR : over R m.rs r = some t := over_look h1
        have hR' : ∀ y, over R m1.rs y = if y = r then some t' else over R m.rs y := by
          intro y; rw [e1]; exact over_lay h1 y
        have ht : Turns g (g.move r p r2 p2) s.act := by
          rcases hs with rfl | rfl
          · exact turns_turn g hfree.base
          · exact turns_drop g hfree.base
        obtain ⟨hC', hF⟩ := move_out gam hS.cl hS.wf hR hget h2 any_leaf rfl (fun _ _ => .inl ⟨trivial, any_leaf⟩) hR' hfree.live hfar'
        have hm1 : m1.n = m.n ∧ m1.vs = m.vs ∧ m1.lg = m.lg ∧ m1.dy = m.dy := by rw [e1]; exact ⟨rfl, rfl, rfl, rfl⟩
        refine ⟨rfl, hvo, (hS.wf r t hR).sub hget, by simp, ?_, ?_, hF⟩
        · refine ⟨?_, ?_, ?_, hS.gl.move _ _ _ _⟩
          · show Svs gam _ (sweeps s (m1.mark r p).vs) cs
            rw [mark_vs, hm1.2.1]
            exact Svs.sweep gam ht (Grows.refl _) _ _ hS.vs
          · show Claims gam _ w (over R (m1.mark r p).rs)
            rw [mark_rs]; exact hC'
          · show WFR (over R (m1.mark r p).rs)
            rw [mark_rs]
            exact hS.wf.over_put hput (.inr (.inr any_leaf)) (WFV.leaf any_leaf)
        · refine ⟨Fr.move g w r p r2 p2, ⟨[s], ?_, ?_⟩, ?_, ?_, ?_, ?_⟩
          · show (m1.mark r p).lg ++ [s] = m.lg ++ [s]
            rw [mark_lg, hm1.2.2.1]
          · intro x c hx
            exact Sv.sweep gam ht (Grows.refl _) x c hx
          · show (m1.mark r p).n = m.n
            rw [mark_n, hm1.1]
          · intro y
            show (look (m1.mark r p).rs y).isSome = _
            rw [mark_rs, e1, look_lay h1]
            split
            · rename_i e; rw [e, h1]; rfl
            · rfl
          · intro x hx
            show x ∈ (m1.mark r p).dy
            exact mark_dy (by rw [hm1.2.2.2]; exact hx)
          · intro x q B hx hB
            by_cases hat : At r p (x, q)
            · left
              obtain ⟨e, t2, e2⟩ := hat
              simp only at e e2
              subst e
              exact ⟨p, t2, mark_mem (by rw [hm1.1]; exact hx), e2⟩
            · right
              rw [move_base_other]
              · exact hB
              · rintro ⟨e, t2, e2⟩
                simp only at e e2
                subst e; subst e2
                rw [hfree.base] at hB; cases hB
              · exact hat
    · cases h

end
end Go.Bv
/- Freezing, taking, making free: step by step in an operation's view. -/
namespace Go.Bv
open Go

section
variable (gam : Nat → Option (Nat × Nat))

/-- What names nothing and owns nothing: such a value's claim is a pure one. -/
def plainV : V → Bool
  | .any | .agg _ | .tup _ | .box _ | .own _ _ | .al .. | .als .. => false
  | .fn _ [] [] => true
  | .fn .. => false
  | _ => true

theorem plain_pv {g : Gh} {v : V} {c : Value} (hp : plainV v = true) (h : Sv gam g v c) : Pv gam g.rho v c := by
  cases v <;> simp [plainV] at hp <;> first
    | exact h
    | skip
  case fn f pre caps =>
    cases pre <;> cases caps <;> simp at hp
    obtain ⟨p, q, e, k, l⟩ := h
    exact ⟨p, q, e, k, l⟩

theorem plain_leaf {v : V} (hp : plainV v = true) : Leaf v := by
  intro s
  obtain ⟨i, j⟩ := s
  cases v <;> simp [plainV] at hp <;> try rfl
  case fn f pre caps =>
    cases pre <;> cases caps <;> simp at hp
    simp [V.kid]

theorem plain_owner {v : V} (hp : plainV v = true) : v.owner = false := by
  cases v <;> simp [plainV] at hp <;> rfl

theorem Pv.sv {g : Gh} {v : V} {c : Value} (h : Pv gam g.rho v c) : Sv gam g v c := Sv.of_pv gam g v c h

theorem live_over {R : Roots} {m m' : M} {r : Nat} {p : Path} {x : V} (hp : m.put r p x = some m') (hx : x.owner = false) (hl : Leaf x) {q : Nat × Path} (h : Live (over R m'.rs) q) :
    Live (over R m.rs) q := by
  obtain ⟨t, t', h1, h2, rfl⟩ := M.put_look hp
  obtain ⟨u, hu, ho⟩ := h
  obtain ⟨y, q⟩ := q
  simp only [rget, over_lay h1] at hu
  by_cases e : y = r
  · subst e
    simp only [if_true] at hu
    cases lie p q with
    | below s hq =>
      subst hq
      rw [put_get_below h2] at hu
      cases s with
      | nil => rw [get_nil] at hu; cases hu; rw [hx] at ho; cases ho
      | cons a s => rw [get_cons, hl a] at hu; cases hu
    | apart c s1 s2 a b hp' hq hne =>
      subst hp'; subst hq
      rw [put_get_apart h2 hne] at hu
      exact ⟨u, by simp [rget, over_look h1, hu], ho⟩
    | above s1 s hp' =>
      subst hp'
      obtain ⟨u0, k, k', g1, g2, g3, g4⟩ := put_get_above h2
      rw [g4] at hu; cases hu
      exact ⟨u0, by simp [rget, over_look h1, g1], by rw [← setKid_owner u0 s1 k']; exact ho⟩
  · simp only [if_neg e] at hu
    exact ⟨u, by simpa [rget] using hu, ho⟩

theorem FreeAt.freeze {g : Gh} {w : World} {R : Roots} {m m' : M} {r : Nat} {p : Path} {x : V} (hp : m.put r p x = some m') (hx : x.owner = false) (hl : Leaf x) {r2 : Nat} {p2 : Path}
    (h : FreeAt g (over R m.rs) r2 p2) : FreeAt (g.freeze w r p) (over R m'.rs) r2 p2 where
  base q := by
    simp only [Gh.freeze]
    split
    · rfl
    · exact h.base q
  live q hq := h.live q (live_over hp hx hl hq)

theorem FreeAt.move {g : Gh} {R : Roots} {m m' : M} {r : Nat} {p : Path} {x : V} (hp : m.put r p x = some m') (hx : x.owner = false) (hl : Leaf x) {r2 : Nat} {p2 : Path} {r3 : Nat} {p3 : Path}
    (h : FreeAt g (over R m.rs) r3 p3) (hfar : Far r2 p2 r3 p3) : FreeAt (g.move r p r2 p2) (over R m'.rs) r3 p3 where
  base q := by
    by_cases h2 : At r p (r3, p3 ++ q)
    · obtain ⟨e, t, et⟩ := h2
      simp only at e et
      subst e
      have n1 : (if r3 = r2 then behind p2 (p3 ++ q) else none) = none ∨ ∃ t', (if r3 = r2 then behind p2 (p3 ++ q) else none) = some t' := by
        cases (if r3 = r2 then behind p2 (p3 ++ q) else none) with
        | none => exact .inl rfl
        | some t' => exact .inr ⟨t', rfl⟩
      rcases n1 with n1 | ⟨t', n1⟩
      · simp only [Gh.move, n1]
        rw [et]; simp [behind_append]
      · split at n1
        · rename_i e2
          have := behind_some n1
          rcases hfar with hf | ⟨hf1, hf2⟩
          · exact (hf e2.symm).elim
          · exfalso
            cases lie p2 p3 with
            | below s hs => exact hf1 s hs
            | above s1 s hs => exact hf2 (s1 :: s) hs
            | apart c s1 s2 a b ha hb hne =>
              rw [ha, hb] at this
              simp at this
              exact hne this.1.symm
        · cases n1
    · by_cases h3 : At r2 p2 (r3, p3 ++ q)
      · obtain ⟨e, t, et⟩ := h3
        simp only at e et
        exfalso
        rcases hfar with hf | ⟨hf1, hf2⟩
        · exact hf e.symm
        · cases lie p2 p3 with
          | below s hs => exact hf1 s hs
          | above s1 s hs => exact hf2 (s1 :: s) hs
          | apart c s1 s2 a b ha hb hne =>
            rw [ha, hb] at et
            simp at et
            exact hne et.1.symm
      · rw [move_base_other g h3 h2]; exact h.base q
  live q hq := h.live q (live_over hp hx hl hq)

theorem freeze1_ok {g : Gh} {w : World} {R : Roots} {m m' : M} {cs : List Value} {v x : V} {c : Value} (hS : MS gam g w R m cs) (h : freeze1 m v = some (x, m')) (hv : Sv gam g v c) :
    ∃ g', MS gam g' w R m' cs ∧ MT gam g w m g' w m' ∧ Pv gam g'.rho x c ∧ plainV x = true ∧
      (∀ r2 p2, FreeAt g (over R m.rs) r2 p2 → FreeAt g' (over R m'.rs) r2 p2) := by
  have plain : ∀ {v : V}, plainV v = true → freeze1 m v = some (v, m) → v = x ∧ m = m' → Sv gam g v c → ∃ g', MS gam g' w R m' cs ∧ MT gam g w m g' w m' ∧ Pv gam g'.rho x c ∧ plainV x = true ∧
      (∀ r2 p2, FreeAt g (over R m.rs) r2 p2 → FreeAt g' (over R m'.rs) r2 p2) := by
    rintro v hp _ ⟨rfl, rfl⟩ hv
    exact ⟨g, hS, MT.refl gam g w m, plain_pv gam hp hv, hp, fun _ _ h => h⟩
  cases v with
  | als r p i j n z =>
    cases j with
    | succ j => simp [freeze1] at h
    | zero =>
      simp only [freeze1] at h
      split at h
      · rename_i es cap hget
        split at h
        · cases h
        · rename_i hcond
          simp only [Bool.or_eq_true, not_or, Bool.not_eq_true, decide_eq_false_iff_not] at hcond
          obtain ⟨hnown, hlen⟩ := hcond
          cases hput : m.put r p (.ro es) with
          | none => simp [hput] at h
          | some m1 =>
            simp only [hput, Option.some.injEq, Prod.mk.injEq] at h
            obtain ⟨rfl, rfl⟩ := h
            obtain ⟨t, t', h1, h2, e1⟩ := M.put_look hput
            obtain ⟨t0, h10, ht⟩ := M.get_look hget
            rw [h1] at h10; cases h10
            obtain ⟨B, k, hB, hc, hnk, _⟩ := hv
            have hpure : ∀ e, e ∈ es → ∀ x, x ∈ e → x.owner = false := by
              intro e he x hx
              cases ho : x.owner with
              | false => rfl
              | true =>
                have : (es.any fun e => e.any fun x => x.owner) = true := List.any_eq_true.2 ⟨e, he, List.any_eq_true.2 ⟨x, hx, ho⟩⟩
                rw [this] at hnown; cases hnown
            have hR : over R m.rs r = some t := over_look h1
            have hR' : ∀ y, over R m1.rs y = if y = r then some t' else over R m.rs y := by intro y; rw [e1]; exact over_lay h1 y
            obtain ⟨hC', hsub⟩ := freeze_at gam hS.cl hS.wf hS.gl hR ht hB hpure h2 hR'
            have ht' := turns_freeze g w r p
            have hgr := Grows.freeze hS.gl r p
            have hm1 : m1.n = m.n ∧ m1.vs = m.vs ∧ m1.lg = m.lg ∧ m1.dy = m.dy := by rw [e1]; exact ⟨rfl, rfl, rfl, rfl⟩
            refine ⟨g.freeze w r p, ⟨?_, ?_, ?_, hS.gl.freeze r p⟩, ⟨Fr.freeze hS.gl r p, ⟨[.drop r p], ?_, ?_⟩, ?_, ?_, ?_, ?_⟩, ?_, rfl, ?_⟩
            · show Svs gam _ (sweeps _ (m1.mark r p).vs) cs
              rw [mark_vs, hm1.2.1]
              exact Svs.sweep gam ht' hgr _ _ hS.vs
            · show Claims gam _ w (over R (m1.mark r p).rs)
              rw [mark_rs]; exact hC'
            · show WFR (over R (m1.mark r p).rs)
              rw [mark_rs]; exact hS.wf.over_put hput (.inr (.inr (ro_leaf es))) (WFV.leaf (ro_leaf es))
            · show (m1.mark r p).lg ++ _ = _
              rw [mark_lg, hm1.2.2.1]
            · intro y d hy; exact Sv.sweep gam ht' hgr y d hy
            · show (m1.mark r p).n = m.n
              rw [mark_n, hm1.1]
            · intro y
              show (look (m1.mark r p).rs y).isSome = _
              rw [mark_rs, e1, look_lay h1]
              split
              · rename_i e; rw [e, h1]; rfl
              · rfl
            · intro y hy
              show y ∈ (m1.mark r p).dy
              exact mark_dy (by rw [hm1.2.2.2]; exact hy)
            · intro y q B' hy hB'
              by_cases hat : At r p (y, q)
              · left
                obtain ⟨e, t2, e2⟩ := hat
                simp only at e e2
                subst e
                exact ⟨p, t2, mark_mem (by rw [hm1.1]; exact hy), e2⟩
              · right
                simp only [Gh.freeze, if_neg hat]; exact hB'
            · rw [hc]
              have := hsub i n (by omega) k hnk
              simpa using this
            · intro r2 p2 hf
              have := FreeAt.freeze (w := w) hput (by rfl) (ro_leaf es) hf
              show FreeAt _ (over R (m1.mark r p).rs) r2 p2
              rw [mark_rs]; exact this
      · cases h
  | fn f pre caps =>
    cases pre <;> cases caps <;> simp [freeze1] at h
    exact plain rfl rfl h hv
  | any => simp [freeze1] at h
  | agg cs => simp [freeze1] at h
  | tup cs => simp [freeze1] at h
  | box cs => simp [freeze1] at h
  | own es cap => simp [freeze1] at h
  | al r p i j => simp [freeze1] at h
  | int k n => simp only [freeze1, Option.some.injEq, Prod.mk.injEq] at h; exact plain rfl rfl h hv
  | bool b => simp only [freeze1, Option.some.injEq, Prod.mk.injEq] at h; exact plain rfl rfl h hv
  | str b => simp only [freeze1, Option.some.injEq, Prod.mk.injEq] at h; exact plain rfl rfl h hv
  | sc x => simp only [freeze1, Option.some.injEq, Prod.mk.injEq] at h; exact plain rfl rfl h hv
  | ifc t x => simp only [freeze1, Option.some.injEq, Prod.mk.injEq] at h; exact plain rfl rfl h hv
  | ro es => simp only [freeze1, Option.some.injEq, Prod.mk.injEq] at h; exact plain rfl rfl h hv
  | rop cs j => simp only [freeze1, Option.some.injEq, Prod.mk.injEq] at h; exact plain rfl rfl h hv
  | gp a j => simp only [freeze1, Option.some.injEq, Prod.mk.injEq] at h; exact plain rfl rfl h hv

end
end Go.Bv
/- Taking slices, making roots free, things that go along. -/
namespace Go.Bv
open Go

section
variable (gam : Nat → Option (Nat × Nat))

/-- A put, its mark and its step of names: the view goes on. -/
theorem step_put {g g' : Gh} {w w' : World} {R : Roots} {m m1 : M} {cs : List Value} {r : Nat} {p : Path} {x : V} {s : Step}
    (hS : MS gam g w R m cs) (hput : m.put r p x = some m1) (hT : Turns g g' s.act) (hFr : Fr g g' w w') (hC : Claims gam g' w' (over R m1.rs)) (hx : p = [] ∨ x.owner = true ∨ Leaf x) (hw : WFV x)
    (hG : Glob g' w') (hkb : ∀ y q B, m.n ≤ y → g.base y q = some B → At r p (y, q) ∨ g'.base y q = some B) :
    MS gam g' w' R ((m1.mark r p).step s) cs ∧ MT gam g w m g' w' ((m1.mark r p).step s) := by
  obtain ⟨t, t', h1, h2, e1⟩ := M.put_look hput
  have hm1 : m1.n = m.n ∧ m1.vs = m.vs ∧ m1.lg = m.lg ∧ m1.dy = m.dy := by rw [e1]; exact ⟨rfl, rfl, rfl, rfl⟩
  refine ⟨⟨?_, ?_, ?_, hG⟩, ⟨hFr, ⟨[s], ?_, ?_⟩, ?_, ?_, ?_, ?_⟩⟩
  · show Svs gam _ (sweeps s (m1.mark r p).vs) cs
    rw [mark_vs, hm1.2.1]
    exact Svs.sweep gam hT hFr.grow _ _ hS.vs
  · show Claims gam _ w' (over R (m1.mark r p).rs)
    rw [mark_rs]; exact hC
  · show WFR (over R (m1.mark r p).rs)
    rw [mark_rs]; exact hS.wf.over_put hput hx hw
  · show (m1.mark r p).lg ++ _ = _
    rw [mark_lg, hm1.2.2.1]
  · intro y d hy; exact Sv.sweep gam hT hFr.grow y d hy
  · show (m1.mark r p).n = m.n
    rw [mark_n, hm1.1]
  · intro y
    show (look (m1.mark r p).rs y).isSome = _
    rw [mark_rs, e1, look_lay h1]
    split
    · rename_i e; rw [e, h1]; rfl
    · rfl
  · intro y hy
    show y ∈ (m1.mark r p).dy
    exact mark_dy (by rw [hm1.2.2.2]; exact hy)
  · intro y q B' hy hB'
    rcases hkb y q B' hy hB' with ⟨e, t2, e2⟩ | h
    · left
      simp only at e e2
      subst e
      exact ⟨p, t2, mark_mem (by rw [hm1.1]; exact hy), e2⟩
    · exact .inr h

/-- A floating owner's extent is told anew; below it only what lives keeps its base. -/
def Gh.cut (g : Gh) (r : Nat) (p : Path) (B : Base) (v : V) : Gh where
  rho := g.rho
  base x q := match (if x = r then behind p q else none) with
    | some [] => some B
    | some (s :: t) => (match v.get (s :: t) with | some u => if u.owner then g.base x q else none | none => none)
    | none => g.base x q
  lam := g.lam

theorem cut_top (g : Gh) (r : Nat) (p : Path) (B : Base) (v : V) : (g.cut r p B v).base r p = some B := by
  have h := behind_append p []
  rw [List.append_nil] at h
  simp [Gh.cut, h]
theorem cut_below (g : Gh) (r : Nat) (p : Path) (B : Base) {v : V} {s : Nat × Nat} {t : Path} {u : V} (hu : v.get (s :: t) = some u) (ho : u.owner = true) :
    (g.cut r p B v).base r (p ++ s :: t) = g.base r (p ++ s :: t) := by
  simp [Gh.cut, behind_append, hu, ho]
theorem cut_other (g : Gh) {r : Nat} {p : Path} (B : Base) (v : V) {x : Nat} {q : Path} (h : ¬ At r p (x, q)) : (g.cut r p B v).base x q = g.base x q := by
  simp only [Gh.cut]
  by_cases e : x = r
  · simp only [if_pos e]
    cases hb : behind p q with
    | none => rfl
    | some t => exact (h ⟨e, t, behind_some hb⟩).elim
  · simp only [if_neg e]
theorem cut_some {g : Gh} {r : Nat} {p : Path} {B : Base} {v : V} {t : Path} {B' : Base} (hv : v.owner = true) (h : (g.cut r p B v).base r (p ++ t) = some B') : ∃ u, v.get t = some u ∧ u.owner = true := by
  cases t with
  | nil => exact ⟨v, get_nil v, hv⟩
  | cons s t =>
    simp only [Gh.cut, if_pos, behind_append] at h
    cases hu : v.get (s :: t) with
    | none => simp [hu] at h
    | some u =>
      simp only [hu] at h
      split at h
      · rename_i ho; exact ⟨u, rfl, ho⟩
      · cases h
theorem Glob.cut {g : Gh} {w : World} (h : Glob g w) (r : Nat) (p : Path) (B : Base) (v : V) : Glob (g.cut r p B v) w := ⟨h.cells, h.sep, h.ro⟩
theorem Fr.cut (g : Gh) (w : World) (r : Nat) (p : Path) (B : Base) (v : V) : Fr g (g.cut r p B v) w w :=
  ⟨Grows.refl _, rfl, rfl, rfl, Nat.le_refl _, fun _ _ q _ h => ⟨q, h⟩, fun _ _ _ _ h => .inl h, fun _ _ => Kept.refl _ _ _⟩
theorem Claims.cut {g : Gh} {w : World} {R : Roots} (h : Claims gam g w R) {r : Nat} {p : Path} (hl : ∀ q, Live R q → ¬ At r p q) (B : Base) (v : V) : Claims gam (g.cut r p B v) w R :=
  Claims.keep gam (g := g) (g' := g.cut r p B v) (Grows.refl _) (fun x q B' hlv hB => by rw [cut_other g B v (hl _ hlv)]; exact hB) (fun _ _ _ _ h => h) (fun _ _ _ _ _ _ h => h) h
theorem Ck.live {g g' : Gh} {r : Nat} {p : Path} {x : V} {c : Value} (hr : g'.rho = g.rho) (hb : x.owner = true → g'.base r p = g.base r p) (h : Ck gam g r p x c) : Ck gam g' r p x c := by
  cases x with
  | box cs => obtain ⟨B, e1, e2⟩ := h; exact ⟨B, by rw [hb rfl]; exact e1, e2⟩
  | own es cap => obtain ⟨B, e1, e2⟩ := h; exact ⟨B, by rw [hb rfl]; exact e1, e2⟩
  | _ => exact ⟨by rw [hr]; exact h.1, h.2⟩
/-- What floats, where bases of what owns stay. -/
theorem Float.live {g g' : Gh} {w : World} {r : Nat} {p : Path} {x : V} (hr : g'.rho = g.rho) (hl : g'.lam = g.lam)
    (hb : ∀ q u, x.get q = some u → u.owner = true → g'.base r (p ++ q) = g.base r (p ++ q)) (h : Float gam g w r p x) : Float gam g' w r p x := by
  intro q u hu ho
  obtain ⟨B, hB, hf, hlb, hk⟩ := h q u hu ho
  refine ⟨B, by rw [hb q u hu ho]; exact hB, hf, fun k hk' => by rw [hl]; exact hlb k hk', fun s y hy => ?_⟩
  obtain ⟨c, h1, h2⟩ := hk s y hy
  refine ⟨c, h1, ?_⟩
  have hyq : x.get (q ++ [s]) = some y := by rw [get_append, hu, ← get_nil y]; simp [get_cons, hy]
  refine Ck.live gam hr (fun ho => ?_) h2
  have := hb _ y hyq ho
  rw [← List.append_assoc] at this
  exact this

/-- An owner leaves: the parts of it. -/
theorem take_shape {m m' : M} {r : Nat} {p : Path} {to : Option (Nat × Path)} {v : V} (h : m.take r p to = some (v, m')) :
    m.get r p = some v ∧ v.owner = true ∧ ∃ m1 s, m.put r p .any = some m1 ∧ m' = (m1.mark r p).step s ∧
      (to = none → s = .drop r p) ∧ (∀ r2 p2, to = some (r2, p2) → s = .turn r p r2 p2 ∧ Far r p r2 p2) := by
  unfold M.take at h
  cases hg : m.get r p with
  | none => simp [hg] at h
  | some u =>
    simp only [hg] at h
    split at h
    · rename_i hml
      have hvo : u.owner = true := by
        revert hml; unfold mayLeave; split <;> simp [V.owner]
      cases hput : m.put r p .any with
      | none => simp [hput] at h
      | some m1 =>
        simp only [hput] at h
        cases to with
        | none =>
          simp only [Option.some.injEq, Prod.mk.injEq] at h
          obtain ⟨rfl, rfl⟩ := h
          exact ⟨rfl, hvo, m1, _, rfl, rfl, fun _ => rfl, fun _ _ h => by cases h⟩
        | some x =>
          obtain ⟨r2, p2⟩ := x
          simp only at h
          split at h
          · cases h
          · rename_i hc
            simp only [Option.some.injEq, Prod.mk.injEq] at h
            obtain ⟨rfl, rfl⟩ := h
            refine ⟨rfl, hvo, m1, _, rfl, rfl, (fun h => by cases h), fun r3 p3 h => ?_⟩
            cases h
            refine ⟨rfl, ?_⟩
            simp only [Bool.and_eq_true, beq_iff_eq, Bool.or_eq_true, not_and, not_or] at hc
            by_cases e : r = r2
            · right
              have := hc e
              exact ⟨fun t et => this.1 (by rw [et, behind_append]; rfl), fun t et => this.2 (by rw [et, behind_append]; rfl)⟩
            · exact .inl e
    · cases h

/-- A slice is taken: it floats at a place of ours, as long as its name said. -/
theorem takeS_ok {g : Gh} {w : World} {R : Roots} {m m' : M} {cs : List Value} {v : V} {c : Value} {es : List (List V)} {cap : Option Nat}
    (hS : MS gam g w R m cs) (h : takeS m v = some (es, cap, m')) (hv : Sv gam g v c) (r2 : Nat) (p2 : Path) (hfree : FreeAt g (over R m.rs) r2 p2) (hfar : ∀ r p, (∃ u, m.get r p = some u) → Far r p r2 p2) :
    ∃ g', MS gam g' w R m' cs ∧ MT gam g w m g' w m' ∧ Float gam g' w r2 p2 (.own es cap) ∧ Ck gam g' r2 p2 (.own es cap) c ∧ WFV (.own es cap) ∧
      (∀ t B, g'.base r2 (p2 ++ t) = some B → ∃ u, (V.own es cap).get t = some u ∧ u.owner = true) ∧
      (∃ r p i n es0 cap0 m1, v = .als r p i 0 n 0 ∧ m.get r p = some (.own es0 cap0) ∧ m.put r p .any = some m1 ∧ m'.rs = m1.rs ∧ m'.lg = m.lg ++ [.drop r p] ∧ m'.vs = sweeps (.drop r p) m.vs ∧
        (∀ x q, ¬ At r2 p2 (x, q) → g'.base x q = (g.move r p r2 p2).base x q) ∧ g'.lam = (g.move r p r2 p2).lam ∧ g'.rho = g.rho ∧
        ∃ B, g'.base r2 p2 = some B ∧ (∀ e, e ∈ es0 → e.length = B.z) ∧ (cap0 = some 0 → B.C = 0)) := by
  cases v with
  | als r p i j n z =>
    cases j with
    | succ j => simp [takeS] at h
    | zero =>
    cases z with
    | succ z => simp [takeS] at h
    | zero =>
    simp only [takeS] at h
    cases ht : m.take r p none with
    | none => simp [ht] at h
    | some x =>
      obtain ⟨u, m2⟩ := x
      simp only [ht] at h
      split at h
      · rename_i es0 cap0 m3 e0
        cases e0
        split at h
        · rename_i hcond
          simp only [Bool.and_eq_true, decide_eq_true_eq, Bool.or_eq_true, beq_iff_eq, Bool.not_eq_true'] at hcond
          obtain ⟨hin, hi0⟩ := hcond
          simp only [Option.some.injEq, Prod.mk.injEq] at h
          obtain ⟨rfl, rfl, rfl⟩ := h
          obtain ⟨hget, _, m1, s, hput, em, hs, _⟩ := take_shape ht
          have := hs rfl
          subst this
          obtain ⟨t, t', h1, h2, e1⟩ := M.put_look hput
          obtain ⟨t0, h10, htg⟩ := M.get_look hget
          rw [h1] at h10; cases h10
          have hR : over R m.rs r = some t := over_look h1
          have hR' : ∀ y, over R m1.rs y = if y = r then some t' else over R m.rs y := by intro y; rw [e1]; exact over_lay h1 y
          have hfr := hfar r p ⟨_, hget⟩
          obtain ⟨hC', hF⟩ := move_out gam hS.cl hS.wf hR htg h2 any_leaf rfl (fun _ _ => .inl ⟨trivial, any_leaf⟩) hR' hfree.live hfr
          obtain ⟨B, k, hB, hc, hnk, hk⟩ := hv
          obtain ⟨_, hkC⟩ := hk rfl
          obtain ⟨B1, hB1, hf, hl, hks⟩ := hF [] (.own es0 cap0) (get_nil _) rfl
          have hBm : (g.move r p r2 p2).base r2 p2 = some B := by have := move_base_to g r p r2 p2 []; simp only [List.append_nil] at this; rw [this]; exact hB
          simp only [List.append_nil] at hB1 hl hks
          rw [hBm] at hB1; cases hB1
          obtain ⟨f1, f2, f3⟩ := hf
          -- the new base
          let B' : Base := ⟨B.b, B.o + i * B.z, B.z, B.C - i⟩
          have hiC : i ≤ B.C := by omega
          have hmul : i * B.z + (B.C - i) * B.z = B.C * B.z := by rw [← Nat.add_mul]; congr 1; omega
          have hlive : ∀ q, Live (over R m1.rs) q → ¬ At r2 p2 q := fun q hh => hfree.live _ (live_over hput (by rfl) any_leaf hh)
          have hT : Turns g ((g.move r p r2 p2).cut r2 p2 B' (.own ((es0.drop i).take n) (capLeft cap0 i))) (Step.drop r p).act := by
            intro x q x' q' B2 ha hB2
            have := turns_drop g (r := r) (p := p) hfree.base x q x' q' B2 ha hB2
            rw [cut_other]
            · exact this
            · rintro ⟨e1, t2, e2⟩
              simp only at e1 e2
              subst e1; subst e2
              simp only [Step.act, beq_iff_eq] at ha
              split at ha
              · rename_i hx
                cases hb : behind p q with
                | some t => simp [hb] at ha
                | none =>
                  simp only [hb, Option.some.injEq, Prod.mk.injEq] at ha
                  obtain ⟨rfl, rfl⟩ := ha
                  rw [hfree.base] at hB2; cases hB2
              · simp only [Option.some.injEq, Prod.mk.injEq] at ha
                obtain ⟨rfl, rfl⟩ := ha
                rw [hfree.base] at hB2; cases hB2
          obtain ⟨hS', hM'⟩ := step_put gam (g' := (g.move r p r2 p2).cut r2 p2 B' (.own ((es0.drop i).take n) (capLeft cap0 i))) hS hput hT ((Fr.move g w r p r2 p2).trans (Fr.cut _ w r2 p2 B' _)) (hC'.cut gam hlive B' _) (.inr (.inr any_leaf)) (WFV.leaf any_leaf)
            ((hS.gl.move r p r2 p2).cut r2 p2 B' _) (by
              intro y q B2 hy hB2
              by_cases hat : At r p (y, q)
              · exact .inl hat
              · right
                have hne : ¬ At r2 p2 (y, q) := by
                  rintro ⟨e, t2, e2⟩
                  simp only at e e2
                  subst e; subst e2
                  rw [hfree.base] at hB2; cases hB2
                rw [cut_other _ _ _ hne, move_base_other g hne hat]
                exact hB2)
          rw [← em] at hS' hM'
          have hlen : ((es0.drop i).take n).length = n := by simp; omega
          have hbB : ((g.move r p r2 p2).cut r2 p2 B' (.own ((es0.drop i).take n) (capLeft cap0 i))).base r2 p2 = some B' := cut_top _ _ _ _ _
          refine ⟨(g.move r p r2 p2).cut r2 p2 B' (.own ((es0.drop i).take n) (capLeft cap0 i)), hS', hM', ?_, ⟨B', hbB, ?_⟩, ?_, fun t B2 hB2 => cut_some rfl hB2, ⟨r, p, i, n, es0, cap0, m1, rfl, hget, hput, ?_, ?_, ?_, fun x q hx => cut_other _ _ _ hx, rfl, rfl, B', hbB, f3, fun h0 => by have := f2 0 h0; show B.C - i = 0; omega⟩⟩
          · refine float_intro gam hbB ⟨by rw [hlen]; show n ≤ B.C - i; omega, ?_, fun e he => f3 e (List.mem_of_mem_drop (List.mem_of_mem_take he))⟩ ?_ ?_
            · intro cc hcc
              show B.C - i = cc
              cases cap0 with
              | none => simp [capLeft] at hcc
              | some c0 => simp only [capLeft, Option.some.injEq] at hcc; rw [f2 c0 rfl]; exact hcc
            · intro a ha
              have : i * B.z + a < B.C * B.z := by have : a < (B.C - i) * B.z := ha; omega
              have := hl (i * B.z + a) this
              show (g.move r p r2 p2).lam B.b (B.o + i * B.z + a) = _
              rwa [Nat.add_assoc]
            · intro s x hx
              obtain ⟨a, b⟩ := s
              have hx0 : (V.own es0 cap0).kid (i + a, b) = some x := by
                simp only [V.kid] at hx ⊢
                cases he : ((es0.drop i).take n)[a]? with
                | none => simp [he] at hx
                | some e =>
                  simp only [he] at hx
                  rw [List.getElem?_take] at he
                  split at he
                  · rw [List.getElem?_drop] at he; rw [he]; exact hx
                  · cases he
              obtain ⟨c', hc1, hc2⟩ := hks (i + a, b) x hx0
              have hcell : B.o + (i + a) * B.z + b = B'.o + a * B'.z + b := by show _ = B.o + i * B.z + a * B.z + b; rw [Nat.add_mul]; omega
              rcases hi0 with rfl | hno
              · simp only [Nat.zero_add] at hx0 hc2
                refine ⟨?_, c', by simp only at hc1 ⊢; rw [← hcell]; exact hc1, ?_⟩
                · have hFk := Float.kid gam hF hx0
                  refine Float.live gam (g := g.move r p r2 p2) (g' := (g.move r p r2 p2).cut r2 p2 B' (.own ((es0.drop 0).take n) (capLeft cap0 0))) rfl rfl (fun q u hu ho => ?_) hFk
                  rw [List.append_assoc]
                  refine cut_below _ _ _ _ (u := u) ?_ ho
                  rw [get_cons, hx]; exact hu
                · exact Ck.live gam (g := g.move r p r2 p2) (g' := (g.move r p r2 p2).cut r2 p2 B' (.own ((es0.drop 0).take n) (capLeft cap0 0))) rfl (fun ho => cut_below _ _ _ _ (u := x) (by rw [get_cons, hx]; exact get_nil x) ho) hc2
              · have hxo : x.owner = false := by
                  simp only [V.kid] at hx0
                  cases he : es0[i + a]? with
                  | none => simp [he] at hx0
                  | some e =>
                    simp only [he] at hx0
                    cases ho : x.owner with
                    | false => rfl
                    | true =>
                      have : (es0.any fun e => e.any fun x => x.owner) = true := List.any_eq_true.2 ⟨e, List.mem_of_getElem? he, List.any_eq_true.2 ⟨x, List.mem_of_getElem? hx0, ho⟩⟩
                      rw [this] at hno; cases hno
                have hck : Pv gam g.rho x c' ∧ ∀ s, x.kid s = none := by
                  cases x <;> simp [V.owner] at hxo <;> exact hc2
                refine ⟨Float.leaf gam hck.2 hxo, c', by simp only at hc1 ⊢; rw [← hcell]; exact hc1, ?_⟩
                cases x <;> simp [V.owner] at hxo <;> exact hck
          · rw [hlen, hc]
            show slc B.b (B.o + i * B.z + 0) n k = slc B.b (B.o + i * B.z) n (B.C - i)
            rw [Nat.add_zero, show k = B.C - i by omega]
          · intro q u s x hu hk
            cases q with
            | nil =>
              rw [get_nil] at hu; cases hu
              obtain ⟨a, b⟩ := s
              have hx0 : (V.own es0 cap0).kid (i + a, b) = some x := by
                simp only [V.kid] at hk ⊢
                cases he : ((es0.drop i).take n)[a]? with
                | none => simp [he] at hk
                | some e =>
                  simp only [he] at hk
                  rw [List.getElem?_take] at he
                  split at he
                  · rw [List.getElem?_drop] at he; rw [he]; exact hk
                  · cases he
              exact ((hS.wf r t hR).sub htg) [] _ (i + a, b) x (get_nil _) hx0
            | cons s0 q =>
              obtain ⟨a, b⟩ := s0
              rw [get_cons] at hu
              cases hk0 : (V.own ((es0.drop i).take n) (capLeft cap0 i)).kid (a, b) with
              | none => simp [hk0] at hu
              | some y =>
                simp only [hk0] at hu
                have hy0 : (V.own es0 cap0).kid (i + a, b) = some y := by
                  simp only [V.kid] at hk0 ⊢
                  cases he : ((es0.drop i).take n)[a]? with
                  | none => simp [he] at hk0
                  | some e =>
                    simp only [he] at hk0
                    rw [List.getElem?_take] at he
                    split at he
                    · rw [List.getElem?_drop] at he; rw [he]; exact hk0
                    · cases he
                exact ((hS.wf r t hR).sub htg) ((i + a, b) :: q) u s x (by rw [get_cons, hy0]; exact hu) hk
          · rw [em]; show (m1.mark r p).rs = m1.rs; rw [mark_rs]
          · rw [em]; show (m1.mark r p).lg ++ _ = _; rw [mark_lg, e1]
          · rw [em]; show sweeps _ (m1.mark r p).vs = _; rw [mark_vs, e1]
        · cases h
      · cases h
  | _ => simp [takeS] at h

end
end Go.Bv
/- Bases are told of what lives, and of nothing else. -/
namespace Go.Bv
open Go

/-- All that has a base lives, or is one of those that float. -/
def Tight (g : Gh) (R : Roots) (X : Nat → Path → Prop) : Prop := ∀ r p B, g.base r p = some B → Live R (r, p) ∨ X r p

theorem Tight.weaken {g : Gh} {R : Roots} {X Y : Nat → Path → Prop} (h : Tight g R X) (hxy : ∀ r p, X r p → Y r p) : Tight g R Y := fun r p B hB => (h r p B hB).imp id (hxy r p)

theorem Tight.freeAt {g : Gh} {R : Roots} {X : Nat → Path → Prop} (h : Tight g R X) {r : Nat} {p : Path} (hl : ∀ q, ¬ Live R (r, p ++ q)) (hx : ∀ q, ¬ X r (p ++ q)) : FreeAt g R r p where
  base q := by
    cases hb : g.base r (p ++ q) with
    | none => rfl
    | some B => rcases h _ _ _ hb with h1 | h1
                · exact (hl q h1).elim
                · exact (hx q h1).elim
  live q hq := by
    rintro ⟨e, t, et⟩
    obtain ⟨y, q⟩ := q
    simp only at e et
    subst e; subst et
    exact hl t hq

theorem live_put {R : Roots} {m m' : M} {r : Nat} {p : Path} {x : V} (hp : m.put r p x = some m') {q : Nat × Path} (h : Live (over R m.rs) q) (hna : ¬ At r p q) : Live (over R m'.rs) q := by
  obtain ⟨t, t', h1, h2, rfl⟩ := M.put_look hp
  obtain ⟨u, hu, ho⟩ := h
  obtain ⟨y, q⟩ := q
  by_cases e : y = r
  · subst e
    simp only [rget, over_look h1] at hu
    cases lie p q with
    | below s hq => exact (hna ⟨rfl, s, hq⟩).elim
    | apart c s1 s2 a b hp' hq hne =>
      subst hp'; subst hq
      exact ⟨u, by simp only [rget, over_lay h1, if_true]; rw [put_get_apart h2 hne]; exact hu, ho⟩
    | above s1 s hp' =>
      subst hp'
      obtain ⟨u0, k, k', g1, g2, g3, g4⟩ := put_get_above h2
      rw [hu] at g1; cases g1
      exact ⟨u.setKid s1 k', by simp only [rget, over_lay h1, if_true]; exact g4, by rw [setKid_owner]; exact ho⟩
  · exact ⟨u, by simp only [rget, over_lay h1, if_neg e]; exact hu, ho⟩

theorem Tight.freeze {g : Gh} {w : World} {R : Roots} {X : Nat → Path → Prop} {m m' : M} {r : Nat} {p : Path} {x : V} (h : Tight g (over R m.rs) X) (hp : m.put r p x = some m') : Tight (g.freeze w r p) (over R m'.rs) X := by
  intro y q B hB
  simp only [Gh.freeze] at hB
  split at hB
  · cases hB
  · rename_i hna
    exact (h y q B hB).imp (fun hl => live_put hp hl hna) id

theorem Tight.move {g : Gh} {R : Roots} {X : Nat → Path → Prop} {m m' : M} {r : Nat} {p : Path} {x : V} {r2 : Nat} {p2 : Path} (h : Tight g (over R m.rs) X) (hp : m.put r p x = some m') :
    Tight (g.move r p r2 p2) (over R m'.rs) (fun y q => X y q ∨ At r2 p2 (y, q)) := by
  intro y q B hB
  by_cases h2 : At r2 p2 (y, q)
  · exact .inr (.inr h2)
  · by_cases h1 : At r p (y, q)
    · exfalso
      obtain ⟨e, t, et⟩ := h1
      simp only at e et
      subst e; subst et
      simp only [Gh.move, if_true, behind_append] at hB
      split at hB
      · rename_i t' ht'
        split at ht'
        · rename_i e2
          exact h2 ⟨e2, t', behind_some ht'⟩
        · cases ht'
      · cases hB
    · rw [move_base_other g h2 h1] at hB
      exact (h y q B hB).imp (fun hl => live_put hp hl h1) .inl

theorem Tight.new {g : Gh} {R : Roots} {X : Nat → Path → Prop} (h : Tight g R X) {d : Nat} {B : Base} : Tight (g.new d B) R (fun y q => X y q ∨ (y = d ∧ q = [])) := by
  intro y q B' hB
  simp only [Gh.new] at hB
  split at hB
  · rename_i e; exact .inr (.inr e)
  · exact (h y q B' hB).imp id .inl

theorem Tight.free {g : Gh} {R R' : Roots} {X : Nat → Path → Prop} (h : Tight g R X) {d : Nat} (hR' : ∀ y, y ≠ d → R' y = R y) : Tight (g.free d) R' (fun y q => X y q ∧ y ≠ d) := by
  intro y q B hB
  simp only [Gh.free] at hB
  split at hB
  · cases hB
  · rename_i hne
    refine (h y q B hB).imp (fun ⟨u, hu, ho⟩ => ⟨u, ?_, ho⟩) (fun hx => ⟨hx, hne⟩)
    simpa [rget, hR' y hne] using hu

/-- What floats comes to lie at its place. -/
theorem Tight.land {g : Gh} {R : Roots} {X : Nat → Path → Prop} {m m' : M} {r : Nat} {p : Path} {x : V} (h : Tight g (over R m.rs) X) (hp : m.put r p x = some m')
    (hx : ∀ t B, g.base r (p ++ t) = some B → ∃ u, x.get t = some u ∧ u.owner = true) : Tight g (over R m'.rs) (fun y q => X y q ∧ ¬ At r p (y, q)) := by
  intro y q B hB
  by_cases hat : At r p (y, q)
  · left
    obtain ⟨e, t, et⟩ := hat
    simp only at e et
    subst e; subst et
    obtain ⟨u, hu, ho⟩ := hx t B hB
    obtain ⟨tt, t', h1, h2, rfl⟩ := M.put_look hp
    exact ⟨u, by simp only [rget, over_lay h1, if_true]; rw [put_get_below h2]; exact hu, ho⟩
  · exact (h y q B hB).imp (fun hl => live_put hp hl hat) (fun hx => ⟨hx, hat⟩)

end Go.Bv
/- Roots made free, and things that go along into them. -/
namespace Go.Bv
open Go

section
variable (gam : Nat → Option (Nat × Nat))

/-- Nothing that lives in a root. -/
def Still (R : Roots) (d : Nat) : Prop := ∀ q, ¬ Live R (d, q)

theorem anew_ok {g : Gh} {w : World} {R : Roots} {m : M} {cs : List Value} {d : Nat} {t : V} (hS : MS gam g w R m cs) (hd : look m.rs d = some t) (hn : d < m.n) :
    MS gam (g.free d) w R (anew d m) cs ∧ MT gam g w m (g.free d) w (anew d m) ∧ FreeAt (g.free d) (over R (anew d m).rs) d [] ∧ Still (over R (anew d m).rs) d ∧
      (∀ X, Tight g (over R m.rs) X → Tight (g.free d) (over R (anew d m).rs) (fun y q => X y q ∧ y ≠ d)) := by
  have hR' : ∀ y, over R (lay .any m.rs d) y = if y = d then some .any else over R m.rs y := fun y => over_lay hd y
  have hlive : ∀ q, ¬ Live (over R (anew d m).rs) (d, q) := by
    rintro q ⟨u, hu, ho⟩
    have hu : rget (over R (lay .any m.rs d)) d q = some u := hu
    simp only [rget, hR', if_pos] at hu
    cases q with
    | nil => rw [get_nil] at hu; cases hu; cases ho
    | cons s q => rw [get_cons] at hu; simp [V.kid] at hu
  refine ⟨⟨?_, ?_, ?_, ⟨hS.gl.cells, hS.gl.sep, hS.gl.ro⟩⟩, ⟨Fr.free g w d, ⟨[.drop d []], rfl, fun v c h => Sv.sweep gam (turns_free g d) (Grows.refl _) v c h⟩, rfl, ?_, fun _ h => h, ?_⟩, ⟨?_, ?_⟩, hlive,
    fun X hX => hX.free fun y hy => by show over R (lay .any m.rs d) y = _; rw [hR', if_neg hy]⟩
  · exact Svs.sweep gam (turns_free g d) (Grows.refl _) _ _ hS.vs
  · refine Claims.free gam hS.cl (d := d) (R' := over R (lay .any m.rs d)) ?_
    intro y
    rw [hR']
    simp [over_look hd]
  · intro r v hv
    have hv : over R (lay .any m.rs d) r = some v := hv
    rw [hR'] at hv
    split at hv
    · cases hv; exact WFV.leaf any_leaf
    · exact hS.wf r v hv
  · intro r
    show (look (lay .any m.rs d) r).isSome = _
    rw [look_lay hd]
    split
    · rename_i e; rw [e, hd]; rfl
    · rfl
  · intro r p B hr hB
    right
    simp only [Gh.free]
    rw [if_neg (by omega)]; exact hB
  · intro q; simp [Gh.free]
  · intro q hq ⟨e, _⟩
    obtain ⟨r, q⟩ := q
    simp only at e
    subst e
    exact hlive q hq

/-- What keeps a root's floats: nothing of it is touched but one place. -/
structure Keeps (g : Gh) (w : World) (g' : Gh) (w' : World) (d : Nat) (P : Path → Prop) : Prop where
  base : ∀ q B, P q → g.base d q = some B → g'.base d q = some B
  none : ∀ q, P q → g.base d q = none → g'.base d q = none
  lam : ∀ b k q, P q → g.lam b k = some (d, q) → g'.lam b k = some (d, q)
  cell : ∀ b k q c, P q → g.lam b k = some (d, q) → cellAt w b k = some c → cellAt w' b k = some c
  grow : Grows g.rho g'.rho

theorem Keeps.refl (g : Gh) (w : World) (d : Nat) (P : Path → Prop) : Keeps g w g w d P :=
  ⟨fun _ _ _ h => h, fun _ _ h => h, fun _ _ _ _ h => h, fun _ _ _ _ _ _ h => h, Grows.refl _⟩

theorem Keeps.trans {g g1 g2 : Gh} {w w1 w2 : World} {d : Nat} {P Q : Path → Prop} (h : Keeps g w g1 w1 d P) (k : Keeps g1 w1 g2 w2 d Q) : Keeps g w g2 w2 d (fun q => P q ∧ Q q) where
  base q B hq hB := k.base q B hq.2 (h.base q B hq.1 hB)
  none q hq hB := k.none q hq.2 (h.none q hq.1 hB)
  lam b j q hq hl := k.lam b j q hq.2 (h.lam b j q hq.1 hl)
  cell b j q c hq hl hc := k.cell b j q c hq.2 (h.lam b j q hq.1 hl) (h.cell b j q c hq.1 hl hc)
  grow := h.grow.trans k.grow

theorem Keeps.weaken {g g' : Gh} {w w' : World} {d : Nat} {P Q : Path → Prop} (h : Keeps g w g' w' d P) (hq : ∀ q, Q q → P q) : Keeps g w g' w' d Q :=
  ⟨fun q B hQ => h.base q B (hq q hQ), fun q hQ => h.none q (hq q hQ), fun b k q hQ => h.lam b k q (hq q hQ), fun b k q c hQ => h.cell b k q c (hq q hQ), h.grow⟩

theorem Keeps.float {g g' : Gh} {w w' : World} {d : Nat} {P : Path → Prop} (h : Keeps g w g' w' d P) {p : Path} {x : V} (hp : ∀ t, P (p ++ t)) (hx : Float gam g w d p x) : Float gam g' w' d p x :=
  Float.keep gam h.grow (fun q B hB => h.base _ B (hp q) hB) (fun b k q hq => h.lam b k _ (hp q) hq) (fun b k q c hq hc => h.cell b k _ c (hp q) hq hc) hx

theorem Keeps.ck {g g' : Gh} {w w' : World} {d : Nat} {P : Path → Prop} (h : Keeps g w g' w' d P) {p : Path} {x : V} {c : Value} (hp : P p) (hx : Ck gam g d p x c) : Ck gam g' d p x c :=
  Ck.keep gam h.grow (fun B hB => h.base _ B hp hB) hx

/-- Not at a place nor below. -/
def Off (p : Path) (q : Path) : Prop := ∀ t, q ≠ p ++ t

theorem off_step {s t : Nat × Nat} (h : s ≠ t) (q : Path) : Off [s] ([t] ++ q) := by
  intro u e
  simp at e
  exact h e.1.symm

theorem keepsA_freeze1 {g g' : Gh} {w : World} {R : Roots} {m m' : M} {cs : List Value} {v x : V} {c : Value} (hS : MS gam g w R m cs) (h : freeze1 m v = some (x, m')) (hv : Sv gam g v c) :
    ∃ g', MS gam g' w R m' cs ∧ MT gam g w m g' w m' ∧ Pv gam g'.rho x c ∧ plainV x = true ∧ (∀ d, Still (over R m.rs) d → Keeps g w g' w d (fun _ => True) ∧ Still (over R m'.rs) d) ∧ m'.n = m.n ∧
      (∀ X, Tight g (over R m.rs) X → Tight g' (over R m'.rs) X) := by
  -- as 'freeze1_ok', with the root that is kept
  cases v with
  | als r p i j n z =>
    cases j with
    | succ j => simp [freeze1] at h
    | zero =>
      have h0 := h
      simp only [freeze1] at h
      split at h
      · rename_i es cap hget
        split at h
        · cases h
        · rename_i hcond
          simp only [Bool.or_eq_true, not_or, Bool.not_eq_true, decide_eq_false_iff_not] at hcond
          obtain ⟨hnown, hlen⟩ := hcond
          cases hput : m.put r p (.ro es) with
          | none => simp [hput] at h
          | some m1 =>
            simp only [hput, Option.some.injEq, Prod.mk.injEq] at h
            obtain ⟨rfl, rfl⟩ := h
            obtain ⟨t, t', h1, h2, e1⟩ := M.put_look hput
            obtain ⟨t0, h10, ht⟩ := M.get_look hget
            rw [h1] at h10; cases h10
            obtain ⟨B, k, hB, hc, hnk, _⟩ := hv
            have hpure : ∀ e, e ∈ es → ∀ x, x ∈ e → x.owner = false := by
              intro e he x hx
              cases ho : x.owner with
              | false => rfl
              | true =>
                have : (es.any fun e => e.any fun x => x.owner) = true := List.any_eq_true.2 ⟨e, he, List.any_eq_true.2 ⟨x, hx, ho⟩⟩
                rw [this] at hnown; cases hnown
            have hR : over R m.rs r = some t := over_look h1
            have hR' : ∀ y, over R m1.rs y = if y = r then some t' else over R m.rs y := by intro y; rw [e1]; exact over_lay h1 y
            obtain ⟨hC', hsub⟩ := freeze_at gam hS.cl hS.wf hS.gl hR ht hB hpure h2 hR'
            obtain ⟨hS', hM'⟩ := step_put gam (g' := g.freeze w r p) hS hput (turns_freeze g w r p) (Fr.freeze hS.gl r p) hC' (.inr (.inr (ro_leaf es))) (WFV.leaf (ro_leaf es)) (hS.gl.freeze r p) (by
              intro y q B' hy hB'
              by_cases hat : At r p (y, q)
              · exact .inl hat
              · right; simp only [Gh.freeze, if_neg hat]; exact hB')
            refine ⟨g.freeze w r p, hS', hM', ?_, rfl, fun d hd => ?_, hM'.n, fun X hX => by have := hX.freeze (w := w) hput; show Tight _ (over R (m1.mark r p).rs) X; rw [mark_rs]; exact this⟩
            · rw [hc]
              have := hsub i n (by omega) k hnk
              simpa using this
            have hrd : r ≠ d := by
              rintro rfl
              exact hd p ⟨.own es cap, by simp [rget, hR, ht], rfl⟩
            refine ⟨⟨?_, ?_, ?_, fun _ _ _ _ _ _ h => h, Grows.freeze hS.gl r p⟩, ?_⟩
            · intro q B' _ hB'
              simp only [Gh.freeze]
              rw [if_neg (fun h => hrd h.1.symm)]; exact hB'
            · intro q _ hB'
              simp only [Gh.freeze]
              split
              · rfl
              · exact hB'
            · intro b k q _ hl
              simp only [Gh.freeze]
              rw [if_neg]
              · exact hl
              · intro e; rw [hl] at e; cases e; exact hrd rfl
            · intro q hq
              have hq : Live (over R (m1.mark r p).rs) (d, q) := hq
              rw [mark_rs] at hq
              exact hd q (live_over hput (by rfl) (ro_leaf es) hq)
      · cases h
  | fn f pre caps =>
    cases pre <;> cases caps <;> simp [freeze1] at h
    obtain ⟨rfl, rfl⟩ := h
    exact ⟨g, hS, MT.refl gam g w m, plain_pv gam rfl hv, rfl, fun d hd => ⟨Keeps.refl _ _ _ _, hd⟩, rfl, fun _ h => h⟩
  | any => simp [freeze1] at h
  | agg cs => simp [freeze1] at h
  | tup cs => simp [freeze1] at h
  | box cs => simp [freeze1] at h
  | own es cap => simp [freeze1] at h
  | al r p i j => simp [freeze1] at h
  | int k n => simp only [freeze1, Option.some.injEq, Prod.mk.injEq] at h; obtain ⟨rfl, rfl⟩ := h; exact ⟨g, hS, MT.refl gam g w m, plain_pv gam rfl hv, rfl, fun d hd => ⟨Keeps.refl _ _ _ _, hd⟩, rfl, fun _ h => h⟩
  | bool b => simp only [freeze1, Option.some.injEq, Prod.mk.injEq] at h; obtain ⟨rfl, rfl⟩ := h; exact ⟨g, hS, MT.refl gam g w m, plain_pv gam rfl hv, rfl, fun d hd => ⟨Keeps.refl _ _ _ _, hd⟩, rfl, fun _ h => h⟩
  | str b => simp only [freeze1, Option.some.injEq, Prod.mk.injEq] at h; obtain ⟨rfl, rfl⟩ := h; exact ⟨g, hS, MT.refl gam g w m, plain_pv gam rfl hv, rfl, fun d hd => ⟨Keeps.refl _ _ _ _, hd⟩, rfl, fun _ h => h⟩
  | sc x => simp only [freeze1, Option.some.injEq, Prod.mk.injEq] at h; obtain ⟨rfl, rfl⟩ := h; exact ⟨g, hS, MT.refl gam g w m, plain_pv gam rfl hv, rfl, fun d hd => ⟨Keeps.refl _ _ _ _, hd⟩, rfl, fun _ h => h⟩
  | ifc t x => simp only [freeze1, Option.some.injEq, Prod.mk.injEq] at h; obtain ⟨rfl, rfl⟩ := h; exact ⟨g, hS, MT.refl gam g w m, plain_pv gam rfl hv, rfl, fun d hd => ⟨Keeps.refl _ _ _ _, hd⟩, rfl, fun _ h => h⟩
  | ro es => simp only [freeze1, Option.some.injEq, Prod.mk.injEq] at h; obtain ⟨rfl, rfl⟩ := h; exact ⟨g, hS, MT.refl gam g w m, plain_pv gam rfl hv, rfl, fun d hd => ⟨Keeps.refl _ _ _ _, hd⟩, rfl, fun _ h => h⟩
  | rop cs j => simp only [freeze1, Option.some.injEq, Prod.mk.injEq] at h; obtain ⟨rfl, rfl⟩ := h; exact ⟨g, hS, MT.refl gam g w m, plain_pv gam rfl hv, rfl, fun d hd => ⟨Keeps.refl _ _ _ _, hd⟩, rfl, fun _ h => h⟩
  | gp a j => simp only [freeze1, Option.some.injEq, Prod.mk.injEq] at h; obtain ⟨rfl, rfl⟩ := h; exact ⟨g, hS, MT.refl gam g w m, plain_pv gam rfl hv, rfl, fun d hd => ⟨Keeps.refl _ _ _ _, hd⟩, rfl, fun _ h => h⟩

theorem norm_plain {v : V} (h : plainV v = true) : plainV (norm v) = true := by
  unfold norm
  split
  · rfl
  · exact h

theorem norm_pv {rho : Nat → Nat → Option Value} {v : V} {c : Value} (h : Pv gam rho v c) : Pv gam rho (norm v) c := by
  unfold norm
  split
  · have e : c = .slice none 0 0 := h
    exact ⟨none, 0, 0, 0, 0, e, Nat.le_refl _, .inl rfl, trivial⟩
  · exact h

theorem norm_sv {g : Gh} {v : V} {c : Value} (h : Sv gam g v c) : Sv gam g (norm v) c := by
  unfold norm
  split
  · have e : c = .slice none 0 0 := h
    exact ⟨none, 0, 0, 0, 0, e, Nat.le_refl _, .inl rfl, trivial⟩
  · exact h

theorem frz1_eq {m m' : M} {v x : V} (h : frz1 m v = some (x, m')) : ∃ y, freeze1 m v = some (y, m') ∧ x = norm y := by
  unfold frz1 at h
  split at h
  · rename_i y m1 h1
    cases h
    exact ⟨y, h1, rfl⟩
  · cases h

theorem keepsA_frz1 {g g' : Gh} {w : World} {R : Roots} {m m' : M} {cs : List Value} {v x : V} {c : Value} (hS : MS gam g w R m cs) (h : frz1 m v = some (x, m')) (hv : Sv gam g v c) :
    ∃ g', MS gam g' w R m' cs ∧ MT gam g w m g' w m' ∧ Pv gam g'.rho x c ∧ plainV x = true ∧ (∀ d, Still (over R m.rs) d → Keeps g w g' w d (fun _ => True) ∧ Still (over R m'.rs) d) ∧ m'.n = m.n ∧
      (∀ X, Tight g (over R m.rs) X → Tight g' (over R m'.rs) X) := by
  obtain ⟨y, hy, rfl⟩ := frz1_eq h
  obtain ⟨g1, a1, a2, a3, a4, a5, a6, a7⟩ := keepsA_freeze1 gam (g' := g) hS hy hv
  exact ⟨g1, a1, a2, norm_pv gam a3, norm_plain a4, a5, a6, a7⟩

theorem keeps_frz1 {g g' : Gh} {w : World} {R : Roots} {m m' : M} {cs : List Value} {v x : V} {c : Value} (hS : MS gam g w R m cs) (h : frz1 m v = some (x, m')) (hv : Sv gam g v c) {d : Nat} (hd : Still (over R m.rs) d) :
    ∃ g', MS gam g' w R m' cs ∧ MT gam g w m g' w m' ∧ Pv gam g'.rho x c ∧ plainV x = true ∧ Keeps g w g' w d (fun _ => True) ∧ Still (over R m'.rs) d ∧ m'.n = m.n ∧
      (∀ X, Tight g (over R m.rs) X → Tight g' (over R m'.rs) X) := by
  obtain ⟨g1, a1, a2, a3, a4, a5, a6, a7⟩ := keepsA_frz1 gam (g' := g) hS h hv
  exact ⟨g1, a1, a2, a3, a4, (a5 d hd).1, (a5 d hd).2, a6, a7⟩

theorem keeps_freeze1 {g g' : Gh} {w : World} {R : Roots} {m m' : M} {cs : List Value} {v x : V} {c : Value} (hS : MS gam g w R m cs) (h : freeze1 m v = some (x, m')) (hv : Sv gam g v c) {d : Nat} (hd : Still (over R m.rs) d) :
    ∃ g', MS gam g' w R m' cs ∧ MT gam g w m g' w m' ∧ Pv gam g'.rho x c ∧ plainV x = true ∧ Keeps g w g' w d (fun _ => True) ∧ Still (over R m'.rs) d ∧ m'.n = m.n ∧
      (∀ X, Tight g (over R m.rs) X → Tight g' (over R m'.rs) X) := by
  obtain ⟨g1, a1, a2, a3, a4, a5, a6, a7⟩ := keepsA_freeze1 gam (g' := g) hS h hv
  exact ⟨g1, a1, a2, a3, a4, (a5 d hd).1, (a5 d hd).2, a6, a7⟩

/-- What a part of a new thing is. -/
structure PartOk (g : Gh) (w : World) (d : Nat) (p : Path) (x : V) (c : Value) : Prop where
  fl : Float gam g w d p x
  ck : Ck gam g d p x c
  wf : WFV x
  ol : x.owner = true ∨ Leaf x
  ex : ∀ t B, g.base d (p ++ t) = some B → ∃ u, x.get t = some u ∧ u.owner = true

theorem Keeps.part {g g' : Gh} {w w' : World} {d : Nat} {P : Path → Prop} (h : Keeps g w g' w' d P) {p : Path} {x : V} {c : Value} (hp : ∀ t, P (p ++ t)) (hx : PartOk gam g w d p x c) : PartOk gam g' w' d p x c :=
  ⟨h.float gam hp hx.fl, h.ck gam (by simpa using hp []) hx.ck, hx.wf, hx.ol, fun t B hB => by
    cases hb : g.base d (p ++ t) with
    | none => rw [h.none _ (hp t) hb] at hB; cases hB
    | some B' => exact hx.ex t B' hb⟩

theorem part_plain {g : Gh} {w : World} {d : Nat} {p : Path} {x : V} {c : Value} (hp : plainV x = true) (h : Pv gam g.rho x c) (hf : ∀ q, g.base d (p ++ q) = none) : PartOk gam g w d p x c := by
  refine ⟨Float.leaf gam (plain_leaf hp) (plain_owner hp), ?_, WFV.leaf (plain_leaf hp), .inr (plain_leaf hp), fun t B hB => by rw [hf] at hB; cases hB⟩
  have := plain_leaf hp
  cases x <;> simp [plainV] at hp <;> exact ⟨h, this⟩

theorem goAlong_ok {g : Gh} {w : World} {R : Roots} {m m' : M} {cs : List Value} {v x : V} {c : Value} {d : Nat} {s : Nat × Nat} (hS : MS gam g w R m cs) (h : goAlong m (d, [s]) v = some (x, m')) (hv : Sv gam g v c)
    (hd : Still (over R m.rs) d) (hdn : d < m.n) (hfree : ∀ q, g.base d ([s] ++ q) = none) (hT : Tight g (over R m.rs) (fun y _ => y = d)) :
    ∃ g', MS gam g' w R m' cs ∧ MT gam g w m g' w m' ∧ PartOk gam g' w d [s] x c ∧ Keeps g w g' w d (Off [s]) ∧ Still (over R m'.rs) d ∧ m'.n = m.n ∧ Tight g' (over R m'.rs) (fun y _ => y = d) := by
  have viaFreeze : freeze1 m v = some (x, m') → ∃ g', MS gam g' w R m' cs ∧ MT gam g w m g' w m' ∧ PartOk gam g' w d [s] x c ∧ Keeps g w g' w d (Off [s]) ∧ Still (over R m'.rs) d ∧ m'.n = m.n ∧ Tight g' (over R m'.rs) (fun y _ => y = d) := by
    intro hf
    obtain ⟨g', a, b, e, f, k, l, n, hT'⟩ := keeps_freeze1 gam (g' := g) hS hf hv hd
    exact ⟨g', a, b, part_plain gam f e (fun q => k.none _ trivial (hfree q)), k.weaken (fun _ _ => trivial), l, n, hT' _ hT⟩
  have viaTake : ∀ (r : Nat) (p : Path), m.take r p (some (d, [s])) = some (x, m') → (∀ g', g'.base d [s] = g.base r p → Ck gam g' d [s] x c) →
      ∃ g', MS gam g' w R m' cs ∧ MT gam g w m g' w m' ∧ PartOk gam g' w d [s] x c ∧ Keeps g w g' w d (Off [s]) ∧ Still (over R m'.rs) d ∧ m'.n = m.n ∧ Tight g' (over R m'.rs) (fun y _ => y = d) := by
    intro r p ht hck
    have hfa : FreeAt g (over R m.rs) d [s] := ⟨hfree, fun q hq ⟨e, _⟩ => by obtain ⟨y, q⟩ := q; simp only at e; subst e; exact hd q hq⟩
    obtain ⟨hget, ho, hwf, _, hS', hM', hF⟩ := take_ok gam hS ht d [s] (fun y e => by cases e; rfl) (fun e => by cases e) hfa
    obtain ⟨t, ht1, ht2⟩ := M.get_look hget
    have hrd : r ≠ d := by
      rintro rfl
      exact hd p ⟨x, by simp [rget, over_look ht1, ht2], ho⟩
    obtain ⟨_, _, m1, s1, hput, em, _, _⟩ := take_shape ht
    refine ⟨_, hS', hM', ⟨hF, hck _ ?_, hwf, .inl ho, ?_⟩, ⟨?_, ?_, ?_, fun _ _ _ _ _ _ h => h, Grows.refl _⟩, ?_, hM'.n, ?_⟩
    · have := move_base_to g r p d [s] []
      simpa using this
    · intro t' B hB
      rw [move_base_to] at hB
      rcases hT _ _ _ hB with ⟨u, hu, huo⟩ | hh
      · refine ⟨u, ?_, huo⟩
        simp only [rget, over_look ht1, get_append, ht2] at hu
        exact hu
      · exact (hrd hh).elim
    · intro q B hq hB
      rw [move_base_other]
      · exact hB
      · rintro ⟨_, t, e⟩; exact hq t e
      · rintro ⟨e, _⟩; exact hrd e.symm
    · intro q hq hB
      rw [move_base_other]
      · exact hB
      · rintro ⟨_, t, e⟩; exact hq t e
      · rintro ⟨e, _⟩; exact hrd e.symm
    · intro b k q _ hl
      exact move_lam_other g hl (fun h => hrd h.1.symm)
    · intro q hq
      rw [em] at hq
      have hq : Live (over R (m1.mark r p).rs) (d, q) := hq
      rw [mark_rs] at hq
      exact hd q (live_over hput (by rfl) any_leaf hq)
    · have := hT.move (r2 := d) (p2 := [s]) hput
      rw [em]
      show Tight _ (over R (m1.mark r p).rs) _
      rw [mark_rs]
      refine this.weaken ?_
      rintro y q (h | h)
      · exact h
      · exact h.1
  unfold goAlong at h
  split at h
  · rename_i r p
    split at h
    · rename_i bs hget
      refine viaTake r p h ?_
      intro g' hb
      obtain ⟨hg2, _⟩ := take_shape h
      rw [hget] at hg2; cases hg2
      obtain ⟨B, hB, hc⟩ := hv
      exact ⟨B, by rw [hb]; exact hB, by rw [hc]; simp⟩
    · cases h
  · rename_i r p n
    split at h
    · rename_i es cap hget
      split at h
      · rename_i hn
        refine viaTake r _ h ?_
        intro g' hb
        obtain ⟨hg2, _⟩ := take_shape h
        rw [hget] at hg2; cases hg2
        obtain ⟨B, k, hB, hc, hnk, hk⟩ := hv
        obtain ⟨_, hkC⟩ := hk rfl
        simp at hn
        refine ⟨B, by rw [hb]; exact hB, ?_⟩
        rw [hc, hn.1, show k = B.C by omega]
        simp
      · exact viaFreeze h
    · exact viaFreeze h
  · exact viaFreeze h

end
end Go.Bv
/- Operators on trees and on values. -/
namespace Go.Bv
open Go

theorem bytesEq_eq : ∀ a b : List UInt8, bytesEq a b = (a == b)
  | [], [] => rfl
  | [], _ :: _ => rfl
  | _ :: _, [] => rfl
  | a :: x, b :: y => by
    simp only [bytesEq, bytesEq_eq x y]
    have : Nat.beq a.toNat b.toNat = (a == b) := by
      rw [Bool.eq_iff_iff]
      simp [UInt8.toNat_inj]
    rw [this]; rfl

theorem bytesLess_eq : ∀ a b : List UInt8, bytesLess a b = Op.bytesLess a b
  | _, [] => by cases ‹List UInt8› <;> rfl
  | [], _ :: _ => rfl
  | a :: x, b :: y => by
    simp only [bytesLess, Op.bytesLess, bytesLess_eq x y]
    have h1 : Nat.beq a.toNat b.toNat = (a == b) := by rw [Bool.eq_iff_iff]; simp [UInt8.toNat_inj]
    have h2 : Nat.blt a.toNat b.toNat = decide (a < b) := by rw [Bool.eq_iff_iff]; simp [UInt8.lt_iff_toNat_lt]
    rw [h1, h2]

section
variable (gam : Nat → Option (Nat × Nat)) (E : Env)

theorem str_append (a b : List UInt8) : (⟨a.toArray⟩ : ByteArray) ++ ⟨b.toArray⟩ = ⟨(a ++ b).toArray⟩ := by
  apply ByteArray.ext
  simp

theorem part_ok {g : Gh} {t : TypeId} {xs : List V} {cv : Array Value} {off : Nat} {v : V} (hx : Svs gam g xs cv.toList) (h : partV E t xs off = some v) {u : TypeDesc} (hu : E.P.underlying t = some u)
    {i : TypeInfo} (hi : E.P.info? t = some i) (w : World) : ∃ c, (part t cv off).run E.P w = .ok c w ∧ Sv gam g v c := by
  have hsz : E.P.cellsOf t = i.size := by simp [Program.cellsOf, hi]
  have hagg : (isAgg t).run E.P w = .ok (isAggT E t) w := by
    simp only [isAgg, isAggT, hu, Sem.run_bind, run_underlying hu, Result.andThen_ok]
    cases u <;> rfl
  unfold partV at h
  simp only [part, Sem.run_bind, hagg, Result.andThen_ok]
  cases hb : isAggT E t with
  | true =>
    simp only [hb, if_true] at h ⊢
    split at h
    · rename_i hle
      simp only [Option.some.injEq] at h
      subst h
      rw [Sem.run_bind, run_sizeOf w hi, Result.andThen_ok]
      refine ⟨_, rfl, cv.extract off (off + E.P.cellsOf t), rfl, ?_⟩
      have : (cv.extract off (off + E.P.cellsOf t)).toList = (cv.toList.drop off).take (E.P.cellsOf t) := by
        simp [Array.toList_extract, List.extract]
      rw [this]
      exact Svs.take gam _ (Svs.drop gam _ hx)
    · cases h
  | false =>
    simp only [hb, Bool.false_eq_true, if_false] at h ⊢
    obtain ⟨c, h1, h2⟩ := Svs.get gam hx h
    have : cv[off]? = some c := by rw [← Array.getElem?_toList]; exact h1
    rw [this]
    exact ⟨c, rfl, h2⟩

/-- Pointers of package-level things that are told apart. -/
def GamApart (w : World) : Prop := ∀ a b, E.apart a b = true → ∀ x y, gam a = some x → gam b = some y → ∀ i j,
  (sameAddr ⟨x.1, x.2 + i, none⟩ ⟨y.1, y.2 + j, none⟩).run E.P w = .ok (decide (a = b ∧ i = j)) w

/-- What a value of a kind that may be nil is. -/
theorem isNil_true {g : Gh} {u : TypeDesc} {x : V} {c : Value} (h : isNil u x = some true) (hx : Sv gam g x c) :
    (∃ e, u = .pointer e ∧ c = .pointer none) ∨ (∃ e n k, u = .slice e ∧ c = .slice none n k) ∨ (∃ k e, u = .map k e ∧ c = .map none) ∨ (∃ a b v, u = .func a b v ∧ c = .nilFunc) ∨ (∃ ms, u = .interface ms ∧ c = .nilIface) := by
  unfold isNil at h
  split at h <;> first
    | cases h; done
    | skip
  · exact .inl ⟨_, rfl, hx⟩
  · exact .inr (.inl ⟨_, _, _, rfl, hx⟩)
  · exact .inr (.inr (.inl ⟨_, _, rfl, hx⟩))
  · exact .inr (.inr (.inr (.inl ⟨_, _, _, rfl, hx⟩)))
  · exact .inr (.inr (.inr (.inr ⟨_, rfl, hx⟩)))

theorem isNil_false {g : Gh} {u : TypeDesc} {x : V} {c : Value} (h : isNil u x = some false) (hx : Sv gam g x c) :
    (∃ e a, u = .pointer e ∧ c = .pointer (some a)) ∨ (∃ e a n k, u = .slice e ∧ c = .slice (some a) n k) ∨ (∃ a b v f p q, u = .func a b v ∧ c = .func f p q) ∨ (∃ ms t v, u = .interface ms ∧ c = .iface t v) := by
  unfold isNil at h
  split at h <;> first
    | cases h; done
    | skip
  · obtain ⟨B, _, e⟩ := hx; exact .inl ⟨_, _, rfl, e⟩
  · obtain ⟨b, o, e, _⟩ := hx; exact .inl ⟨_, _, rfl, e⟩
  · obtain ⟨b, o, _, e⟩ := hx; exact .inl ⟨_, _, rfl, e⟩
  · obtain ⟨B, k, _, e, _⟩ := hx; exact .inr (.inl ⟨_, _, _, _, rfl, e⟩)
  · obtain ⟨a, b, o, z, k, e, _, hs, _⟩ := hx
    rcases hs with hs | hs
    · cases hs
    · subst hs; exact .inr (.inl ⟨_, _, _, _, rfl, e⟩)
  · obtain ⟨p, q, e, _⟩ := hx; exact .inr (.inr (.inl ⟨_, _, _, _, _, _, rfl, e⟩))
  · obtain ⟨cx, e, _⟩ := hx; exact .inr (.inr (.inr ⟨_, _, _, rfl, e⟩))

theorem nil_left {g : Gh} {w : World} {u : TypeDesc} {t : TypeId} {x y : V} {cx cy : Value} {b : Bool} (hu : E.P.underlying t = some u) (h1 : isNil u x = some true) (h2 : isNil u y = some b) (hx : Sv gam g x cx) (hy : Sv gam g y cy) (D : Nat) :
    (Op.equalIn (D + 1) t cx cy).run E.P w = .ok b w := by
  have hrun := run_underlying hu w
  rcases isNil_true gam h1 hx with ⟨e, rfl, rfl⟩ | ⟨e, n, k, rfl, rfl⟩ | ⟨k, e, rfl, rfl⟩ | ⟨a, c, v, rfl, rfl⟩ | ⟨ms, rfl, rfl⟩ <;> cases b
  all_goals first
    | (rcases isNil_false gam h2 hy with ⟨e', a', h, rfl⟩ | ⟨e', a', n', k', h, rfl⟩ | ⟨a', b', v', f', p', q', h, rfl⟩ | ⟨ms', t', v', h, rfl⟩ <;> cases h <;> simp [Op.equalIn, hrun])
    | (rcases isNil_true gam h2 hy with ⟨e', h, rfl⟩ | ⟨e', n', k', h, rfl⟩ | ⟨k', e', h, rfl⟩ | ⟨a', c', v', h, rfl⟩ | ⟨ms', h, rfl⟩ <;> cases h <;> simp [Op.equalIn, hrun])

theorem nil_right {g : Gh} {w : World} {u : TypeDesc} {t : TypeId} {x y : V} {cx cy : Value} {b : Bool} (hu : E.P.underlying t = some u) (h1 : isNil u x = some b) (h2 : isNil u y = some true) (hx : Sv gam g x cx) (hy : Sv gam g y cy) (D : Nat) :
    (Op.equalIn (D + 1) t cx cy).run E.P w = .ok b w := by
  have hrun := run_underlying hu w
  rcases isNil_true gam h2 hy with ⟨e, rfl, rfl⟩ | ⟨e, n, k, rfl, rfl⟩ | ⟨k, e, rfl, rfl⟩ | ⟨a, c, v, rfl, rfl⟩ | ⟨ms, rfl, rfl⟩ <;> cases b
  all_goals first
    | (rcases isNil_false gam h1 hx with ⟨e', a', h, rfl⟩ | ⟨e', a', n', k', h, rfl⟩ | ⟨a', b', v', f', p', q', h, rfl⟩ | ⟨ms', t', v', h, rfl⟩ <;> cases h <;> simp [Op.equalIn, hrun])
    | (rcases isNil_true gam h1 hx with ⟨e', h, rfl⟩ | ⟨e', n', k', h, rfl⟩ | ⟨k', e', h, rfl⟩ | ⟨a', c', v', h, rfl⟩ | ⟨ms', h, rfl⟩ <;> cases h <;> simp [Op.equalIn, hrun])

theorem toList_str (a : List UInt8) : (⟨a.toArray⟩ : ByteArray).toList = a := by
  rw [ByteArray.toList_eq]

theorem eqT_ok {g : Gh} {w : World} (hA : GamApart gam E w) (hI : ∀ t u, E.P.underlying t = some u → ∃ i, E.P.info? t = some i) : ∀ (d : Nat) (t : TypeId) (x y : V) (cx cy : Value) (b : Bool), eqT E d t x y = some b → Sv gam g x cx → Sv gam g y cy →
    ∀ D, d ≤ D → (Op.equalIn D t cx cy).run E.P w = .ok b w := by
  intro d
  induction d with
  | zero => intro t x y cx cy b h; simp [eqT] at h
  | succ d ih =>
    intro t x y cx cy b h hx hy D hD
    obtain ⟨D, rfl⟩ : ∃ k, D = k + 1 := ⟨D - 1, by omega⟩
    have hdD : d ≤ D := by omega
    unfold eqT at h
    cases hu : E.P.underlying t with
    | none => simp [hu] at h
    | some u =>
      simp only [hu] at h
      have hrun := run_underlying hu w
      split at h
      · rename_i k a k' b'
        split at h
        · split at h
          · rename_i hk
            simp at hk h
            subst hk; subst h
            have hx : cx = .int k a := hx
            have hy : cy = .int k b' := hy
            subst hx; subst hy
            exact run_equalIn_int w D t k _ a b' hu
          · cases h
        · cases h
      · rename_i a b'
        split at h
        · simp at h
          subst h
          have hx : cx = .bool a := hx
          have hy : cy = .bool b' := hy
          subst hx; subst hy
          exact run_equalIn_bool' w D t a b' hu
        · cases h
      · rename_i a b'
        split at h
        · simp only [Option.some.injEq] at h
          subst h
          have hx : cx = .string ⟨a.toArray⟩ := hx
          have hy : cy = .string ⟨b'.toArray⟩ := hy
          subst hx; subst hy
          rw [run_equalIn_string w D t _ _ hu, toList_str, toList_str, bytesEq_eq]
        · cases h
      · rename_i t1 x1 t2 y1
        split at h
        · obtain ⟨c1, rfl, k1⟩ : ∃ c1, cx = .iface t1 c1 ∧ Pv gam g.rho x1 c1 := hx
          obtain ⟨c2, rfl, k2⟩ : ∃ c2, cy = .iface t2 c2 ∧ Pv gam g.rho y1 c2 := hy
          split at h
          · rename_i he
            simp at he
            subst he
            cases hi : E.P.info? t1 with
            | none => simp [hi] at h
            | some i =>
              simp only [hi] at h
              split at h
              · rename_i hc
                have := ih t1 x1 y1 c1 c2 b h (Pv.sv gam k1) (Pv.sv gam k2) D hdD
                simp [Op.equalIn, hrun, typeInfo, hi, hc, this]
              · cases h
          · rename_i he
            simp at he h
            subst h
            simp [Op.equalIn, hrun, he]
        · cases h
      · rename_i a1 j1 a2 j2
        split at h
        · rename_i e
          split at h
          · rename_i hc
            simp only [Bool.and_eq_true, bne_iff_ne, ne_eq, Option.some.injEq] at hc h
            obtain ⟨b1, o1, h1, rfl⟩ := hx
            obtain ⟨b2, o2, h2, rfl⟩ := hy
            have := hA a1 a2 hc.2 _ _ h1 h2 j1 j2
            cases hie : E.P.info? e with
            | none => simp [Program.cellsOf, hie] at hc
            | some ie =>
              have hsz := run_sizeOf w (P := E.P) hie
              simp only [ptr, Op.equalIn, Sem.run_bind, hrun, Result.andThen_ok, hsz]
              rw [if_pos hc.1]
              simp only at this
              rw [this, ← h]
              congr 1
              rw [Bool.eq_iff_iff]; simp
              intro _; exact eq_comm
          · cases h
        · cases h
      · rename_i xs ys
        split at h
        · rename_i fs
          split at h
          · cases h
          · rename_i hs
            obtain ⟨c1, rfl, k1⟩ : ∃ cv, cx = .agg cv ∧ Svs gam g xs cv.toList := hx
            obtain ⟨c2, rfl, k2⟩ : ∃ cv, cy = .agg cv ∧ Svs gam g ys cv.toList := hy
            have hf : E.P.fieldsOf t = fs := by simp [Program.fieldsOf, hu]
            rw [run_equalIn_struct w D t c1 c2 (by rw [hf]; exact hu) (by simpa using hs), hf]
            clear hs hf hu hrun
            generalize fs.toList = l at h
            induction l with
            | nil => simp [eqT.eqFs] at h; subst h; rfl
            | cons f l ihl =>
              simp only [eqT.eqFs] at h
              simp only [Op.eqFields]
              split at h
              · rename_i hn
                rw [if_neg (by simpa using hn)]
                exact ihl h
              · rename_i hn
                rw [if_pos (by simpa using hn)]
                cases hp1 : partV E f.type xs f.offset with
                | none => simp [hp1] at h
                | some p1 =>
                  cases hp2 : partV E f.type ys f.offset with
                  | none => simp [hp1, hp2] at h
                  | some p2 =>
                    simp only [hp1, hp2] at h
                    have hft : ∃ u', E.P.underlying f.type = some u' := by
                      cases hfu : E.P.underlying f.type with
                      | none =>
                        exfalso
                        cases d with
                        | zero => simp [eqT] at h
                        | succ d => simp [eqT, hfu] at h
                      | some u' => exact ⟨u', rfl⟩
                    obtain ⟨u', hu'⟩ := hft
                    obtain ⟨i', hi'⟩ := hI _ _ hu'
                    obtain ⟨d1, r1, s1⟩ := part_ok gam E k1 hp1 hu' hi' w
                    obtain ⟨d2, r2, s2⟩ := part_ok gam E k2 hp2 hu' hi' w
                    simp only [Sem.run_bind, r1, r2, Result.andThen_ok]
                    cases hq : eqT E d f.type p1 p2 with
                    | none => simp [hq] at h
                    | some q =>
                      rw [ih f.type p1 p2 d1 d2 q hq s1 s2 D hdD, Result.andThen_ok]
                      cases hq2 : eqT.eqFs E (eqT E d) xs ys l with
                      | none => simp [hq, hq2] at h
                      | some q2 =>
                        simp only [hq, hq2, Option.some.injEq] at h
                        cases q with
                        | true => rw [Bool.true_and] at h; subst h; simpa using ihl hq2
                        | false => rw [Bool.false_and] at h; subst h; simp
        · cases h
      · cases h1 : isNil u x with
        | none => simp [h1] at h
        | some p =>
          cases h2 : isNil u y with
          | none => simp [h1, h2] at h
          | some q =>
            rw [h1, h2] at h
            cases p
            · cases q
              · simp at h
              · simp at h; subst h; exact nil_right gam E hu h1 h2 hx hy D
            · simp at h; subst h; exact nil_left gam E hu h1 h2 hx hy D

theorem of_agg {g : Gh} {x : V} {xs : Array Value} (h : Sv gam g x (.agg xs)) : x = .any ∨ (∃ cs, x = .agg cs) ∨ ∃ a, x = .sc (.agg a) := by
  cases x <;> first
    | exact .inl rfl
    | exact .inr (.inl ⟨_, rfl⟩)
    | (have h : Value.agg xs = _ := h; subst h; exact .inr (.inr ⟨_, rfl⟩))
    | (cases h; done)
    | (obtain ⟨_, e, _⟩ := h; cases e; done)
    | (obtain ⟨_, _, e, _⟩ := h; cases e; done)
    | (obtain ⟨_, _, _, _, e, _⟩ := h; cases e; done)
    | (obtain ⟨_, _, _, _, _, e, _⟩ := h; cases e; done)
    | (obtain ⟨_, _, _, e⟩ := h; cases e; done)
    | (obtain ⟨_, _, e⟩ := h; cases e; done)
    | (obtain ⟨_, _, _, e, _⟩ := h; cases e; done)

theorem of_nilIface {g : Gh} {x : V} (h : Sv gam g x .nilIface) : x = .any ∨ x = .sc .nilIface := by
  cases x <;> first
    | exact .inl rfl
    | (have h : Value.nilIface = _ := h; subst h; exact .inr rfl)
    | (cases h; done)
    | (obtain ⟨_, e, _⟩ := h; cases e; done)
    | (obtain ⟨_, _, e, _⟩ := h; cases e; done)
    | (obtain ⟨_, _, _, _, e, _⟩ := h; cases e; done)
    | (obtain ⟨_, _, _, _, _, e, _⟩ := h; cases e; done)
    | (obtain ⟨_, _, _, e⟩ := h; cases e; done)
    | (obtain ⟨_, _, e⟩ := h; cases e; done)
    | (obtain ⟨_, _, _, e, _⟩ := h; cases e; done)

theorem eqGuard_ok {g : Gh} {w : World} {op : BinOp} {t : TypeId} {x' y' : Operand} {x y : V} {cx cy : Value} (h : guardV E t (isConst x' || isConst y') x y = true) (hx : Sv gam g x cx) (hy : Sv gam g y cy)
    (nx : x ≠ .any) (ny : y ≠ .any) : (eqGuard op t x' y' cx cy).run E.P w = .ok () w := by
  by_cases ha : ∃ xs ys, cx = .agg xs ∧ cy = .agg ys
  · obtain ⟨xs, ys, rfl, rfl⟩ := ha
    refine run_eqGuard_agg w op t x' y' xs ys ?_
    rcases of_agg gam hx with h1 | ⟨cs, rfl⟩ | ⟨a, rfl⟩
    · exact (nx h1).elim
    · rcases of_agg gam hy with h2 | ⟨cs2, rfl⟩ | ⟨a, rfl⟩
      · exact (ny h2).elim
      · simpa [guardV] using h
      · simp [guardV] at h
    · cases y <;> simp [guardV] at h
  · by_cases hn : cx = .nilIface ∧ cy = .nilIface
    · obtain ⟨rfl, rfl⟩ := hn
      rcases of_nilIface gam hx with h1 | rfl
      · exact (nx h1).elim
      · rcases of_nilIface gam hy with h2 | rfl
        · exact (ny h2).elim
        · have hl : (isConst x' || isConst y') = true := by simpa [guardV] using h
          cases x' <;> cases y' <;> simp [isConst] at hl <;> cases op <;> simp [eqGuard]
    · have : eqGuard op t x' y' cx cy = (do if !(op matches .eql | .neq) then return; pure ()) := by
        unfold eqGuard
        cases cx <;> first
          | rfl
          | (cases cy <;> first
              | rfl
              | (exact (hn ⟨rfl, rfl⟩).elim)
              | (exact (ha ⟨_, _, rfl, rfl⟩).elim))
      rw [this]
      cases op <;> rfl

theorem eqT_any {d : Nat} {t : TypeId} {x y : V} {b : Bool} (h : eqT E d t x y = some b) : x ≠ .any ∧ y ≠ .any := by
  cases d with
  | zero => simp [eqT] at h
  | succ d =>
    unfold eqT at h
    cases hu : E.P.underlying t with
    | none => simp [hu] at h
    | some u =>
      simp only [hu] at h
      constructor
      · rintro rfl
        have : isNil u .any = none := by cases u <;> rfl
        simp [this] at h
      · rintro rfl
        have : isNil u .any = none := by cases u <;> rfl
        cases x <;> simp [this] at h

/-- Values that are told by their own kind alone. -/
def told : Value → Bool
  | .int .. | .float .. | .complex .. | .string _ => true
  | _ => false

theorem of_told {g : Gh} {x : V} {c : Value} (hc : told c = true) (h : Sv gam g x c) : x = .any ∨ (∃ k n, x = .int k n) ∨ (∃ b, x = .str b) ∨ ∃ v, x = .sc v ∧ told v = true := by
  cases x <;> first
    | exact .inl rfl
    | exact .inr (.inl ⟨_, _, rfl⟩)
    | exact .inr (.inr (.inl ⟨_, rfl⟩))
    | (have h : c = _ := h; subst h; exact .inr (.inr (.inr ⟨_, rfl, hc⟩)))
    | (have h : c = _ := h; subst h; cases hc; done)
    | (cases h; done)
    | (obtain ⟨_, e, _⟩ := h; subst e; cases hc; done)
    | (obtain ⟨_, _, e, _⟩ := h; subst e; cases hc; done)
    | (obtain ⟨_, _, _, _, e, _⟩ := h; subst e; cases hc; done)
    | (obtain ⟨_, _, _, _, _, e, _⟩ := h; subst e; cases hc; done)
    | (obtain ⟨_, _, _, e⟩ := h; subst e; cases hc; done)
    | (obtain ⟨_, _, e⟩ := h; subst e; cases hc; done)
    | (obtain ⟨_, _, _, e, _⟩ := h; subst e; cases hc; done)

theorem isNil_told {u : TypeDesc} {x : V} (h : x = .any ∨ (∃ k n, x = .int k n) ∨ (∃ b, x = .str b) ∨ ∃ v, x = .sc v ∧ told v = true) : isNil u x = none := by
  rcases h with rfl | ⟨k, n, rfl⟩ | ⟨b, rfl⟩ | ⟨v, rfl, hv⟩
  · cases u <;> rfl
  · cases u <;> rfl
  · cases u <;> rfl
  · cases v <;> simp [told] at hv <;> cases u <;> rfl

theorem eqT_told {g : Gh} {d : Nat} {t : TypeId} {x y : V} {cx cy : Value} {b : Bool} (h : eqT E d t x y = some b) (hx : Sv gam g x cx) (hy : Sv gam g y cy) (h1 : told cx = true) (h2 : told cy = true) :
    (∃ k a k' b, x = .int k a ∧ y = .int k' b) ∨ ∃ a b, x = .str a ∧ y = .str b := by
  cases d with
  | zero => simp [eqT] at h
  | succ d =>
    have k1 := of_told gam h1 hx
    have k2 := of_told gam h2 hy
    unfold eqT at h
    cases hu : E.P.underlying t with
    | none => simp [hu] at h
    | some u =>
      simp only [hu] at h
      have n1 := isNil_told (u := u) k1
      have n2 := isNil_told (u := u) k2
      rcases k1 with rfl | ⟨k, n, rfl⟩ | ⟨b1, rfl⟩ | ⟨v, rfl, hv⟩ <;> rcases k2 with rfl | ⟨k', n', rfl⟩ | ⟨b2, rfl⟩ | ⟨v', rfl, hv'⟩ <;> first
        | exact .inl ⟨_, _, _, _, rfl, rfl⟩
        | exact .inr ⟨_, _, rfl, rfl⟩
        | (simp [n1, n2] at h; done)

theorem eql_plain {t : TypeId} {cx cy : Value} (h : ¬ (told cx = true ∧ told cy = true)) : Go.binOp .eql t cx cy = (do pure (.bool (← Op.equal t cx cy))) := by
  cases cx <;> cases cy <;> first
    | rfl
    | (simp [told] at h; done)

theorem neq_plain {t : TypeId} {cx cy : Value} (h : ¬ (told cx = true ∧ told cy = true)) : Go.binOp .neq t cx cy = (do pure (.bool (!(← Op.equal t cx cy)))) := by
  cases cx <;> cases cy <;> first
    | rfl
    | (simp [told] at h; done)

theorem bin_ok {g : Gh} {w : World} (hA : GamApart gam E w) (hI : ∀ t u, E.P.underlying t = some u → ∃ i, E.P.info? t = some i) {op : BinOp} {t : TypeId} {x' y' : Operand} {x y v : V} {cx cy : Value}
    (h : binV E op t (isConst x' || isConst y') x y = some v) (hx : Sv gam g x cx) (hy : Sv gam g y cy) :
    ∃ c, (do eqGuard op t x' y' cx cy; Go.binOp op t cx cy : Sem Value).run E.P w = .ok c w ∧ Sv gam g v c ∧ plainV v = true := by
  unfold binV at h
  split at h
  · rename_i k a k' b
    have hx : cx = .int k a := hx
    have hy : cy = .int k' b := hy
    subst hx; subst hy
    have hg : ∀ op, (eqGuard op t x' y' (.int k a) (.int k' b)).run E.P w = .ok () w := by intro op; cases op <;> rfl
    simp only [Sem.run_bind, hg, Result.andThen_ok]
    split at h
    · split at h
      · cases h
      · rename_i hb
        simp only [Option.some.injEq] at h
        subst h
        exact ⟨_, by simp [Go.binOp, Op.shift, hb], rfl, rfl⟩
    · split at h
      · cases h
      · rename_i hb
        simp only [Option.some.injEq] at h
        subst h
        exact ⟨_, by simp [Go.binOp, Op.shift, hb], rfl, rfl⟩
    · split at h
      · rename_i hk
        simp only [beq_iff_eq] at hk
        subst hk
        split at h <;> first
          | (cases h; done)
          | (simp only [Option.some.injEq] at h; subst h; exact ⟨_, by simp [Go.binOp, Op.intArith, Op.intBits, Op.intCmp], rfl, rfl⟩)
          | (split at h
             · cases h
             · rename_i hb
               simp only [beq_iff_eq] at hb
               simp only [Option.some.injEq] at h; subst h; exact ⟨_, by simp [Go.binOp, Op.intDiv, hb], rfl, rfl⟩)
      · cases h
  · rename_i a b
    have hx : cx = .string ⟨a.toArray⟩ := hx
    have hy : cy = .string ⟨b.toArray⟩ := hy
    subst hx; subst hy
    have hg : ∀ op, (eqGuard op t x' y' (.string ⟨a.toArray⟩) (.string ⟨b.toArray⟩)).run E.P w = .ok () w := by intro op; cases op <;> rfl
    simp only [Sem.run_bind, hg, Result.andThen_ok]
    split at h <;> first
      | (cases h; done)
      | (simp only [Option.some.injEq] at h; subst h; exact ⟨_, by simp [Go.binOp, Op.stringOp, toList_str, bytesEq_eq, bytesLess_eq], rfl, rfl⟩)
      | (split at h
         · rename_i hle
           simp only [Option.some.injEq] at h
           subst h
           refine ⟨.string (⟨a.toArray⟩ ++ ⟨b.toArray⟩), ?_, ?_, rfl⟩
           · have : ¬ (((⟨a.toArray⟩ : ByteArray).size + (⟨b.toArray⟩ : ByteArray).size : Nat) : Int) > IntKind.i64.max := by
               have h1 : (⟨a.toArray⟩ : ByteArray).size = a.length := rfl
               have h2 : (⟨b.toArray⟩ : ByteArray).size = b.length := rfl
               rw [h1, h2]
               have : IntKind.i64.max = 9223372036854775807 := by decide
               omega
             simp only [Go.binOp, Op.stringOp, Sem.run_ite, if_neg this]
             rfl
           · show _ = _
             rw [str_append]
         · cases h)
  · rename_i h1 h2
    have hnt : ∀ b, eqT E 100 t x y = some b → ¬ (told cx = true ∧ told cy = true) := by
      rintro b he ⟨t1, t2⟩
      rcases eqT_told gam E he hx hy t1 t2 with ⟨k, a, k', b', rfl, rfl⟩ | ⟨a, b', rfl, rfl⟩
      · exact h1 _ _ _ _ rfl rfl
      · exact h2 _ _ rfl rfl
    split at h
    · split at h
      · rename_i hg
        cases he : eqT E 100 t x y with
        | none => simp [he] at h
        | some b =>
          simp only [he, Option.some.injEq] at h
          subst h
          obtain ⟨nx, ny⟩ := eqT_any E he
          have hr := eqT_ok gam E hA hI 100 t x y cx cy b he hx hy 10000 (by omega)
          rw [Sem.run_bind, eqGuard_ok gam E hg hx hy nx ny, Result.andThen_ok, eql_plain (hnt b he)]
          exact ⟨.bool b, by simp [Op.equal, Op.maxDepth, hr], rfl, rfl⟩
      · cases h
    · split at h
      · rename_i hg
        cases he : eqT E 100 t x y with
        | none => simp [he] at h
        | some b =>
          simp only [he, Option.some.injEq] at h
          subst h
          obtain ⟨nx, ny⟩ := eqT_any E he
          have hr := eqT_ok gam E hA hI 100 t x y cx cy b he hx hy 10000 (by omega)
          rw [Sem.run_bind, eqGuard_ok gam E hg hx hy nx ny, Result.andThen_ok, neq_plain (hnt b he)]
          exact ⟨.bool !b, by simp [Op.equal, Op.maxDepth, hr], rfl, rfl⟩
      · cases h
    · cases h

end
end Go.Bv
/- What is read from memory. -/
namespace Go.Bv
open Go

theorem hasInfo {P : Program} {t : TypeId} {u : TypeDesc} (h : P.underlying t = some u) : ∃ i, P.info? t = some i := by
  unfold Program.underlying at h
  cases hi : P.info? t with
  | none => simp [hi] at h
  | some i => exact ⟨i, rfl⟩

section
variable (gam : Nat → Option (Nat × Nat)) (E : Env)

/-- The package-level variables that are known lie in the memory that never turns. -/
def GlobOk (g : Gh) : Prop := ∀ a cs, E.glob a = some cs → ∃ b o, gam a = some (b, o) ∧ RoCs gam g.rho b o cs

theorem GlobOk.mono {g g' : Gh} (h : GlobOk gam E g) (hg : Grows g.rho g'.rho) : GlobOk gam E g' := fun a cs e => by
  obtain ⟨b, o, h1, h2⟩ := h a cs e
  exact ⟨b, o, h1, RoCs.mono gam hg _ _ _ h2⟩

theorem name_ok {g : Gh} {w : World} {R : Roots} {r : Nat} {p : Path} {x : V} {c : Value} (hC : Claims gam g w R) (hx : rget R r p = some x) (hk : Ck gam g r p x c) : Sv gam g (nameAt r p x) c := by
  cases x <;> simp only [nameAt, Ck] at hk ⊢ <;> first
    | exact Sv.of_pv gam g _ _ hk.1
    | skip
  case box cs =>
    obtain ⟨B, hB, hc⟩ := hk
    exact ⟨B, hB, by rw [hc]; simp⟩
  case own es cap =>
    obtain ⟨B, hB, hc⟩ := hk
    obtain ⟨B', hB', hf, _, _⟩ := hC r p _ hx rfl
    rw [hB] at hB'; cases hB'
    exact ⟨B, B.C, hB, by rw [hc]; simp, hf.1, fun _ => ⟨rfl, rfl⟩⟩

theorem names_get (r : Nat) (p : Path) (i : Nat) : ∀ (xs : List V) (j k : Nat), (names r p i j xs)[k]? = (xs[k]?).map fun x => nameAt r (p ++ [(i, j + k)]) x
  | [], _, _ => by simp [names]
  | x :: xs, j, 0 => by simp [names]
  | x :: xs, j, k + 1 => by
    simp only [names, List.getElem?_cons_succ]
    rw [names_get r p i xs (j + 1) k]
    congr 1
    funext y
    rw [show j + 1 + k = j + (k + 1) by omega]

theorem names_length (r : Nat) (p : Path) (i : Nat) : ∀ (xs : List V) (j : Nat), (names r p i j xs).length = xs.length
  | [], _ => rfl
  | _ :: xs, j => by simp [names, names_length r p i xs (j + 1)]

theorem Svs.intro {g : Gh} : ∀ {v : List V} {c : List Value}, v.length = c.length → (∀ (k : Nat) (x : V) (y : Value), v[k]? = some x → c[k]? = some y → Sv gam g x y) → Svs gam g v c
  | [], [], _, _ => rfl
  | [], _ :: _, h, _ => by simp at h
  | _ :: _, [], h, _ => by simp at h
  | x :: v, y :: c, h, k => ⟨y, c, rfl, k 0 x y rfl rfl, Svs.intro (by simpa using h) fun i a b ha hb => k (i + 1) a b (by simpa using ha) (by simpa using hb)⟩

def seen1 : V → Nat → V → V
  | .al r p i _, k, x => nameAt r (p ++ [(i, k)]) x
  | _, _, x => x

theorem seen_get {a : V} {j : Nat} (h : ∀ r p i jj, a = .al r p i jj → jj = j) (xs : List V) (k : Nat) : (seen a xs)[k]? = (xs[k]?).map (seen1 a (j + k)) := by
  cases a <;> simp only [seen] <;> first
    | (cases hx : xs[k]? <;> rfl; done)
    | skip
  case al r p i jj =>
    rw [names_get, h r p i jj rfl]; rfl

theorem seen_length (a : V) (xs : List V) : (seen a xs).length = xs.length := by
  cases a <;> simp only [seen, names_length]

/-- The cells that a load reads. -/
theorem mem_ok {g : Gh} {w : World} {R : Roots} {m : M} {a : V} {ca : Value} {cs : List V} {j : Nat} (hC : Claims gam g w (over R m.rs)) (hG : Glob g w) (hE : GlobOk gam E g) (h : mem E m a = some (cs, j)) (ha : Sv gam g a ca) :
    ∃ b o, ca = ptr b (o + j) ∧ (∀ r p i jj, a = .al r p i jj → jj = j) ∧ ∀ (k : Nat) (x : V), cs[k]? = some x → ∃ c, cellAt w b (o + k) = some c ∧ Sv gam g (seen1 a k x) c := by
  cases a <;> simp only [mem] at h <;> try (cases h; done)
  case al r p i jj =>
    obtain ⟨B, hB, hc⟩ := ha
    split at h
    · rename_i bs hget
      split at h
      · rename_i hi
        simp only [Option.some.injEq, Prod.mk.injEq] at h
        obtain ⟨rfl, rfl⟩ := h
        simp only [beq_iff_eq] at hi
        subst hi
        refine ⟨B.b, B.o, by rw [hc]; simp, (fun _ _ _ _ e => by cases e; rfl), ?_⟩
        intro k x hx
        obtain ⟨t, h1, h2⟩ := M.get_look hget
        obtain ⟨B', hB', hf, _, hk⟩ := hC r p (.box bs) (by simp [rget, over_look h1, h2]) rfl
        rw [hB] at hB'; cases hB'
        have hkid : (V.box bs).kid (0, k) = some x := by simp [V.kid, hx]
        obtain ⟨c, hc1, hc2⟩ := hk (0, k) x hkid
        refine ⟨c, by simpa using hc1, name_ok gam hC ?_ hc2⟩
        simp only [rget, over_look h1, get_append, h2, get_cons, hkid, get_nil]
      · cases h
    · rename_i es cap hget
      cases he : es[i]? with
      | none => simp [he] at h
      | some e =>
        simp only [he, Option.some.injEq, Prod.mk.injEq] at h
        obtain ⟨rfl, rfl⟩ := h
        refine ⟨B.b, B.o + i * B.z, by rw [hc], (fun _ _ _ _ e => by cases e; rfl), ?_⟩
        intro k x hx
        obtain ⟨t, h1, h2⟩ := M.get_look hget
        obtain ⟨B', hB', hf, _, hk⟩ := hC r p (.own es cap) (by simp [rget, over_look h1, h2]) rfl
        rw [hB] at hB'; cases hB'
        have hkid : (V.own es cap).kid (i, k) = some x := by simp [V.kid, he, hx]
        obtain ⟨c, hc1, hc2⟩ := hk (i, k) x hkid
        refine ⟨c, hc1, name_ok gam hC ?_ hc2⟩
        simp only [rget, over_look h1, get_append, h2, get_cons, hkid, get_nil]
    · cases h
  case rop cs' j' =>
    simp only [Option.some.injEq, Prod.mk.injEq] at h
    obtain ⟨rfl, rfl⟩ := h
    obtain ⟨b, o, hc, hr⟩ := ha
    refine ⟨b, o, hc, (fun _ _ _ _ e => by cases e), ?_⟩
    intro k x hx
    obtain ⟨c, h1, h2⟩ := RoCs.elim gam hr k x hx
    exact ⟨c, hG.ro _ _ _ h1, Sv.of_pv gam g _ _ h2.1⟩
  case gp a j' =>
    cases he : E.glob a with
    | none => simp [he] at h
    | some cs' =>
      simp only [he, Option.some.injEq, Prod.mk.injEq] at h
      obtain ⟨rfl, rfl⟩ := h
      obtain ⟨b, o, hg, hc⟩ := ha
      obtain ⟨b', o', hg', hr⟩ := hE a _ he
      rw [hg] at hg'; cases hg'
      refine ⟨b, o, hc, (fun _ _ _ _ e => by cases e), ?_⟩
      intro k x hx
      obtain ⟨c, h1, h2⟩ := RoCs.elim gam hr k x hx
      exact ⟨c, hG.ro _ _ _ h1, Sv.of_pv gam g _ _ h2.1⟩

theorem cellAt_add {w : World} {b o k : Nat} : w.cell? ((⟨b, o, none⟩ : Addr).add k) = cellAt w b (o + k) := by
  unfold Addr.add; split
  · rename_i h; subst h; rfl
  · rfl

theorem load_ok {g : Gh} {w : World} {R : Roots} {m : M} {t : TypeId} {a v : V} {ca : Value} (hC : Claims gam g w (over R m.rs)) (hG : Glob g w) (hE : GlobOk gam E g) (h : loadV E m t a = some v) (ha : Sv gam g a ca) :
    ∃ c, (Instr.loadAt t ca).run E.P w = .ok c w ∧ Sv gam g v c := by
  unfold loadV at h
  cases hm : mem E m a with
  | none => simp [hm] at h
  | some x =>
    obtain ⟨cs, j⟩ := x
    cases hu : E.P.underlying t with
    | none => simp [hm, hu] at h
    | some u =>
      simp only [hm, hu] at h
      split at h
      · rename_i hlen
        simp only [beq_iff_eq] at hlen
        obtain ⟨b, o, hca, hj, hk⟩ := mem_ok gam E hC hG hE hm ha
        obtain ⟨i, hi⟩ := hasInfo hu
        have hagg : (isAgg t).run E.P w = .ok (isAggT E t) w := by
          simp only [isAgg, isAggT, hu, Sem.run_bind, run_underlying hu, Result.andThen_ok]
          cases u <;> rfl
        generalize hxs : (cs.drop j).take (E.P.cellsOf t) = xs at h hlen
        -- the values
        have hex : ∀ (k : Nat) (x : V), xs[k]? = some x → ∃ c, cellAt w b (o + j + k) = some c ∧ Sv gam g (seen1 a (j + k) x) c := by
          intro k x hx
          rw [← hxs, List.getElem?_take] at hx
          split at hx
          · rw [List.getElem?_drop] at hx
            obtain ⟨c, h1, h2⟩ := hk _ _ hx
            exact ⟨c, by rw [Nat.add_assoc]; exact h1, h2⟩
          · cases hx
        generalize hcvd : (List.range (E.P.cellsOf t)).map (fun k => (cellAt w b (o + j + k)).getD undef) = cv
        have hcvl : cv.length = E.P.cellsOf t := by rw [← hcvd]; simp
        have hcv : ∀ (k : Nat) (y : Value), cv[k]? = some y → cellAt w b (o + j + k) = some y := by
          intro k y hy
          have hlt : k < E.P.cellsOf t := by rw [← hcvl]; exact (List.getElem?_eq_some_iff.1 hy).1
          have hx : xs[k]? = some (xs[k]'(by omega)) := List.getElem?_eq_getElem _
          obtain ⟨c, h1, _⟩ := hex k _ hx
          rw [← hcvd, List.getElem?_map, List.getElem?_range hlt] at hy
          simp only [Option.map_some, h1, Option.getD_some, Option.some.injEq] at hy
          rw [h1, hy]
        have hS : Svs gam g (seen a xs) cv := by
          apply Svs.intro
          · rw [seen_length, hcvl, hlen]
          · intro k x y hx hy
            rw [seen_get hj] at hx
            cases hx0 : xs[k]? with
            | none => simp [hx0] at hx
            | some x0 =>
              simp only [hx0, Option.map_some, Option.some.injEq] at hx
              obtain ⟨c, h1, h2⟩ := hex k x0 hx0
              rw [hcv k y hy] at h1; cases h1
              rw [← hx]; exact h2
        have hrun : (loadCells ⟨b, o + j, none⟩ (E.P.cellsOf t)).run E.P w = .ok cv.toArray w := by
          rw [← hcvl]
          apply run_loadCells_list
          intro k y hy
          rw [cellAt_add]
          exact hcv k y hy
        have hsure : (Instr.sureAddr ca).run E.P w = .ok ⟨b, o + j, none⟩ w := by rw [hca]; rfl
        cases hb : isAggT E t with
        | true =>
          simp only [hb, if_true, Option.some.injEq] at h
          subst h
          refine ⟨.agg cv.toArray, ?_, cv.toArray, rfl, by simpa using hS⟩
          simp only [Instr.loadAt, Sem.run_bind, hsure, Result.andThen_ok, loadVar, hagg, hb, if_true, run_sizeOf w hi, hrun, Sem.run_pure]
        | false =>
          simp only [hb, Bool.false_eq_true, if_false] at h
          split at h
          · rename_i h1
            simp only [beq_iff_eq] at h1
            obtain ⟨c, hc0⟩ : ∃ c, cv[0]? = some c := ⟨cv[0]'(by omega), List.getElem?_eq_getElem _⟩
            have h0 := hcv 0 c hc0
            refine ⟨c, ?_, ?_⟩
            · simp only [Instr.loadAt, Sem.run_bind, hsure, Result.andThen_ok, loadVar, hagg, hb, Bool.false_eq_true, if_false, run_load]
              rw [show w.cell? ⟨b, o + j, none⟩ = some c from h0]
            · rw [List.head?_eq_getElem?] at h
              obtain ⟨y, hy1, hy2⟩ := Svs.get gam hS h
              rw [hc0] at hy1; cases hy1
              exact hy2
          · cases h
      · cases h

end
end Go.Bv
