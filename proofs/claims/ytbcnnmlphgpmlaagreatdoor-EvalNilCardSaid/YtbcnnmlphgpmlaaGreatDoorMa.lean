/-
  This text proves what its parts' remarks say, of the abstract machine (part Ma); no condition stands ahead of the claim's statement.
-/
import Derived.Orders
import Derived.KernelRfl
import Derived.Laws.Sem
import Derived.Deep.DeepAppendWide

/- AM, part 1: an abstract machine over the model's code. Values are deep trees; what a frame made by itself and may still write stands in a small store of objects. -/
namespace Go.AM

/-- A step of a path into a tree: element, leaf of it, cells of an element. -/
abbrev Stp := Nat × Nat × Nat

/-- Abstract values. 'sl m fl sz es': a slice and its elements (m = 0: never written again; 1: one's own; 2: as 0, its capacity its length; 3: one's own, no room behind it); 'pt own e': a pointer to a variable that holds e; 'sref', 'pref': into the store. -/
inductive AV where
  | dead
  | lit (v : Value)
  | agg (cs : List AV)
  | tup (vs : List AV)
  | fn (f : Fn) (first cap : List AV)
  | sl (m : Nat) (fl : Bool) (sz : Nat) (es : List AV)
  | pt (own : Bool) (e : AV)
  | sref (o k0 : Nat) (p : List Stp) (off n : Nat)
  | pref (o k0 : Nat) (p : List Stp) (i k : Nat)
  deriving Inhabited

abbrev AV.int (k : IntKind) (n : Int) : AV := .lit (.int k n)
abbrev AV.bool (b : Bool) : AV := .lit (.bool b)

/-- The leaves of an element. -/
def leafs : AV → List AV
  | .agg cs => cs
  | e => [e]

def leafAt (e : AV) (k : Nat) : Option AV := (leafs e)[k]?

/-- An element with some leaves anew. -/
def putLeafs (e : AV) (k : Nat) (xs : List AV) : AV :=
  match e with
  | .agg cs => .agg (cs.take k ++ xs ++ cs.drop (k + xs.length))
  | e => match xs with
    | [x] => x
    | _ => e

/-- What is never written again. -/
def frz : AV → AV
  | .agg cs => .agg (frzL cs)
  | .tup cs => .tup (frzL cs)
  | .fn f a b => .fn f (frzL a) (frzL b)
  | .sl m fl sz es => .sl (if m == 2 then 2 else 0) fl sz (frzL es)
  | .pt _ e => .pt false (frz e)
  | e => e
  where frzL : List AV → List AV
  | [] => []
  | e :: es => frz e :: frzL es

/-- The node at a path. -/
def nodeAt : AV → List Stp → Option AV
  | t, [] => some t
  | .sl _ _ _ es, (i, k, _) :: p => match es[i]? with
    | some e => match leafAt e k with
      | some l => nodeAt l p
      | none => none
    | none => none
  | .pt _ e, (_, k, _) :: p => match leafAt e k with
    | some l => nodeAt l p
    | none => none
  | _, _ :: _ => none

/-- A tree with the node at a path anew; every node on the way is one's own. -/
def modAt (f : AV → Option AV) : AV → List Stp → Option AV
  | t, [] => f t
  | .sl m fl sz es, (i, k, _) :: p => match es[i]? with
    | some e => match leafAt e k with
      | some l => match modAt f l p with
        | some l' => some (.sl m fl sz (es.set i (putLeafs e k [l'])))
        | none => none
      | none => none
    | none => none
  | .pt own e, (_, k, _) :: p => match leafAt e k with
    | some l => match modAt f l p with
      | some l' => some (.pt own (putLeafs e k [l']))
      | none => none
    | none => none
  | _, _ :: _ => none

def nodeIn (ls : List AV) (k0 : Nat) (p : List Stp) : Option AV :=
  match ls[k0]? with
  | some t => nodeAt t p
  | none => none

def modIn (f : AV → Option AV) (ls : List AV) (k0 : Nat) (p : List Stp) : Option (List AV) :=
  match ls[k0]? with
  | some t => match modAt f t p with
    | some t' => some (ls.set k0 t')
    | none => none
  | none => none

/-- Looks into the store, one object at a time. -/
inductive Lk (α : Type) where
  | done (a : α)
  | fail
  | ask (o : Nat) (f : List AV → Lk α)

def Lk.bind {α β : Type} : Lk α → (α → Lk β) → Lk β
  | .done a, f => f a
  | .fail, _ => .fail
  | .ask o g, f => .ask o fun l => (g l).bind f

def Lk.of {α : Type} : Option α → Lk α
  | some a => .done a
  | none => .fail

/-- What a look comes to, and which objects it saw. -/
def Lk.run {α : Type} (ob : Nat → List AV) : Lk α → List Nat → Option (α × List Nat)
  | .done a, r => some (a, r)
  | .fail, _ => none
  | .ask o f, r => (f (ob o)).run ob (o :: r)

/-- References in a value. -/
structure Rf where
  o : Nat
  k0 : Nat
  p : List Stp

def refs : AV → List Rf
  | .agg cs => refsL cs
  | .tup cs => refsL cs
  | .fn _ a b => refsL a ++ refsL b
  | .sref o k0 p _ _ => [⟨o, k0, p⟩]
  | .pref o k0 p _ _ => [⟨o, k0, p⟩]
  | _ => []
  where refsL : List AV → List Rf
  | [] => []
  | e :: es => refs e ++ refsL es

/-- Changes of objects, the newest first. -/
abbrev Ch := List (Nat × List AV)

def Ch.get (c : Ch) (o : Nat) : Option (List AV) :=
  match c with
  | [] => none
  | (k, l) :: r => if k == o then some l else Ch.get r o

def askC (c : Ch) (o : Nat) : Lk (List AV) :=
  match c.get o with
  | some l => .done l
  | none => .ask o .done

/-- Is a node one's own? -/
def isOwn : AV → Bool
  | .sl m _ _ _ => m == 1 || m == 3
  | .pt own _ => own
  | _ => false

def viewOf (off n : Nat) : AV → Option AV
  | .sl _ fl sz es => if off + n ≤ es.length then some (.sl 0 fl sz (frz.frzL ((es.drop off).take n))) else none
  | _ => none

def varOf (i k : Nat) : AV → Option AV
  | .pt _ e => if i == 0 && k == 0 then some (.pt false (frz e)) else none
  | _ => none

/-- A value as it stands, without references. -/
def resolve (c : Ch) : AV → Lk AV
  | .agg cs => (resolveL c cs).bind fun l => .done (.agg l)
  | .tup cs => (resolveL c cs).bind fun l => .done (.tup l)
  | .fn f a b => (resolveL c a).bind fun l => (resolveL c b).bind fun r => .done (.fn f l r)
  | .sref o k0 p off n => (askC c o).bind fun ls => .of ((nodeIn ls k0 p).bind (viewOf off n))
  | .pref o k0 p i k => (askC c o).bind fun ls => .of ((nodeIn ls k0 p).bind (varOf i k))
  | .dead => .fail
  | v => .done v
  where resolveL (c : Ch) : List AV → Lk (List AV)
  | [] => .done []
  | e :: es => (resolve c e).bind fun x => (resolveL c es).bind fun r => .done (x :: r)

/-- A node is frozen. -/
def freezeOne (c : Ch) (o k0 : Nat) (p : List Stp) (t : AV) (ls : List AV) : Option Ch :=
  if isOwn t then (modIn (fun t => some (frz t)) ls k0 p).map fun ls' => (o, ls') :: c else some c

/-- A value as it stands, without references; what they lead to is frozen. -/
def fres : AV → Ch → Lk (AV × Ch)
  | .agg cs, c => (fresL cs c).bind fun r => .done (.agg r.1, r.2)
  | .tup cs, c => (fresL cs c).bind fun r => .done (.tup r.1, r.2)
  | .fn f a b, c => (fresL a c).bind fun r => (fresL b r.2).bind fun q => .done (.fn f r.1 q.1, q.2)
  | .sref o k0 p off n, c => (askC c o).bind fun ls => match nodeIn ls k0 p with
    | some t => match viewOf off n t, freezeOne c o k0 p t ls with
      | some v, some c' => .done (v, c')
      | _, _ => .fail
    | none => .fail
  | .pref o k0 p i k, c => (askC c o).bind fun ls => match nodeIn ls k0 p with
    | some t => match varOf i k t, freezeOne c o k0 p t ls with
      | some v, some c' => .done (v, c')
      | _, _ => .fail
    | none => .fail
  | .dead, _ => .fail
  | v, c => .done (v, c)
  where fresL : List AV → Ch → Lk (List AV × Ch)
  | [], c => .done ([], c)
  | e :: es, c => (fres e c).bind fun r => (fresL es r.2).bind fun q => .done (r.1 :: q.1, q.2)

/-- Which references die: all into a leaf of an object, or those that go deeper. -/
structure Kl where
  o : Nat
  k0 : Option Nat
  deep : Bool

def Kl.hits (k : Kl) (o k0 : Nat) (p : List Stp) : Bool :=
  k.o == o && (match k.k0 with | some x => x == k0 | none => true) && (!k.deep || !p.isEmpty)

def kill (ks : List Kl) : AV → AV
  | .agg cs => .agg (killL ks cs)
  | .tup cs => .tup (killL ks cs)
  | .fn f a b => .fn f (killL ks a) (killL ks b)
  | .sref o k0 p off n => if ks.any (·.hits o k0 p) then .dead else .sref o k0 p off n
  | .pref o k0 p i k => if ks.any (·.hits o k0 p) then .dead else .pref o k0 p i k
  | v => v
  where killL (ks : List Kl) : List AV → List AV
  | [] => []
  | e :: es => kill ks e :: killL ks es

/-- May a value stand in the store? -/
def treeA : AV → Bool
  | .agg cs => treeL cs
  | .fn _ a b => treeL a && treeL b
  | .tup _ | .sref .. | .pref .. => false
  | _ => true
  where treeL : List AV → Bool
  | [] => true
  | e :: es => treeA e && treeL es

/-- A leaf that is stored: what is one's own moves there, where it is a whole object; else it is frozen and shared. -/
def depLeaf (x : AV) (c : Ch) (kl : List Kl) : Lk (AV × Ch × List Kl) :=
  match x with
  | .sref o k0 [] 0 n => (askC c o).bind fun ls =>
    match nodeIn ls k0 [] with
    | some (.sl 1 fl sz es) => if es.length == n then .done (.sl 1 fl sz es, (o, ls.set k0 .dead) :: c, ⟨o, some k0, false⟩ :: kl)
      else (fres x c).bind fun r => .done (r.1, r.2, kl)
    | _ => (fres x c).bind fun r => .done (r.1, r.2, kl)
  | .agg _ | .tup _ | .dead => .fail
  | x => (fres x c).bind fun r => if treeA r.1 then .done (r.1, r.2, kl) else .fail

def depLeafs : List AV → Ch → List Kl → Lk (List AV × Ch × List Kl)
  | [], c, kl => .done ([], c, kl)
  | x :: xs, c, kl => (depLeaf x c kl).bind fun (y, c, kl) => (depLeafs xs c kl).bind fun (ys, c, kl) => .done (y :: ys, c, kl)

/-- An element that is stored. -/
def dep (x : AV) (c : Ch) (kl : List Kl) : Lk (AV × Ch × List Kl) :=
  match x with
  | .agg cs => (depLeafs cs c kl).bind fun (ys, c, kl) => .done (.agg ys, c, kl)
  | x => depLeaf x c kl

/-- What an operation comes to. -/
structure Eff where
  v : AV
  ch : Ch := []
  kl : List Kl := []

inductive Opr where
  | t (i : Nat)
  | c (v : AV)
  deriving Inhabited

inductive IOp where
  | bad
  | mv (x : Opr)
  | pick (c a b : Opr)
  | new (e : AV)
  | box (n : Nat) (x : Opr)
  | build (z : List AV) (ps : List (Nat × Nat × Opr))
  | bsl (fl : Bool) (sz : Nat) (z : AV) (len : Nat) (ps : List (Nat × Opr))
  | ld (ag : Bool) (n : Nat) (x : Opr)
  | st (n : Nat) (a x : Opr)
  | nilc (x : Opr)
  | bin (k : Nat) (o : BinOp) (x y : Opr)
  | un (o : UnOp) (x : Opr)
  | conv (k : IntKind) (x : Opr)
  | mkfn (f : Fn) (fs cs : List Opr)
  | mksl (fl : Bool) (sz : Nat) (z : AV) (bytes : Nat) (l c : Opr)
  | slc (sz : Nat) (x : Opr) (lo hi mx : Option Opr)
  | slarr (len sz : Nat) (ag fl : Bool) (x : Opr)
  | fa (ag : Bool) (n off : Nat) (x : Opr)
  | fld (ag : Bool) (n off : Nat) (x : Opr)
  | ia (sz : Nat) (x i : Opr)
  | iarr (len sz : Nat) (ag : Bool) (x i : Opr)
  | idx (len sz : Nat) (ag : Bool) (x i : Opr)
  | sidx (x i : Opr)
  | ext (x : Opr) (i : Nat)
  | call (f : Opr) (as : List Opr)
  | app (fl : Bool) (sz bytes : Nat) (s x : Opr)
  | len (x : Opr)
  | copy (s x : Opr)
  | mn (as : List Opr)
  | mx (as : List Opr)
  deriving Inhabited

structure IOper where
  d : Option Nat
  op : IOp
  aft : List Nat := []
  g : Option (Nat × Bool) := none
  deriving Inhabited

inductive ICode where
  | bad
  | skip
  | reg (ops : List IOper)
  | drw (ops : List IOper)
  | seq (a b : ICode)
  | cnd (c : Opr) (a b : ICode)
  | blk (id : Nat) (b : ICode)
  | loop (b : ICode)
  | exit (id : Nat)
  | ret
  | live (l : List Nat)
  deriving Inhabited

inductive IRes where
  | t (i : Nat)
  | cell (a : Nat) (ag : Bool) (n : Nat)

structure IFn where
  nt : Nat
  res : List IRes
  body : ICode

abbrev CallF := Nat → List AV → Option AV

/-- Functions by number; 'sm': what is known of a call beforehand; 'fl': which functions hand back numbers and their like alone. -/
structure Env where
  fs : Nat → Option IFn
  sm : CallF
  fl : Nat → Bool

def ibin (o : BinOp) (k : IntKind) (a : Int) (k' : IntKind) (b : Int) : Option Value :=
  match o with
  | .shl => if b < 0 then none else some (.int k (k.wrap (a * 2 ^ min b.toNat k.bits)))
  | .shr => if b < 0 then none else some (.int k (a.fdiv (2 ^ min b.toNat k.bits)))
  | o => if k ≠ k' then none else
    match o with
    | .add => some (.int k (k.wrap (a + b)))
    | .sub => some (.int k (k.wrap (a - b)))
    | .mul => some (.int k (k.wrap (a * b)))
    | .quo => if b = 0 then none else some (.int k (k.wrap (a.tdiv b)))
    | .rem => if b = 0 then none else some (.int k (a.tmod b))
    | .and => some (.int k (k.wrap (BitVec.ofInt k.bits a &&& BitVec.ofInt k.bits b).toNat))
    | .or => some (.int k (k.wrap (BitVec.ofInt k.bits a ||| BitVec.ofInt k.bits b).toNat))
    | .xor => some (.int k (k.wrap (BitVec.ofInt k.bits a ^^^ BitVec.ofInt k.bits b).toNat))
    | .andNot => some (.int k (k.wrap (BitVec.ofInt k.bits a &&& ~~~(BitVec.ofInt k.bits b)).toNat))
    | .eql => some (.bool (a == b))
    | .neq => some (.bool (a != b))
    | .lss => some (.bool (a < b))
    | .leq => some (.bool (a ≤ b))
    | .gtr => some (.bool (a > b))
    | .geq => some (.bool (a ≥ b))
    | _ => none

/-- Is a value of a kind (2: a pointer, 3: a slice, 4: a function) nil? -/
def isNil (k : Nat) : AV → Option Bool
  | .lit (.pointer none) => if k == 2 then some true else none
  | .lit (.slice none 0 0) => if k == 3 then some true else none
  | .lit .nilFunc => if k == 4 then some true else none
  | .pref .. => if k == 2 then some false else none
  | .pt .. => if k == 2 then some false else none
  | .sref .. => if k == 3 then some false else none
  | .fn .. => if k == 4 then some false else none
  | .sl _ _ _ es => if k == 3 && !es.isEmpty then some false else none
  | _ => none

/-- An operation on two values; 'k': of which kind they are (0: numbers, 1: bools). -/
def abin (k : Nat) (o : BinOp) (x y : AV) : Option AV :=
  if k == 0 then match x, y with
    | .lit (.int k a), .lit (.int k' b) => (ibin o k a k' b).map .lit
    | _, _ => none
  else if k == 1 then match x, y with
    | .lit (.bool a), .lit (.bool b) => match o with
      | .eql => some (.bool (a == b))
      | .neq => some (.bool (a != b))
      | _ => none
    | _, _ => none
  else match isNil k y with
    | some true => match o with
      | .eql => (isNil k x).map .bool
      | .neq => (isNil k x).map fun b => .bool !b
      | _ => none
    | _ => none

def aun (o : UnOp) (x : AV) : Option AV :=
  match o, x with
  | .neg, .lit (.int k n) => some (.int k (k.wrap (0 - n)))
  | .xor, .lit (.int k n) => some (.int k (k.wrap (BitVec.ofInt k.bits (if k.signed then -1 else k.max) ^^^ BitVec.ofInt k.bits n).toNat))
  | .not, .lit (.bool b) => some (.bool !b)
  | _, _ => none

/-- A part of an element. -/
def part (ag : Bool) (n off : Nat) (e : AV) : Option AV :=
  let l := ((leafs e).drop off).take n
  if l.length == n then (if ag then some (.agg l) else match l with | [x] => some x | _ => none) else none

/-- A leaf that is read out of the store. -/
def lift (o k0 : Nat) (p : List Stp) (s : Stp) (l : AV) : AV :=
  match l with
  | .sl m fl sz es => if m == 1 || m == 3 then .sref o k0 (p ++ [s]) 0 es.length else .sl m fl sz es
  | .pt true _ => .pref o k0 (p ++ [s]) 0 0
  | l => l

def lifts (o k0 : Nat) (p : List Stp) (i sz : Nat) : Nat → List AV → List AV
  | _, [] => []
  | k, l :: ls => lift o k0 p (i, k, sz) l :: lifts o k0 p i sz (k + 1) ls

def elemOf (i : Nat) : AV → Option (AV × Nat)
  | .sl _ _ sz es => (es[i]?).map (·, sz)
  | .pt _ e => if i == 0 then some (e, (leafs e).length) else none
  | _ => none

def putElem (i k : Nat) (xs : List AV) : AV → Option AV
  | .sl m fl sz es => if m == 1 || m == 3 then (es[i]?).bind fun e => if k + xs.length ≤ (leafs e).length then some (.sl m fl sz (es.set i (putLeafs e k xs))) else none else none
  | .pt true e => if i == 0 && k + xs.length ≤ (leafs e).length then some (.pt true (putLeafs e k xs)) else none
  | _ => none

def isLit : AV → Bool
  | .lit _ => true
  | _ => false

def natOf : AV → Option Nat
  | .lit (.int _ n) => if 0 ≤ n then some n.toNat else none
  | _ => none

def lenOf : AV → Option Nat
  | .lit (.slice none 0 0) => some 0
  | .sl _ _ _ es => some es.length
  | .sref _ _ _ _ n => some n
  | _ => none

/-- A slice's bounds: low, high, limit. -/
def bounds (n : Nat) (lo hi mx : Option AV) : Option (Nat × Nat × Option Nat) :=
  (match mx with | none => some none | some v => (natOf v).map some).bind fun m =>
  (match hi with | none => (if mx.isNone then some n else none) | some v => natOf v).bind fun h =>
  (match lo with | none => some 0 | some v => natOf v).bind fun l =>
  if l ≤ h && h ≤ n && (match m with | none => true | some m => h ≤ m && m ≤ n) then some (l, h, m) else none

/-- Nothing but numbers and their like. -/
def flat : AV → Bool
  | .lit _ => true
  | .agg cs => flatL cs
  | .tup cs => flatL cs
  | _ => false
  where flatL : List AV → Bool
  | [] => true
  | e :: es => flat e && flatL es

def add64 : List AV → Option AV
  | [.lit (.int _ x), .lit (.int _ y), .lit (.int _ c)] =>
    if c.toNat ≤ 1 then some (.tup [.int .u64 (Int.ofNat ((x.toNat + y.toNat + c.toNat) % 2 ^ 64)), .int .u64 (Int.ofNat ((x.toNat + y.toNat + c.toNat) / 2 ^ 64))]) else none
  | _ => none

def sub64 : List AV → Option AV
  | [.lit (.int _ x), .lit (.int _ y), .lit (.int _ b)] =>
    if b.toNat ≤ 1 then some (.tup [.int .u64 (Int.ofNat ((x.toNat + 2 ^ 64 - y.toNat - b.toNat) % 2 ^ 64)), .int .u64 (Int.ofNat (if x.toNat < y.toNat + b.toNat then 1 else 0))]) else none
  | _ => none

/-- A call: what it hands back leads nowhere into the store. -/
def callOp (E : Env) (cf : CallF) (f : Nat) (vs : List AV) : Lk Eff :=
  if E.fl f then (resolve.resolveL [] vs).bind fun us => match cf f us with
    | some r => if flat r then .done { v := r } else .fail
    | none => .fail
  else (fres.fresL vs []).bind fun q => match cf f q.1 with
    | some r => .done { v := r, ch := q.2 }
    | none => .fail

def foldInt (f : Int → Int → Int) : List AV → Option AV
  | .lit (.int k n) :: vs => go k n vs
  | _ => none
  where go (k : IntKind) : Int → List AV → Option AV
  | n, [] => some (.int k n)
  | n, .lit (.int _ m) :: vs => go k (f n m) vs
  | _, _ => none

def vals (ρ : Opr → Option AV) : List Opr → Option (List AV)
  | [] => some []
  | x :: xs => (ρ x).bind fun v => (vals ρ xs).map fun vs => v :: vs

def optv (ρ : Opr → Option AV) : Option Opr → Option (Option AV)
  | none => some none
  | some x => (ρ x).map some

/-- Is a value known, and no row of results? -/
def solid : AV → Bool
  | .dead | .tup _ => false
  | _ => true

def setParts : List AV → List (Nat × Nat × AV) → Option (List AV)
  | z, [] => some z
  | z, (off, n, x) :: ps => if solid x && (leafs x).length == n && off + n ≤ z.length then setParts (z.take off ++ leafs x ++ z.drop (off + n)) ps else none

def evParts (ρ : Opr → Option AV) : List (Nat × Nat × Opr) → Option (List (Nat × Nat × AV))
  | [] => some []
  | (o, n, x) :: ps => (ρ x).bind fun v => (evParts ρ ps).map fun r => (o, n, v) :: r

/-- Elements laid into a slice that is built. -/
def layElems (ρ : Opr → Option AV) (sz : Nat) : List (Nat × Opr) → List AV → Ch → List Kl → Lk (List AV × Ch × List Kl)
  | [], es, c, kl => .done (es, c, kl)
  | (i, x) :: ps, es, c, kl => match ρ x with
    | none => .fail
    | some v => (dep v c kl).bind fun (y, c, kl) =>
      if i < es.length && (leafs y).length == sz then layElems ρ sz ps (es.set i y) c kl else .fail

def chunks (sz : Nat) (ag : Bool) : Nat → List AV → List AV
  | 0, _ => []
  | n + 1, l => (if ag then .agg (l.take sz) else (l.head?).getD .dead) :: chunks sz ag n (l.drop sz)

/-- The elements that an append takes: numbers and their like are copied; those of a slice that was made for it move. -/
def srcElems (z : Nat) (x : AV) (c : Ch) : Lk (List AV × Ch × List Kl) :=
  match x with
  | .lit (.slice none 0 0) => .done ([], c, [])
  | .sl m _ sz es => if (m == 1 || m == 3) || sz != z then .fail else .done (es, c, [])
  | .sref o k0 p off n => (askC c o).bind fun ls =>
    match nodeIn ls k0 p with
    | some (.sl m _ sz es) =>
      if sz != z || !(decide (off + n ≤ es.length)) then .fail else
      if ((es.drop off).take n).all isLit then .done ((es.drop off).take n, c, [])
      else if m == 1 && p.isEmpty && off == 0 && es.length == n then .done (es, (o, ls.set k0 .dead) :: c, [⟨o, some k0, false⟩])
      else (fres x c).bind fun r => match r.1 with
        | .sl _ _ _ es => .done (es, r.2, [])
        | _ => .fail
    | _ => .fail
  | _ => .fail

/-- The most elements that a slice may have: its bytes stay far below what the model bears. -/
def most : Nat := 2 ^ 46

def live : AV → Bool
  | .dead => false
  | _ => true

def appOp (ky : Nat) (fl : Bool) (sz bytes : Nat) (s x : AV) : Lk Eff :=
  (srcElems sz x []).bind fun (xs, c, kl) =>
  if !(xs.all fun e => (leafs e).all live && (leafs e).length == sz) then .fail else
  match s with
  | .lit (.slice none 0 0) => if xs.isEmpty then .done { v := .lit (.slice none 0 0), ch := c, kl := kl }
    else if xs.length * bytes ≤ most then .done { v := .sref ky 0 [] 0 xs.length, ch := (ky, [.sl 1 fl sz xs]) :: c, kl := ⟨ky, none, false⟩ :: kl } else .fail
  | .sl m _ sz' es => if m == 2 && sz' == sz && !xs.isEmpty && (es.length + xs.length) * bytes ≤ most then
      .done { v := .sref ky 0 [] 0 (es.length + xs.length), ch := (ky, [.sl 1 fl sz (es ++ xs)]) :: c, kl := ⟨ky, none, false⟩ :: kl } else .fail
  | .sref o k0 p off n => (askC c o).bind fun ls =>
    match nodeIn ls k0 p with
    | some (.sl 1 _ sz' es) =>
      if sz' == sz && off + n ≤ es.length && (n + xs.length) * bytes ≤ most then
        match modIn (fun _ => some .dead) ls k0 p with
        | some ls' => .done { v := .sref ky 0 [] 0 (n + xs.length), ch := (ky, [.sl 1 fl sz ((es.drop off).take n ++ xs)]) :: (o, ls') :: c,
                              kl := ⟨ky, none, false⟩ :: ⟨o, some k0, !p.isEmpty⟩ :: kl }
        | none => .fail
      else .fail
    | _ => .fail
  | _ => .fail

def stOp (n : Nat) (a x : AV) : Lk Eff :=
  match a with
  | .pref o k0 p i k =>
    if (leafs x).length == n then
      (depLeafs (leafs x) [] []).bind fun (ys, c, kl) => (askC c o).bind fun ls =>
        match (nodeIn ls k0 p).bind (elemOf i) with
        | some (e, _) => match modIn (putElem i k ys) ls k0 p with
          | some ls' => .done { v := .tup [], ch := (o, ls') :: c,
                                kl := if ys.all isLit && (((leafs e).drop k).take n).all isLit then kl else ⟨o, some k0, true⟩ :: kl }
          | none => .fail
        | none => .fail
    else .fail
  | _ => .fail

def ldOp (ag : Bool) (n : Nat) (x : AV) : Lk Eff :=
  match x with
  | .pref o k0 p i k => .ask o fun ls =>
    match (nodeIn ls k0 p).bind (elemOf i) with
    | some (e, sz) =>
      let l := lifts o k0 p i sz k (((leafs e).drop k).take n)
      if l.length == n then (if ag then .done { v := .agg l } else match l with | [y] => .done { v := y } | _ => .fail) else .fail
    | none => .fail
  | .pt false e => .of ((part ag n 0 e).map fun v => { v })
  | _ => .fail

/-- Numbers and their like are written over numbers and their like. -/
def copyOp (s x : AV) : Lk Eff :=
  match s with
  | .sref o k0 p off n => (srcElems 1 x []).bind fun (xs, c, _) =>
    if !c.isEmpty then .fail else .ask o fun ls =>
    match modIn (fun t => match t with
      | .sl md fl sz es => if sz == 1 && (md == 1 || md == 3) && off + n ≤ es.length && xs.all isLit && ((es.drop off).take n).all isLit then
          some (.sl md fl sz (es.take off ++ xs.take n ++ es.drop (off + (xs.take n).length))) else none
      | _ => none) ls k0 p with
    | some ls' => .done { v := .int .i64 (min xs.length n : Nat), ch := [(o, ls')] }
    | none => .fail
  | _ => .fail

/-- A slice of a slice; 'z': an element's cells. Of one's own with a limit: what is cut off stands alone. -/
def slcLk (z : Nat) (x : AV) (lo hi mx : Option AV) : Lk Eff :=
  match x with
  | .lit (.slice none 0 0) => .of ((bounds 0 lo hi mx).map fun _ => { v := .lit (.slice none 0 0) })
  | .sl m fl sz es => if (m == 1 || m == 3) || sz != z then .fail else .of ((bounds es.length lo hi mx).map fun (l, h, t) =>
    { v := .sl (if t == some h || (t.isNone && m == 2 && h == es.length) then 2 else 0) fl sz ((es.drop l).take (h - l)) })
  | .sref o k0 p off n => .ask o fun ls =>
    match nodeIn ls k0 p with
    | some (.sl _ _ sz _) => if sz != z then .fail else
      match bounds n lo hi mx with
      | some (l, h, none) => if l == 0 || l < h then .done { v := .sref o k0 p (off + l) (h - l) } else .fail
      | some (l, h, some t) => if t == h then
          (fres (.sref o k0 p (off + l) (h - l)) []).bind fun r => match r.1 with
            | .sl _ fl sz es => .done { v := .sl 2 fl sz es, ch := r.2 }
            | _ => .fail
        else .fail
      | none => .fail
    | _ => .fail
  | _ => .fail

def semOp (E : Env) (cf : CallF) (ky : Nat) (op : IOp) (ρ : Opr → Option AV) : Lk Eff :=
  match op with
  | .bad => .fail
  | .mv x => .of ((ρ x).map fun v => { v })
  | .pick c a b => match ρ c with
    | some (.lit (.bool t)) => .of ((if t then ρ a else ρ b).map fun v => { v })
    | _ => .fail
  | .new e => .done { v := .pref ky 0 [] 0 0, ch := [(ky, [.pt true e])], kl := [⟨ky, none, false⟩] }
  | .box n x => match ρ x with
    | some v => if (leafs v).length == n then (dep v [] []).bind fun (y, c, kl) => .done { v := .pref ky 0 [] 0 0, ch := (ky, [.pt true y]) :: c, kl := ⟨ky, none, false⟩ :: kl } else .fail
    | none => .fail
  | .build z ps => .of ((evParts ρ ps).bind fun l => (setParts z l).map fun cs => { v := .agg cs })
  | .bsl fl sz z len ps => (layElems ρ sz ps (List.replicate len z) [] []).bind fun (es, c, kl) =>
    .done { v := .sref ky 0 [] 0 len, ch := (ky, [.sl 1 fl sz es]) :: c, kl := ⟨ky, none, false⟩ :: kl }
  | .ld ag n x => match ρ x with
    | some v => ldOp ag n v
    | none => .fail
  | .st n a x => match ρ a, ρ x with
    | some a, some x => stOp n a x
    | _, _ => .fail
  | .nilc x => match ρ x with
    | some v => match v with
      | .pref .. | .pt .. => .done { v }
      | .fn (.func _) _ _ => .done { v }
      | _ => .fail
    | none => .fail
  | .bin k o x y => .of ((ρ x).bind fun a => (ρ y).bind fun b => (abin k o a b).map fun v => { v })
  | .un o x => .of ((ρ x).bind fun a => (aun o a).map fun v => { v })
  | .conv k x => match ρ x with
    | some (.lit (.int _ n)) => .done { v := .int k (k.wrap n) }
    | _ => .fail
  | .mkfn f fs cs => .of ((vals ρ fs).bind fun a => (vals ρ cs).map fun b => { v := .fn f a b })
  | .mksl fl sz z bytes l c => match (ρ l).bind natOf, (ρ c).bind natOf with
    | some l, some c => if l ≤ c && c * bytes ≤ most && c ≤ most then .done { v := .sref ky 0 [] 0 l, ch := [(ky, [.sl 1 fl sz (List.replicate l z)])], kl := [⟨ky, none, false⟩] } else .fail
    | _, _ => .fail
  | .slc z x lo hi mx => match ρ x, optv ρ lo, optv ρ hi, optv ρ mx with
    | some x, some lo, some hi, some mx => slcLk z x lo hi mx
    | _, _, _, _ => .fail
  | .slarr len sz ag fl x => match ρ x with
    | some (.pref o k0 [] 0 0) => .ask o fun ls =>
      match nodeIn ls k0 [] with
      | some (.pt true (.agg cs)) => if cs.length == len * sz && (ag || sz == 1) then
          .done { v := .sref ky 0 [] 0 len, ch := [(ky, [.sl 1 fl sz (chunks sz ag len cs)]), (o, ls.set k0 .dead)], kl := [⟨ky, none, false⟩, ⟨o, some k0, false⟩] }
        else .fail
      | _ => .fail
    | _ => .fail
  | .fa ag n off x => match ρ x with
    | some (.pref o k0 p i k) => .done { v := .pref o k0 p i (k + off) }
    | some (.pt false e) => .of ((part ag n off e).map fun y => { v := .pt false y })
    | _ => .fail
  | .fld ag n off x => match ρ x with
    | some (.agg cs) => .of ((part ag n off (.agg cs)).map fun v => { v })
    | _ => .fail
  | .ia z x i => match ρ x, (ρ i).bind natOf with
    | some (.sl m _ sz es), some i => match es[i]? with
      | some e => if (m == 1 || m == 3) || sz != z then .fail else .done { v := .pt false e }
      | none => .fail
    | some (.sref o k0 p off n), some i => .ask o fun ls => match nodeIn ls k0 p with
      | some (.sl _ _ sz _) => if i < n && sz == z then .done { v := .pref o k0 p (off + i) 0 } else .fail
      | _ => .fail
    | _, _ => .fail
  | .iarr len sz ag x i => match ρ x, (ρ i).bind natOf with
    | some (.pref o k0 p j k), some i => if i < len then .done { v := .pref o k0 p j (k + i * sz) } else .fail
    | some (.pt false e), some i => if i < len then .of ((part ag sz (i * sz) e).map fun y => { v := .pt false y }) else .fail
    | _, _ => .fail
  | .idx len sz ag x i => match ρ x, (ρ i).bind natOf with
    | some (.agg cs), some i => if i < len then .of ((part ag sz (i * sz) (.agg cs)).map fun v => { v }) else .fail
    | _, _ => .fail
  | .sidx x i => match ρ x, (ρ i).bind natOf with
    | some (.lit (.string s)), some i => match s[i]? with
      | some b => .done { v := .int .u8 b.toNat }
      | none => .fail
    | _, _ => .fail
  | .ext x i => match ρ x with
    | some (.tup vs) => .of ((vs[i]?).map fun v => { v })
    | _ => .fail
  | .call f as => match ρ f, vals ρ as with
    | some (.fn (.func f) first cap), some vs => callOp E cf f (first ++ vs ++ cap)
    | _, _ => .fail
  | .app fl sz bytes s x => match ρ s, ρ x with
    | some s, some x => appOp ky fl sz bytes s x
    | _, _ => .fail
  | .len x => .of (((ρ x).bind lenOf).map fun n => { v := .int .i64 n })
  | .copy s x => match ρ s, ρ x with
    | some s, some x => copyOp s x
    | _, _ => .fail
  | .mn as => .of ((vals ρ as).bind fun l => (foldInt (fun a b => if b < a then b else a) l).map fun v => { v })
  | .mx as => .of ((vals ρ as).bind fun l => (foldInt (fun a b => if b > a then b else a) l).map fun v => { v })

/-- A frame's temporaries, and its objects. -/
structure St where
  tm : List (Nat × AV)
  ob : List (Nat × List AV)

def getA {α : Type} (l : List (Nat × α)) (t : Nat) : Option α :=
  match l with
  | [] => none
  | (k, v) :: r => if k == t then some v else getA r t

def setA {α : Type} (l : List (Nat × α)) (t : Nat) (v : α) : List (Nat × α) :=
  match l with
  | [] => [(t, v)]
  | (k, x) :: r => if k == t then (t, v) :: r else (k, x) :: setA r t v

def St.val (s : St) : Opr → Option AV
  | .t i => getA s.tm i
  | .c v => some v

def St.obj (s : St) (o : Nat) : List AV := (getA s.ob o).getD []

def setAll (ob : List (Nat × List AV)) : Ch → List (Nat × List AV)
  | [] => ob
  | (o, l) :: c => setA (setAll ob c) o l

def St.put (s : St) (d : Option Nat) (v : AV) : St :=
  match d with
  | some d => { s with tm := setA s.tm d v }
  | none => s

def killT (ks : List Kl) (l : List (Nat × AV)) : List (Nat × AV) :=
  if ks.isEmpty then l else l.map fun x => (x.1, kill ks x.2)

def St.eff (s : St) (d : Option Nat) (e : Eff) : St :=
  St.put { tm := killT e.kl s.tm, ob := setAll s.ob e.ch } d e.v

/-- Is an operation carried out? -/
def St.wanted (s : St) (g : Option (Nat × Bool)) : Option Bool :=
  match g with
  | none => some true
  | some (t, b) => match getA s.tm t with
    | some (.lit (.bool c)) => some (c == b)
    | some (.tup []) => some false
    | _ => none

def keyOf (d : Option Nat) : Nat := d.getD 999999

/-- One operation; which objects it saw; what it did. -/
def step (E : Env) (cf : CallF) (o : IOper) (s : St) : Option (St × List Nat × Eff) :=
  match s.wanted o.g with
  | none => none
  | some false => some (s.put o.d (.tup []), [], { v := .tup [] })
  | some true => match (semOp E cf (keyOf o.d) o.op s.val).run s.obj [] with
    | none => none
    | some (e, rd) => some (s.eff o.d e, rd, e)

def evOps (E : Env) (cf : CallF) : List IOper → St → Option St
  | [], s => some s
  | o :: os, s => match step E cf o s with
    | some (s', _) => evOps E cf os s'
    | none => none

def oprT : Opr → List Nat
  | .t i => [i]
  | .c _ => []

def IOp.oprs : IOp → List Opr
  | .bad | .new _ => []
  | .mv x | .box _ x | .ld _ _ x | .nilc x | .un _ x | .conv _ x | .fa _ _ _ x | .fld _ _ _ x | .ext x _ | .len x | .slarr _ _ _ _ x => [x]
  | .pick c a b => [c, a, b]
  | .build _ ps => ps.map (·.2.2)
  | .bsl _ _ _ _ ps => ps.map (·.2)
  | .st _ a x | .bin _ _ a x | .ia _ a x | .iarr _ _ _ a x | .idx _ _ _ a x | .sidx a x | .app _ _ _ a x | .copy a x | .mksl _ _ _ _ a x => [a, x]
  | .mkfn _ fs cs => fs ++ cs
  | .slc _ x lo hi lim => x :: (lo.toList ++ hi.toList ++ lim.toList)
  | .call f as => f :: as
  | .mn as | .mx as => as

/-- What an operation in a drawn region touched: temporaries read, the one written, objects seen, objects changed, what it let die, what references it held. -/
structure Ft where
  tr : List Nat
  tw : List Nat
  sn : List Nat
  wr : List Nat
  kl : List Kl
  rf : List Rf
  dd : Bool

/-- Is something dead in a value? -/
def hasDead : AV → Bool
  | .dead => true
  | .agg cs => hasDeadL cs
  | .tup cs => hasDeadL cs
  | .fn _ a b => hasDeadL a || hasDeadL b
  | _ => false
  where hasDeadL : List AV → Bool
  | [] => false
  | e :: es => hasDead e || hasDeadL es

def refsOf (ρ : Opr → Option AV) (l : List Opr) : List Rf := l.flatMap fun x => match ρ x with | some v => refs v | none => []

def footOf (o : IOper) (s : St) (rd : List Nat) (e : Eff) : Ft :=
  { tr := o.op.oprs.flatMap oprT ++ (match o.g with | some (t, _) => [t] | none => []), tw := o.d.toList,
    sn := rd, wr := e.ch.map (·.1), kl := e.kl, rf := refsOf s.val o.op.oprs ++ refs e.v,
    dd := o.op.oprs.any fun x => match s.val x with | some v => hasDead v | none => true }

def disj (a b : List Nat) : Bool := a.all fun x => !b.contains x

def spares (ks : List Kl) (rs : List Rf) : Bool := ks.all fun k => rs.all fun r => !k.hits r.o r.k0 r.p

/-- May two operations change places? -/
def Ft.par (a b : Ft) : Bool :=
  disj a.tw b.tr && disj a.tw b.tw && disj a.tr b.tw && disj a.wr b.sn && disj a.wr b.wr && disj a.sn b.wr && spares a.kl b.rf && spares b.kl a.rf && (a.kl.isEmpty || !b.dd)

/-- All that is ahead of an operation, by its edges. -/
def ancs (anc : List (List Nat)) (aft : List Nat) : List Nat := aft ++ aft.flatMap fun j => anc.getD j []

def parAll (ft : Ft) (an : List Nat) : Nat → List Ft → Bool
  | _, [] => true
  | j, f :: fs => (an.contains j || Ft.par f ft) && parAll ft an (j + 1) fs

/-- A region whose order is open: in the text's order, if all that may change places may. -/
def evDraw (E : Env) (cf : CallF) : List IOper → List (List Nat) → List Ft → St → Option St
  | [], _, _, s => some s
  | o :: os, anc, fts, s => match step E cf o s with
    | none => none
    | some (s', rd, e) =>
      let an := ancs anc o.aft
      let ft := footOf o s rd e
      if o.aft.all (· < anc.length) && parAll ft an 0 fts then evDraw E cf os (anc ++ [an]) (fts ++ [ft]) s' else none

inductive Out where
  | no
  | nx (s : St)
  | ex (id : Nat) (s : St)
  | rt (s : St)

def rounds (f : St → Out) : Nat → St → Out
  | 0, _ => .no
  | n + 1, s => match f s with
    | .nx s' => rounds f n s'
    | o => o

/-- Only what is still wanted. -/
def St.keep (s : St) (l : List Nat) : St :=
  let tm := l.filterMap fun t => (getA s.tm t).map (t, ·)
  let ks := tm.flatMap fun x => (refs x.2).map (·.o)
  { tm := tm, ob := s.ob.filter fun x => ks.contains x.1 }

def evC (E : Env) (cf : CallF) (fuel : Nat) : ICode → St → Out
  | .bad, _ => .no
  | .skip, s => .nx s
  | .reg ops, s => match evOps E cf ops s with
    | some s' => .nx s'
    | none => .no
  | .drw ops, s => match evDraw E cf ops [] [] s with
    | some s' => .nx s'
    | none => .no
  | .seq a b, s => match evC E cf fuel a s with
    | .nx s' => evC E cf fuel b s'
    | o => o
  | .cnd c a b, s => match s.val c with
    | some (.lit (.bool t)) => if t then evC E cf fuel a s else evC E cf fuel b s
    | _ => .no
  | .blk id b, s => match evC E cf fuel b s with
    | .ex i s' => if i == id then .nx s' else .ex i s'
    | o => o
  | .loop b, s => rounds (evC E cf fuel b) fuel s
  | .exit id, s => .ex id s
  | .ret, s => .rt s
  | .live l, s => .nx (s.keep l)

/-- What stands of the results when a function ends. -/
def resVals (s : St) : List IRes → Option (List AV)
  | [] => some []
  | .t i :: rs => (getA s.tm i).bind fun v => (resVals s rs).map fun l => v :: l
  | .cell a ag n :: rs => (getA s.tm a).bind fun p => ((ldOp ag n p).run s.obj []).bind fun x => (resVals s rs).map fun l => x.1.v :: l

def enclose : List AV → AV
  | [v] => v
  | l => .tup l

/-- What is handed back, without references. -/
def finish (fn : IFn) (s : St) : Option AV :=
  (resVals s fn.res).bind fun vs => ((fres (enclose vs) []).run s.obj []).map fun r => r.1.1

def enter (args : List AV) : List (Nat × AV) := (args.zipIdx).map fun x => (x.2, x.1)

/-- A call: at most so deep, at most so many rounds of a loop. -/
def evF (E : Env) (fuel : Nat) : Nat → CallF
  | 0, _, _ => none
  | d + 1, f, args => match E.sm f args with
    | some r => some r
    | none => match E.fs f with
      | none => none
      | some fn => match evC E (evF E fuel d) fuel fn.body { tm := enter args, ob := [] } with
        | .rt s => finish fn s
        | .nx s => finish fn s
        | _ => none

end Go.AM

/- AM, part 2: from the model's code to the abstract machine's. -/
namespace Go.AM

def leafyA : AV → Bool
  | .agg _ | .tup _ => false
  | _ => true

/-- A constant as an abstract value. -/
def cvA : Nat → Value → Option AV
  | 0, _ => none
  | n + 1, v => match v with
    | .bool b => some (.lit (.bool b))
    | .int k x => some (.lit (.int k x))
    | .string s => some (.lit (.string s))
    | .pointer none => some (.lit (.pointer none))
    | .slice none 0 0 => some (.lit (.slice none 0 0))
    | .nilFunc => some (.lit .nilFunc)
    | .func (.func f) a b => if a.toList.isEmpty && b.toList.isEmpty then some (.fn (.func f) [] []) else none
    | .agg cs => (go n cs.toList).bind fun l => if l.all leafyA then some (.agg l) else none
    | _ => none
  where go (n : Nat) : List Value → Option (List AV)
  | [] => some []
  | v :: vs => (cvA n v).bind fun x => (go n vs).map fun xs => x :: xs

/-- What package-level variables hold that are read alone. -/
abbrev Globs := List (Nat × AV)

def cOpr (G : Globs) : Operand → Option Opr
  | .tmp t => some (.t t)
  | .const v => (cvA 3 v).map .c
  | .func f => some (.c (.fn (.func f) [] []))
  | .global g => (getA G g).map fun e => .c (.pt false e)

def cOprs (G : Globs) : List Operand → Option (List Opr)
  | [] => some []
  | x :: xs => (cOpr G x).bind fun y => (cOprs G xs).map fun ys => y :: ys

def isAggD : TypeDesc → Bool
  | .struct _ | .array _ _ => true
  | _ => false

/-- A type: is it a struct or an array, how many cells, bytes, are there no pointers. -/
structure Ti where
  ag : Bool
  n : Nat
  bytes : Nat
  flat : Bool

def tiOf (P : Program) (t : TypeId) : Option Ti :=
  match P.underlying t, P.info? t with
  | some d, some i => some ⟨isAggD d, i.size, i.bytes, !i.hasPointers⟩
  | _, _ => none

def zeroA (P : Program) (t : TypeId) : Option AV := (P.info? t).bind fun i => i.zero.bind (cvA 3)

def leafsV (v : AV) : List AV := leafs v

def cParts (P : Program) (G : Globs) (fs : Array Field) : List (Nat × Operand) → Option (List (Nat × Nat × Opr))
  | [] => some []
  | (i, x) :: ps => match fs[i]?, cOpr G x with
    | some f, some y => match P.info? f.type with
      | some i => (cParts P G fs ps).map fun r => (f.offset, i.size, y) :: r
      | none => none
    | _, _ => none

def cPartsA (G : Globs) (sz : Nat) : List (Nat × Operand) → Option (List (Nat × Nat × Opr))
  | [] => some []
  | (i, x) :: ps => (cOpr G x).bind fun y => (cPartsA G sz ps).map fun r => (i * sz, sz, y) :: r

def cElems (G : Globs) : List (Nat × Operand) → Option (List (Nat × Opr))
  | [] => some []
  | (i, x) :: ps => (cOpr G x).bind fun y => (cElems G ps).map fun r => (i, y) :: r

def cOpt (G : Globs) : Option Operand → Option (Option Opr)
  | none => some none
  | some x => (cOpr G x).map some

def allInfo (P : Program) (fs : Array Field) : Bool := fs.all fun f => (P.info? f.type).isSome

def compOp (P : Program) (G : Globs) (op : Op) : Option IOp :=
  match op with
  | .move x | .assign x => (cOpr G x).map .mv
  | .pick c a b => (cOpr G c).bind fun c => (cOpr G a).bind fun a => (cOpr G b).map fun b => .pick c a b
  | .alloc t => (zeroA P t).map .new
  | .box t x => (tiOf P t).bind fun i => (cOpr G x).map fun x => .box i.n x
  | .build t ps => (zeroA P t).bind fun z => match P.underlying t with
    | some (.struct fs) => if allInfo P fs then (cParts P G fs ps.toList).map fun l => .build (leafs z) l else none
    | some (.array _ e) => match P.info? e with
      | some i => (cPartsA G i.size ps.toList).map fun l => .build (leafs z) l
      | none => none
    | _ => none
  | .buildSlice t len ps => match P.underlying t with
    | some (.slice e) => (tiOf P e).bind fun i => (zeroA P e).bind fun z => if len * i.n ≤ 65536 && 0 < i.n && (leafs z).length == i.n then (cElems G ps.toList).map fun l => .bsl i.flat i.n z len l else none
    | _ => none
  | .load t a => (tiOf P t).bind fun i => (cOpr G a).map fun a => .ld i.ag (if i.ag then i.n else 1) a
  | .store t a x => (tiOf P t).bind fun i => (cOpr G a).bind fun a => (cOpr G x).map fun x => .st i.n a x
  | .nilCheck x => (cOpr G x).map .nilc
  | .binOp o t x y _ => (cOpr G x).bind fun x => (cOpr G y).bind fun y => match P.underlying t with
    | some (.int _) => some (.bin 0 o x y)
    | some .bool => some (.bin 1 o x y)
    | some (.pointer _) => some (.bin 2 o x y)
    | some (.slice _) => some (.bin 3 o x y)
    | some (.func ..) => some (.bin 4 o x y)
    | _ => none
  | .unOp o _ x => (cOpr G x).map fun x => .un o x
  | .convert s d x => match P.underlying s, P.underlying d with
    | some (.int _), some (.int k) => (cOpr G x).map fun x => .conv k x
    | _, _ => none
  | .makeFunc (.func f) fs cs => (cOprs G fs.toList).bind fun a => (cOprs G cs.toList).map fun b => .mkfn (.func f) a b
  | .makeSlice t l c => match P.underlying t with
    | some (.slice e) => (tiOf P e).bind fun i => (zeroA P e).bind fun z => (cOpr G l).bind fun l => (cOpr G c).bind fun c => if 0 < i.n && (leafs z).length == i.n && i.n ≤ 64 then some (.mksl i.flat i.n z i.bytes l c) else none
    | _ => none
  | .slice t x lo hi mx => match P.underlying t with
    | some (.slice e) => (P.info? e).bind fun i => (cOpr G x).bind fun x => (cOpt G lo).bind fun l => (cOpt G hi).bind fun h => (cOpt G mx).map fun m => .slc i.size x l h m
    | some (.array n e) => match lo, hi, mx with
      | none, none, none => (tiOf P e).bind fun i => (cOpr G x).map fun x => .slarr n i.n i.ag i.flat x
      | _, _, _ => none
    | _ => none
  | .fieldAddr s x f => match P.underlying s with
    | some (.struct fs) => match fs[f]? with
      | some f => (tiOf P f.type).bind fun i => if 0 < i.n then (cOpr G x).map fun x => .fa i.ag i.n f.offset x else none
      | none => none
    | _ => none
  | .field s x f => match P.underlying s with
    | some (.struct fs) => match fs[f]? with
      | some f => (tiOf P f.type).bind fun i => (cOpr G x).map fun x => .fld i.ag i.n f.offset x
      | none => none
    | _ => none
  | .indexAddr t x ix => match P.underlying t with
    | some (.slice e) => (P.info? e).bind fun i => (cOpr G x).bind fun x => (cOpr G ix).map fun j => .ia i.size x j
    | some (.array n e) => (tiOf P e).bind fun i => (cOpr G x).bind fun x => (cOpr G ix).map fun j => .iarr n i.n i.ag x j
    | _ => none
  | .index t x ix => match P.underlying t with
    | some (.array n e) => (tiOf P e).bind fun i => (cOpr G x).bind fun x => (cOpr G ix).map fun j => .idx n i.n i.ag x j
    | some .string => (cOpr G x).bind fun x => (cOpr G ix).map fun j => .sidx x j
    | _ => none
  | .extract x i => (cOpr G x).map fun x => .ext x i
  | .call c => match c.callee with
    | .value f => (cOpr G f).bind fun f => (cOprs G c.args.toList).map fun as => .call f as
    | .builtin .append => match c.argTypes.toList, c.args.toList with
      | [t, u], [s, x] => match P.underlying t, P.underlying u with
        | some (.slice e), some (.slice _) => (tiOf P e).bind fun i => (zeroA P e).bind fun z => if 0 < i.n && 0 < i.bytes && i.bytes ≤ 1024 && (leafs z).length == i.n then (cOpr G s).bind fun s => (cOpr G x).map fun x => .app i.flat i.n i.bytes s x else none
        | _, _ => none
      | _, _ => none
    | .builtin .len => match c.argTypes.toList, c.args.toList with
      | [t], [x] => match P.underlying t with
        | some (.slice _) => (cOpr G x).map .len
        | some (.array n _) => some (.mv (.c (.int .i64 n)))
        | _ => none
      | _, _ => none
    | .builtin .copy => match c.argTypes.toList, c.args.toList with
      | [t, u], [s, x] => match P.underlying t, P.underlying u with
        | some (.slice e), some (.slice _) => (tiOf P e).bind fun i => if i.n == 1 && i.flat then (cOpr G s).bind fun s => (cOpr G x).map fun x => .copy s x else none
        | _, _ => none
      | _, _ => none
    | .builtin .min => (cOprs G c.args.toList).map .mn
    | .builtin .max => (cOprs G c.args.toList).map .mx
    | _ => none
  | _ => none

/-- Edges that bind in every order. -/
def cAft (a : Array Edge) : List Nat := ((a.toList.filter fun e => Region.binds .any e).map (·.on)).eraseDups

def cGuard (ops : Array Oper) : Option (Nat × Bool) → Option (Option (Nat × Bool))
  | none => some none
  | some (j, b) => ((ops[j]?).bind (·.dst)).map fun t => some (t, b)

def compOper (P : Program) (G : Globs) (ops : Array Oper) (draw : Bool) (o : Oper) : Option IOper :=
  (cGuard ops o.guard).map fun g => { d := o.dst, op := (compOp P G o.op).getD .bad, aft := if draw then cAft o.after else [], g := g }

def compOpers (P : Program) (G : Globs) (ops : Array Oper) (draw : Bool) : List Oper → Option (List IOper)
  | [] => some []
  | o :: os => (compOper P G ops draw o).bind fun i => (compOpers P G ops draw os).map fun r => i :: r

def compC (P : Program) (G : Globs) : Code → ICode
  | .skip => .skip
  | .region _ ops draw => match compOpers P G ops draw ops.toList with
    | some l => if draw then .drw l else .reg l
    | none => .bad
  | .seq a b => .seq (compC P G a) (compC P G b)
  | .cond c a b => match cOpr G c with
    | some c => .cnd c (compC P G a) (compC P G b)
    | none => .bad
  | .block id b => .blk id (compC P G b)
  | .loop b => .loop (compC P G b)
  | .exit id => .exit id
  | .ret => .ret
  | _ => .bad

def compRes (P : Program) : List ResultVar → Option (List IRes)
  | [] => some []
  | .tmp t :: rs => (compRes P rs).map fun l => .t t :: l
  | .cell a t :: rs => (tiOf P t).bind fun i => (compRes P rs).map fun l => .cell a i.ag (if i.ag then i.n else 1) :: l

def compFn (P : Program) (G : Globs) (f : FuncId) : Option IFn :=
  (P.funcs[f]?).bind fun fn => fn.body.bind fun b => (compRes P fn.results.toList).map fun r => { nt := fn.ntmps, res := r, body := compC P G b }

/-- Without the marks of what is still wanted. -/
def strip : ICode → ICode
  | .seq (.live _) b => strip b
  | .seq a b => .seq (strip a) (strip b)
  | .cnd c a b => .cnd c (strip a) (strip b)
  | .blk id b => .blk id (strip b)
  | .loop b => .loop (strip b)
  | c => c

end Go.AM

/- AM, part 3: ghost values: abstract values with the places in memory where they stand. -/
namespace Go.AM

/-- A value of one cell that leads nowhere. -/
def ground : Value → Bool
  | .bool _ | .int _ _ | .string _ | .pointer none | .slice none 0 0 | .nilFunc => true
  | _ => false

inductive GV where
  | dead (v : Value)
  | lit (v : Value)
  | agg (cs : List GV)
  | tup (vs : List GV)
  | fn (f : Fn) (first cap : List GV)
  | sl (m : Nat) (fl : Bool) (sz : Nat) (es : List GV) (b off cap : Nat)
  | nl (m : Nat) (fl : Bool) (sz : Nat)
  | pt (own : Bool) (e : GV) (b off : Nat)
  | ref (a : AV) (v : Value)

def ownM (m : Nat) : Bool := m == 1 || m == 3

namespace GV

/-- Without the places. -/
def era : GV → AV
  | dead _ => .dead
  | lit v => .lit v
  | agg cs => .agg (eraL cs)
  | tup cs => .tup (eraL cs)
  | fn f a b => .fn f (eraL a) (eraL b)
  | sl m fl sz es _ _ _ => .sl m fl sz (eraL es)
  | nl m fl sz => .sl m fl sz []
  | pt o e _ _ => .pt o (era e)
  | ref a _ => a
  where eraL : List GV → List AV
  | [] => []
  | e :: es => era e :: eraL es

/-- The model's value. -/
def cv : GV → Value
  | dead v => v
  | lit v => v
  | agg cs => .agg (cvL cs).toArray
  | tup cs => .tuple (cvL cs).toArray
  | fn f a b => .func f (cvL a).toArray (cvL b).toArray
  | sl _ _ _ es b off cap => .slice (some ⟨b, off, none⟩) (lenL es) cap
  | nl _ _ _ => .slice none 0 0
  | pt _ _ b off => .pointer (some ⟨b, off, none⟩)
  | ref _ v => v
  where
  cvL : List GV → List Value
  | [] => []
  | e :: es => cv e :: cvL es
  lenL : List GV → Nat
  | [] => 0
  | _ :: es => lenL es + 1

/-- The blocks that are one's own. -/
def own : GV → List Nat
  | agg cs => ownL cs
  | tup cs => ownL cs
  | fn _ a b => ownL a ++ ownL b
  | sl m _ _ es b _ _ => if ownM m then b :: ownL es else ownL es
  | pt o e b _ => if o then b :: own e else own e
  | _ => []
  where ownL : List GV → List Nat
  | [] => []
  | e :: es => own e ++ ownL es

def leafs : GV → List GV
  | agg cs => cs
  | e => [e]

def leafy : GV → Bool
  | agg _ | tup _ => false
  | _ => true

theorem eraL_eq (l : List GV) : era.eraL l = l.map era := by
  induction l with
  | nil => rfl
  | cons a l ih => simp [era.eraL, ih]

theorem cvL_eq (l : List GV) : cv.cvL l = l.map cv := by
  induction l with
  | nil => rfl
  | cons a l ih => simp [cv.cvL, ih]

theorem lenL_eq (l : List GV) : cv.lenL l = l.length := by
  induction l with
  | nil => rfl
  | cons a l ih => simp [cv.lenL, ih]

theorem ownL_eq (l : List GV) : own.ownL l = l.flatMap own := by
  induction l with
  | nil => rfl
  | cons a l ih => simp [own.ownL, ih]

theorem leafs_era (g : GV) (h : ∀ a v, g = ref a v → AM.leafs a = [a]) : AM.leafs g.era = (leafs g).map era := by
  cases g <;> simp [era, leafs, AM.leafs, eraL_eq]
  exact h _ _ rfl

end GV

/-- A row of elements stands in memory. -/
def Cells (w : World) (b off sz : Nat) (es : List GV) : Prop :=
  ∀ i e, es[i]? = some e → (GV.leafs e).length = sz ∧ ∀ k l, (GV.leafs e)[k]? = some l → w.cell? ⟨b, off + i * sz + k, none⟩ = some l.cv

/-- A block that may be written. -/
def Mine (w : World) (b top : Nat) : Prop := ∃ arr T, w.heap[b]? = some (.cells arr T (0, 0)) ∧ top ≤ arr.size

/-- A tree stands in memory: 'I': blocks that are never written again; 'K': cells that must stay. -/
inductive HT (w : World) (I : Nat → Prop) (K : Nat → Nat → Prop) : GV → Prop where
  | dead (v : Value) : HT w I K (.dead v)
  | lit (v : Value) : ground v = true → HT w I K (.lit v)
  | agg (cs : List GV) : (∀ c ∈ cs, HT w I K c) → (∀ c ∈ cs, c.leafy = true) → HT w I K (.agg cs)
  | fn (f : Fn) (a b : List GV) : (∀ c ∈ a, HT w I K c) → (∀ c ∈ b, HT w I K c) → GV.own.ownL a = [] → GV.own.ownL b = [] → HT w I K (.fn f a b)
  | sl (m : Nat) (fl : Bool) (sz : Nat) (es : List GV) (b off cap : Nat) : es.length ≤ cap → Cells w b off sz es → (∀ e ∈ es, HT w I K e) →
      (ownM m = false → I b ∧ GV.own.ownL es = []) → (m = 2 → cap = es.length) → (m = 1 → Mine w b (off + cap * sz) ∧ ∀ j, j < cap * sz → ¬ K b (off + j)) →
      (m = 3 → Mine w b (off + es.length * sz) ∧ ∀ j, j < es.length * sz → ¬ K b (off + j)) → HT w I K (.sl m fl sz es b off cap)
  | nl (m : Nat) (fl : Bool) (sz : Nat) : ownM m = false → HT w I K (.nl m fl sz)
  | pt (o : Bool) (e : GV) (b off : Nat) : (∀ k l, (GV.leafs e)[k]? = some l → w.cell? ⟨b, off + k, none⟩ = some l.cv) → HT w I K e →
      (o = false → I b ∧ e.own = []) → (o = true → Mine w b (off + (GV.leafs e).length) ∧ ∀ j, j < (GV.leafs e).length → ¬ K b (off + j)) → HT w I K (.pt o e b off)

/-- A value stands in memory; 'R': what its references lead to. -/
inductive HV (w : World) (I : Nat → Prop) (K : Nat → Nat → Prop) (R : AV → Value → Prop) : GV → Prop where
  | tree (g : GV) : HT w I K g → HV w I K R g
  | ref (a : AV) (v : Value) : R a v → HV w I K R (.ref a v)
  | agg (cs : List GV) : (∀ c ∈ cs, HV w I K R c) → (∀ c ∈ cs, c.leafy = true) → HV w I K R (.agg cs)
  | tup (cs : List GV) : (∀ c ∈ cs, HV w I K R c) → HV w I K R (.tup cs)
  | fn (f : Fn) (a b : List GV) : (∀ c ∈ a, HV w I K R c) → (∀ c ∈ b, HV w I K R c) → HV w I K R (.fn f a b)

/-- What a world keeps of another one, for trees over some blocks. -/
theorem HT.mono {w w' : World} {I I' : Nat → Prop} {K K' : Nat → Nat → Prop} {g : GV} (h : HT w I K g) (hI : ∀ b, I b → I' b ∧ w'.heap[b]? = w.heap[b]?)
    (hK : ∀ b o, b ∈ g.own → K' b o → K b o) (hO : ∀ b ∈ g.own, w'.heap[b]? = w.heap[b]?) : HT w' I' K' g := by
  have cell : ∀ (b o : Nat), w'.heap[b]? = w.heap[b]? → w'.cell? ⟨b, o, none⟩ = w.cell? ⟨b, o, none⟩ := fun b o h => by
    simp only [World.cell?]; rw [h]
  induction h with
  | dead v => exact .dead v
  | lit v h => exact .lit v h
  | agg cs _ hl ih =>
    refine .agg cs (fun c hc => ih c hc ?_ ?_) hl
    · exact fun b o hb => hK b o (by simp only [GV.own, GV.ownL_eq, List.mem_flatMap]; exact ⟨c, hc, hb⟩)
    · exact fun b hb => hO b (by simp only [GV.own, GV.ownL_eq, List.mem_flatMap]; exact ⟨c, hc, hb⟩)
  | fn f a b _ _ ha hb iha ihb =>
    refine .fn f a b (fun c hc => iha c hc ?_ ?_) (fun c hc => ihb c hc ?_ ?_) ha hb
    · exact fun b o hb => hK b o (by simp only [GV.own, GV.ownL_eq, List.mem_append, List.mem_flatMap]; exact .inl ⟨c, hc, hb⟩)
    · exact fun b hb => hO b (by simp only [GV.own, GV.ownL_eq, List.mem_append, List.mem_flatMap]; exact .inl ⟨c, hc, hb⟩)
    · exact fun b o hb => hK b o (by simp only [GV.own, GV.ownL_eq, List.mem_append, List.mem_flatMap]; exact .inr ⟨c, hc, hb⟩)
    · exact fun b hb => hO b (by simp only [GV.own, GV.ownL_eq, List.mem_append, List.mem_flatMap]; exact .inr ⟨c, hc, hb⟩)
  | sl m fl sz es b off cap hlen hc _ hi h2 h1 h3 ih =>
    have hb : w'.heap[b]? = w.heap[b]? := by
      cases ho : ownM m with
      | true => exact hO b (by simp [GV.own, ho])
      | false => exact (hI b (hi ho).1).2
    refine .sl m fl sz es b off cap hlen (fun i e he => ⟨(hc i e he).1, fun k l hl => by rw [cell _ _ hb]; exact (hc i e he).2 k l hl⟩) (fun e he => ih e he ?_ ?_) (fun ho => ⟨(hI b (hi ho).1).1, (hi ho).2⟩) h2 ?_ ?_
    · exact fun b' o hb' => hK b' o (by simp only [GV.own, GV.ownL_eq]; split <;> simp only [List.mem_cons, List.mem_flatMap] <;> first | exact .inr ⟨e, he, hb'⟩ | exact ⟨e, he, hb'⟩)
    · exact fun b' hb' => hO b' (by simp only [GV.own, GV.ownL_eq]; split <;> simp only [List.mem_cons, List.mem_flatMap] <;> first | exact .inr ⟨e, he, hb'⟩ | exact ⟨e, he, hb'⟩)
    · intro hm
      obtain ⟨⟨arr, T, ha, hs⟩, hk⟩ := h1 hm
      exact ⟨⟨arr, T, by rw [hb]; exact ha, hs⟩, fun j hj hk' => hk j hj (hK b _ (by subst hm; simp [GV.own, ownM]) hk')⟩
    · intro hm
      obtain ⟨⟨arr, T, ha, hs⟩, hk⟩ := h3 hm
      exact ⟨⟨arr, T, by rw [hb]; exact ha, hs⟩, fun j hj hk' => hk j hj (hK b _ (by subst hm; simp [GV.own, ownM]) hk')⟩
  | nl m fl sz h => exact .nl m fl sz h
  | pt o e b off hc _ hi ho ih =>
    have hb : w'.heap[b]? = w.heap[b]? := by
      cases o with
      | true => exact hO b (by simp [GV.own])
      | false => exact (hI b (hi rfl).1).2
    refine .pt o e b off (fun k l hl => by rw [cell _ _ hb]; exact hc k l hl) (ih ?_ ?_) (fun h => ⟨(hI b (hi h).1).1, (hi h).2⟩) ?_
    · exact fun b' o' hb' => hK b' o' (by simp only [GV.own]; split <;> simp [hb'])
    · exact fun b' hb' => hO b' (by simp only [GV.own]; split <;> simp [hb'])
    · intro h
      obtain ⟨⟨arr, T, ha, hs⟩, hk⟩ := ho h
      exact ⟨⟨arr, T, by rw [hb]; exact ha, hs⟩, fun j hj hk' => hk j hj (hK b _ (by simp [GV.own, h]) hk')⟩

/-- The values of leaves, cell by cell. -/
theorem GV.cells_cv (g : GV) : g.cv.cells = ((GV.leafs g).map GV.cv).toArray ∨ (∃ v, g = .dead v) ∨ (∃ a v, g = .ref a v) ∨ (∃ v, g = .lit v) := by
  cases g with
  | dead v => exact .inr (.inl ⟨v, rfl⟩)
  | ref a v => exact .inr (.inr (.inl ⟨a, v, rfl⟩))
  | lit v => exact .inr (.inr (.inr ⟨v, rfl⟩))
  | agg cs => left; simp [GV.cv, GV.leafs, Value.cells, GV.cvL_eq]
  | _ => left; simp [GV.cv, GV.leafs, Value.cells]

end Go.AM

/- AM, part 4: loads and stores of rows of cells, as the model runs them. -/
namespace Go.AM

/-- Only cells of one block may have turned. -/
structure Turn (w w' : World) (b : Nat) : Prop where
  os : w'.os = w.os
  tape : w'.tape = w.tape
  output : w'.output = w.output
  size : w'.heap.size = w.heap.size
  other : ∀ k, k ≠ b → w'.heap[k]? = w.heap[k]?

theorem Turn.refl (w : World) (b : Nat) : Turn w w b := ⟨rfl, rfl, rfl, rfl, fun _ _ => rfl⟩
theorem Turn.trans {w w' w'' : World} {b : Nat} (h : Turn w w' b) (k : Turn w' w'' b) : Turn w w'' b :=
  ⟨k.os.trans h.os, k.tape.trans h.tape, k.output.trans h.output, k.size.trans h.size, fun i hi => (k.other i hi).trans (h.other i hi)⟩

theorem turn_setCell (w : World) (b o : Nat) (v : Value) : Turn w (w.setCell ⟨b, o, none⟩ v) b := by
  refine ⟨rfl, rfl, rfl, by simp [World.setCell], fun k hk => ?_⟩
  simp only [World.setCell, Array.getElem?_modify]
  rw [if_neg (by omega)]

theorem setCell_block {w : World} {b : Nat} {arr : Array Value} {T : TypeId} {fz : Nat × Nat} (h : w.heap[b]? = some (.cells arr T fz)) (o : Nat) (v : Value) :
    (w.setCell ⟨b, o, none⟩ v).heap[b]? = some (.cells (arr.setIfInBounds o v) T fz) := by
  simp [World.setCell, Array.getElem?_modify, h]

theorem cell_block {w : World} {b o : Nat} {arr : Array Value} {T : TypeId} {fz : Nat × Nat} (h : w.heap[b]? = some (.cells arr T fz)) : w.cell? ⟨b, o, none⟩ = arr[o]? := by
  simp [World.cell?, h]

theorem frozen_block {w : World} {b o : Nat} {arr : Array Value} {T : TypeId} (h : w.heap[b]? = some (.cells arr T (0, 0))) : w.frozen? ⟨b, o, none⟩ = false := by
  simp [World.frozen?, h]

theorem addr_add (b off n : Nat) : (Addr.mk b off none).add n = ⟨b, off + n, none⟩ := by
  unfold Addr.add; split <;> simp_all

theorem run_load_cell {P : Program} {w : World} {a : Addr} {v : Value} (h : w.cell? a = some v) : (load a).run P w = .ok v w := by
  simp [h]

theorem run_loadCellsFrom {P : Program} {w : World} {b off : Nat} : ∀ (n i : Nat) (acc : Array Value) (vs : List Value), vs.length = n →
    (∀ j v, vs[j]? = some v → w.cell? ⟨b, off + (i + j), none⟩ = some v) → (loadCellsFrom ⟨b, off, none⟩ i n acc).run P w = .ok (acc ++ vs.toArray) w
  | 0, i, acc, vs, h, _ => by
    have : vs = [] := List.length_eq_zero_iff.1 h
    subst this; simp [loadCellsFrom]
  | n + 1, i, acc, vs, h, hc => by
    cases vs with
    | nil => simp at h
    | cons v vs =>
      simp only [List.length_cons, Nat.add_right_cancel_iff] at h
      have h0 := hc 0 v rfl
      simp only [loadCellsFrom, addr_add]
      rw [Sem.run_bind, run_load_cell (by simpa using h0)]
      simp only [Result.andThen_ok]
      rw [run_loadCellsFrom n (i + 1) _ vs h (fun j u hu => by have := hc (j + 1) u (by simpa using hu); rw [show i + 1 + j = i + (j + 1) by omega]; exact this)]
      simp

theorem run_loadCells {P : Program} {w : World} {b off n : Nat} {vs : List Value} (hn : vs.length = n) (h : ∀ j v, vs[j]? = some v → w.cell? ⟨b, off + j, none⟩ = some v) :
    (loadCells ⟨b, off, none⟩ n).run P w = .ok vs.toArray w := by
  unfold loadCells
  rw [run_loadCellsFrom n 0 #[] vs hn (fun j v hv => by simpa using h j v hv)]
  simp

/-- Cells are written, one behind the other. -/
def setCells (w : World) (b : Nat) : Nat → List Value → World
  | _, [] => w
  | off, v :: vs => setCells (w.setCell ⟨b, off, none⟩ v) b (off + 1) vs

theorem turn_setCells (b : Nat) : ∀ (vs : List Value) (off : Nat) (w : World), Turn w (setCells w b off vs) b
  | [], _, w => Turn.refl w b
  | v :: vs, off, w => (turn_setCell w b off v).trans (turn_setCells b vs (off + 1) _)

theorem block_setCells {b : Nat} {T : TypeId} : ∀ (vs : List Value) (off : Nat) (w : World) (arr : Array Value), w.heap[b]? = some (.cells arr T (0, 0)) →
    off + vs.length ≤ arr.size → ∃ arr', (setCells w b off vs).heap[b]? = some (.cells arr' T (0, 0)) ∧ arr'.size = arr.size ∧
      ∀ o, arr'[o]? = if off ≤ o ∧ o < off + vs.length then vs[o - off]? else arr[o]?
  | [], off, w, arr, h, _ => ⟨arr, h, rfl, fun o => by rw [if_neg (by simp)]⟩
  | v :: vs, off, w, arr, h, hs => by
    simp only [List.length_cons] at hs
    obtain ⟨arr', h1, h2, h3⟩ := block_setCells vs (off + 1) (w.setCell ⟨b, off, none⟩ v) (arr.setIfInBounds off v) (setCell_block h off v) (by simp; omega)
    refine ⟨arr', h1, by simpa using h2, fun o => ?_⟩
    rw [h3 o]
    by_cases hlt : o < off
    · rw [if_neg (by omega), if_neg (by omega), Array.getElem?_setIfInBounds_ne (by omega)]
    · by_cases he : o = off
      · subst he
        rw [if_neg (by omega), if_pos (by simp)]
        simp [show o < arr.size by omega]
      · by_cases hb : o < off + 1 + vs.length
        · rw [if_pos (by omega), if_pos (by simp; omega)]
          obtain ⟨d, rfl⟩ : ∃ d, o = off + 1 + d := ⟨o - (off + 1), by omega⟩
          rw [show off + 1 + d - (off + 1) = d by omega, show off + 1 + d - off = d + 1 by omega]
          simp
        · rw [if_neg (by omega), if_neg (by simp; omega), Array.getElem?_setIfInBounds_ne (by omega)]

theorem run_storeCells {P : Program} {b off0 : Nat} {T : TypeId} : ∀ (vs : List Value) (i : Nat) (w : World) (arr : Array Value), w.heap[b]? = some (.cells arr T (0, 0)) →
    off0 + i + vs.length ≤ arr.size → vs.all (·.oneCell') = true → (storeCells ⟨b, off0, none⟩ vs i).run P w = .ok () (setCells w b (off0 + i) vs)
  | [], i, w, arr, h, _, _ => by simp [storeCells, setCells]
  | v :: vs, i, w, arr, h, hs, h1 => by
    simp only [List.length_cons] at hs
    simp only [List.all_cons, Bool.and_eq_true] at h1
    simp only [storeCells, addr_add, setCells]
    rw [Sem.run_bind, run_store P w _ v .plain h1.1, cell_block h]
    rw [Array.getElem?_eq_getElem (by omega : off0 + i < arr.size)]
    simp only [frozen_block h, Bool.false_eq_true, if_false, Result.andThen_ok]
    exact run_storeCells vs (i + 1) _ _ (setCell_block h _ v) (by simp; omega) h1.2

end Go.AM

/- AM, part 5: what a frame's abstract state says of the model's. -/
namespace Go.AM
open GV

def gleafAt (e : GV) (k : Nat) : Option GV := (GV.leafs e)[k]?

/-- The node at a path. -/
def gnodeAt : GV → List Stp → Option GV
  | t, [] => some t
  | .sl _ _ _ es _ _ _, (i, k, _) :: p => match es[i]? with
    | some e => match gleafAt e k with
      | some l => gnodeAt l p
      | none => none
    | none => none
  | .pt _ e _ _, (_, k, _) :: p => match gleafAt e k with
    | some l => gnodeAt l p
    | none => none
  | _, _ :: _ => none

def gnodeIn (ls : List GV) (k0 : Nat) (p : List Stp) : Option GV :=
  match ls[k0]? with
  | some t => gnodeAt t p
  | none => none

/-- What a reference leads to. -/
inductive RefOK (gob : Nat → List GV) : AV → Value → Prop where
  | s (o k0 : Nat) (p : List Stp) (off n m : Nat) (fl : Bool) (sz : Nat) (es : List GV) (b off0 cap0 cap : Nat) :
      gnodeIn (gob o) k0 p = some (.sl m fl sz es b off0 cap0) → off + n ≤ es.length → n ≤ cap → off + cap ≤ cap0 →
      RefOK gob (.sref o k0 p off n) (.slice (some ⟨b, off0 + off * sz, none⟩) n cap)
  | ps (o k0 : Nat) (p : List Stp) (i k m : Nat) (fl : Bool) (sz : Nat) (es : List GV) (b off0 cap0 : Nat) :
      gnodeIn (gob o) k0 p = some (.sl m fl sz es b off0 cap0) → i < es.length → RefOK gob (.pref o k0 p i k) (.pointer (some ⟨b, off0 + i * sz + k, none⟩))
  | pp (o k0 : Nat) (p : List Stp) (k : Nat) (own : Bool) (e : GV) (b off0 : Nat) :
      gnodeIn (gob o) k0 p = some (.pt own e b off0) → RefOK gob (.pref o k0 p 0 k) (.pointer (some ⟨b, off0 + k, none⟩))

/-- What a frame began with: the world, what was never written again, what it may write, which cells stay. -/
structure Cx where
  w0 : World
  I0 : Nat → Prop
  bs0 : List Nat
  K : Nat → Nat → Prop

/-- The store stands in memory; 'fl': what is one's own and stands nowhere in the store just now. -/
structure StoF (cx : Cx) (gob : Nat → List GV) (fl : List GV) (I : Nat → Prop) (w : World) : Prop where
  nod : ∀ o, (own.ownL (gob o)).Nodup
  dis : ∀ o o' b, o ≠ o' → b ∈ own.ownL (gob o) → b ∉ own.ownL (gob o')
  hol : ∀ o g, g ∈ gob o → HT w I cx.K g
  nI : ∀ o b, b ∈ own.ownL (gob o) → ¬ I b
  fnod : (own.ownL fl).Nodup
  fdis : ∀ o b, b ∈ own.ownL fl → b ∉ own.ownL (gob o)
  fhol : ∀ g, g ∈ fl → HT w I cx.K g
  fnI : ∀ b, b ∈ own.ownL fl → ¬ I b
  forg : ∀ b, b ∈ own.ownL fl → b ∈ cx.bs0 ∨ cx.w0.heap.size ≤ b
  Ilt : ∀ b, I b → b < w.heap.size
  org : ∀ o b, b ∈ own.ownL (gob o) → b ∈ cx.bs0 ∨ cx.w0.heap.size ≤ b
  Iorg : ∀ b, I b → cx.I0 b ∨ b ∈ cx.bs0 ∨ cx.w0.heap.size ≤ b
  I0I : ∀ b, cx.I0 b → I b
  frm : ∀ b, b < cx.w0.heap.size → b ∉ cx.bs0 → w.heap[b]? = cx.w0.heap[b]?
  kpt : ∀ b o, cx.K b o → w.cell? ⟨b, o, none⟩ = cx.w0.cell? ⟨b, o, none⟩
  Kold : ∀ b o, cx.K b o → b < cx.w0.heap.size
  I0h : ∀ b, cx.I0 b → w.heap[b]? = cx.w0.heap[b]?
  os : w.os = cx.w0.os
  tape : w.tape = cx.w0.tape
  output : w.output = cx.w0.output
  size : cx.w0.heap.size ≤ w.heap.size

abbrev Sto (cx : Cx) (gob : Nat → List GV) (I : Nat → Prop) (w : World) : Prop := StoF cx gob [] I w

/-- A value of the frame's. -/
def Val (cx : Cx) (gob : Nat → List GV) (I : Nat → Prop) (w : World) (v : AV) (x : Value) : Prop :=
  ∃ g, g.era = v ∧ g.cv = x ∧ HV w I cx.K (RefOK gob) g ∧ g.own = []

structure Inv (cx : Cx) (gob : Nat → List GV) (I : Nat → Prop) (s : St) (a : Act) (w : World) : Prop where
  era : ∀ o, s.obj o = (gob o).map GV.era
  sto : Sto cx gob I w
  tms : ∀ t v, getA s.tm t = some v → ∃ x, a.tmps[t]? = some x ∧ Val cx gob I w v x
  def0 : a.defers = []

theorem HT.lt {w : World} {I : Nat → Prop} {K : Nat → Nat → Prop} {g : GV} (h : HT w I K g) : ∀ b ∈ g.own, b < w.heap.size := by
  have mine : ∀ b top, Mine w b top → b < w.heap.size := fun b top ⟨arr, T, h, _⟩ => by
    rcases Nat.lt_or_ge b w.heap.size with h' | h'
    · exact h'
    · rw [Array.getElem?_eq_none h'] at h; cases h
  induction h with
  | dead v => simp [GV.own]
  | lit v h => simp [GV.own]
  | agg cs _ _ ih =>
    intro b hb
    simp only [GV.own, ownL_eq, List.mem_flatMap] at hb
    obtain ⟨c, hc, hb⟩ := hb
    exact ih c hc b hb
  | fn f a b _ _ ha hb _ _ => intro b hb'; simp only [GV.own, ha, hb, List.append_nil] at hb'; cases hb'
  | sl m fl sz es b off cap hlen hc _ hi h2 h1 h3 ih =>
    intro b' hb'
    simp only [GV.own] at hb'
    split at hb'
    · rename_i ho
      rcases List.mem_cons.1 hb' with rfl | hb'
      · simp only [ownM, Bool.or_eq_true, beq_iff_eq] at ho
        rcases ho with ho | ho
        · exact mine _ _ (h1 ho).1
        · exact mine _ _ (h3 ho).1
      · rw [ownL_eq] at hb'
        obtain ⟨e, he, hb'⟩ := List.mem_flatMap.1 hb'
        exact ih e he b' hb'
    · rw [ownL_eq] at hb'
      obtain ⟨e, he, hb'⟩ := List.mem_flatMap.1 hb'
      exact ih e he b' hb'
  | nl => simp [GV.own]
  | pt o e b off hc _ hi ho ih =>
    intro b' hb'
    simp only [GV.own] at hb'
    split at hb'
    · rename_i h
      rcases List.mem_cons.1 hb' with rfl | hb'
      · exact mine _ _ (ho h).1
      · exact ih b' hb'
    · exact ih b' hb'

theorem HT.leafs_era {w : World} {I : Nat → Prop} {K : Nat → Nat → Prop} {g : GV} (h : HT w I K g) : AM.leafs g.era = (GV.leafs g).map GV.era := by
  cases h <;> simp [GV.era, GV.leafs, AM.leafs, eraL_eq]

theorem HT.leaf {w : World} {I : Nat → Prop} {K : Nat → Nat → Prop} {g l : GV} (h : HT w I K g) (hl : l ∈ GV.leafs g) : HT w I K l := by
  cases h with
  | agg cs h _ => exact h l hl
  | dead v => simp [GV.leafs] at hl; subst hl; exact .dead v
  | lit v h => simp [GV.leafs] at hl; subst hl; exact .lit v h
  | fn f a b h1 h2 h3 h4 => simp [GV.leafs] at hl; subst hl; exact .fn f a b h1 h2 h3 h4
  | sl m fl sz es b off cap h1 h2 h3 h4 h5 h6 h7 => simp [GV.leafs] at hl; subst hl; exact .sl m fl sz es b off cap h1 h2 h3 h4 h5 h6 h7
  | nl m fl sz h => simp [GV.leafs] at hl; subst hl; exact .nl m fl sz h
  | pt o e b off h1 h2 h3 h4 => simp [GV.leafs] at hl; subst hl; exact .pt o e b off h1 h2 h3 h4

theorem HT.leafy {w : World} {I : Nat → Prop} {K : Nat → Nat → Prop} {g l : GV} (h : HT w I K g) (hl : l ∈ GV.leafs g) : l.leafy = true := by
  cases h with
  | agg cs _ h => exact h l hl
  | _ => simp [GV.leafs] at hl; subst hl; rfl

theorem HT.elems {w : World} {I : Nat → Prop} {K : Nat → Nat → Prop} {m : Nat} {fl : Bool} {sz : Nat} {es : List GV} {b off cap : Nat} (h : HT w I K (.sl m fl sz es b off cap)) :
    ∀ e ∈ es, HT w I K e := by
  cases h; assumption

theorem HT.pointee {w : World} {I : Nat → Prop} {K : Nat → Nat → Prop} {o : Bool} {e : GV} {b off : Nat} (h : HT w I K (.pt o e b off)) : HT w I K e := by
  cases h; assumption

/-- The ghost's node stands where the tree's node stands. -/
theorem nodeAt_era {w : World} {I : Nat → Prop} {K : Nat → Nat → Prop} : ∀ (p : List Stp) (g : GV), HT w I K g → nodeAt g.era p = (gnodeAt g p).map GV.era
  | [], g, _ => by simp [nodeAt, gnodeAt]
  | (i, k, z) :: p, g, h => by
    cases h with
    | sl m fl sz es b off cap h1 h2 h3 h4 h5 h6 h7 =>
      simp only [GV.era, nodeAt, gnodeAt, eraL_eq, List.getElem?_map]
      cases he : es[i]? with
      | none => rfl
      | some e =>
        have hT := h3 e (List.mem_of_getElem? he)
        simp only [Option.map_some, leafAt, gleafAt, hT.leafs_era, List.getElem?_map]
        cases hl : (GV.leafs e)[k]? with
        | none => rfl
        | some l => exact nodeAt_era p l (hT.leaf (List.mem_of_getElem? hl))
    | pt o e b off h1 h2 h3 h4 =>
      simp only [GV.era, nodeAt, gnodeAt, leafAt, gleafAt, h2.leafs_era, List.getElem?_map]
      cases hl : (GV.leafs e)[k]? with
      | none => rfl
      | some l => exact nodeAt_era p l (h2.leaf (List.mem_of_getElem? hl))
    | _ => simp [GV.era, nodeAt, gnodeAt]

theorem nodeIn_era {w : World} {I : Nat → Prop} {K : Nat → Nat → Prop} {ls : List GV} (h : ∀ g ∈ ls, HT w I K g) (k0 : Nat) (p : List Stp) :
    nodeIn (ls.map GV.era) k0 p = (gnodeIn ls k0 p).map GV.era := by
  unfold nodeIn gnodeIn
  rw [List.getElem?_map]
  cases hk : ls[k0]? with
  | none => rfl
  | some t => exact nodeAt_era p t (h t (List.mem_of_getElem? hk))

/-- A node of a tree stands in memory. -/
theorem HT.node {w : World} {I : Nat → Prop} {K : Nat → Nat → Prop} : ∀ (p : List Stp) (g t : GV), HT w I K g → gnodeAt g p = some t → HT w I K t
  | [], g, t, h, e => by simp [gnodeAt] at e; subst e; exact h
  | (i, k, z) :: p, g, t, h, e => by
    cases h with
    | sl m fl sz es b off cap h1 h2 h3 h4 h5 h6 h7 =>
      simp only [gnodeAt] at e
      cases he : es[i]? with
      | none => simp [he] at e
      | some x =>
        have hT := h3 x (List.mem_of_getElem? he)
        simp only [he, gleafAt] at e
        cases hl : (GV.leafs x)[k]? with
        | none => simp [hl] at e
        | some l => simp only [hl] at e; exact HT.node p l t (hT.leaf (List.mem_of_getElem? hl)) e
    | pt o x b off h1 h2 h3 h4 =>
      simp only [gnodeAt, gleafAt] at e
      cases hl : (GV.leafs x)[k]? with
      | none => simp [hl] at e
      | some l => simp only [hl] at e; exact HT.node p l t (h2.leaf (List.mem_of_getElem? hl)) e
    | _ => simp [gnodeAt] at e

theorem StoF.node {cx : Cx} {gob : Nat → List GV} {fl : List GV} {I : Nat → Prop} {w : World} (h : StoF cx gob fl I w) {o k0 : Nat} {p : List Stp} {t : GV} (e : gnodeIn (gob o) k0 p = some t) : HT w I cx.K t := by
  unfold gnodeIn at e
  cases hk : (gob o)[k0]? with
  | none => simp [hk] at e
  | some g => simp only [hk] at e; exact HT.node p g t (h.hol o g (List.mem_of_getElem? hk)) e

/-- References that died, in a ghost. -/
def gkill (ks : List Kl) : GV → GV
  | .agg cs => .agg (gkillL ks cs)
  | .tup cs => .tup (gkillL ks cs)
  | .fn f a b => .fn f (gkillL ks a) (gkillL ks b)
  | .ref (.sref o k0 p off n) v => if ks.any (·.hits o k0 p) then .dead v else .ref (.sref o k0 p off n) v
  | .ref (.pref o k0 p i k) v => if ks.any (·.hits o k0 p) then .dead v else .ref (.pref o k0 p i k) v
  | g => g
  where gkillL (ks : List Kl) : List GV → List GV
  | [] => []
  | e :: es => gkill ks e :: gkillL ks es

theorem gkillL_eq (ks : List Kl) (l : List GV) : gkill.gkillL ks l = l.map (gkill ks) := by
  induction l with
  | nil => rfl
  | cons a l ih => simp [gkill.gkillL, ih]

theorem killL_eq (ks : List Kl) (l : List AV) : kill.killL ks l = l.map (kill ks) := by
  induction l with
  | nil => rfl
  | cons a l ih => simp [kill.killL, ih]

theorem map_id_of {α : Type} {f : α → α} {l : List α} (h : ∀ c ∈ l, f c = c) : l.map f = l := by
  induction l with
  | nil => rfl
  | cons a l ih => simp [h a (by simp), ih (fun c hc => h c (by simp [hc]))]

theorem HT.gkill {w : World} {I : Nat → Prop} {K : Nat → Nat → Prop} {g : GV} (h : HT w I K g) (ks : List Kl) : AM.gkill ks g = g := by
  induction h with
  | agg cs _ _ ih => simp only [AM.gkill, gkillL_eq, map_id_of ih]
  | fn f a b _ _ _ _ iha ihb => simp only [AM.gkill, gkillL_eq, map_id_of iha, map_id_of ihb]
  | _ => simp [AM.gkill]

theorem HT.kill {w : World} {I : Nat → Prop} {K : Nat → Nat → Prop} {g : GV} (h : HT w I K g) (ks : List Kl) : AM.kill ks g.era = g.era := by
  induction h with
  | agg cs _ _ ih =>
    simp only [GV.era, AM.kill, killL_eq, eraL_eq, List.map_map]
    congr 1
    exact List.map_congr_left fun c hc => ih c hc
  | fn f a b _ _ _ _ iha ihb =>
    simp only [GV.era, AM.kill, killL_eq, eraL_eq, List.map_map]
    congr 1
    · exact List.map_congr_left fun c hc => iha c hc
    · exact List.map_congr_left fun c hc => ihb c hc
  | _ => simp [GV.era, AM.kill]

/-- A value behind an operation: what it was, but for references that died. -/
theorem HV.kill {w w' : World} {I I' : Nat → Prop} {K : Nat → Nat → Prop} {R R' : AV → Value → Prop} {g : GV} (ks : List Kl) (h : HV w I K R g) (ho : g.own = [])
    (hI : ∀ b, I b → I' b ∧ w'.heap[b]? = w.heap[b]?) (hr : ∀ a v, R a v → (∃ o k0 p off n, a = .sref o k0 p off n ∧ (ks.any (·.hits o k0 p) = false → R' a v)) ∨ (∃ o k0 p i k, a = .pref o k0 p i k ∧ (ks.any (·.hits o k0 p) = false → R' a v))) :
    (gkill ks g).era = AM.kill ks g.era ∧ (gkill ks g).cv = g.cv ∧ HV w' I' K R' (gkill ks g) ∧ (gkill ks g).own = [] ∧ (g.leafy = true → (gkill ks g).leafy = true) := by
  induction h with
  | tree g h =>
    rw [h.gkill, h.kill]
    exact ⟨rfl, rfl, .tree _ (h.mono hI (fun b o hb => by rw [ho] at hb; cases hb) (fun b hb => by rw [ho] at hb; cases hb)), ho, id⟩
  | ref a v h =>
    rcases hr a v h with ⟨o, k0, p, off, n, rfl, hk⟩ | ⟨o, k0, p, i, k, rfl, hk⟩ <;>
    · simp only [AM.gkill, GV.era, AM.kill]
      split
      · exact ⟨rfl, rfl, .tree _ (.dead v), rfl, fun _ => rfl⟩
      · rename_i hn
        exact ⟨rfl, rfl, .ref _ _ (hk (by simpa using hn)), rfl, fun _ => rfl⟩
  | agg cs _ hl ih =>
    simp only [GV.own, ownL_eq, List.flatMap_eq_nil_iff] at ho
    have ih' := fun c hc => ih c hc (ho c hc)
    refine ⟨?_, ?_, ?_, ?_, fun h => by simp [GV.leafy] at h⟩
    · simp only [AM.gkill, GV.era, AM.kill, gkillL_eq, killL_eq, eraL_eq, List.map_map]
      congr 1
      exact List.map_congr_left fun c hc => (ih' c hc).1
    · simp only [AM.gkill, GV.cv, gkillL_eq, cvL_eq, List.map_map]
      congr 2
      exact List.map_congr_left fun c hc => (ih' c hc).2.1
    · simp only [AM.gkill, gkillL_eq]
      refine .agg _ (fun c hc => ?_) (fun c hc => ?_)
      · obtain ⟨d, hd, rfl⟩ := List.mem_map.1 hc
        exact (ih' d hd).2.2.1
      · obtain ⟨d, hd, rfl⟩ := List.mem_map.1 hc
        exact (ih' d hd).2.2.2.2 (hl d hd)
    · simp only [AM.gkill, gkillL_eq, GV.own, ownL_eq, List.flatMap_eq_nil_iff]
      intro c hc
      obtain ⟨d, hd, rfl⟩ := List.mem_map.1 hc
      exact (ih' d hd).2.2.2.1
  | tup cs _ ih =>
    simp only [GV.own, ownL_eq, List.flatMap_eq_nil_iff] at ho
    have ih' := fun c hc => ih c hc (ho c hc)
    refine ⟨?_, ?_, ?_, ?_, fun h => by simp [GV.leafy] at h⟩
    · simp only [AM.gkill, GV.era, AM.kill, gkillL_eq, killL_eq, eraL_eq, List.map_map]
      congr 1
      exact List.map_congr_left fun c hc => (ih' c hc).1
    · simp only [AM.gkill, GV.cv, gkillL_eq, cvL_eq, List.map_map]
      congr 2
      exact List.map_congr_left fun c hc => (ih' c hc).2.1
    · simp only [AM.gkill, gkillL_eq]
      refine .tup _ (fun c hc => ?_)
      obtain ⟨d, hd, rfl⟩ := List.mem_map.1 hc
      exact (ih' d hd).2.2.1
    · simp only [AM.gkill, gkillL_eq, GV.own, ownL_eq, List.flatMap_eq_nil_iff]
      intro c hc
      obtain ⟨d, hd, rfl⟩ := List.mem_map.1 hc
      exact (ih' d hd).2.2.2.1
  | fn f x y _ _ ihx ihy =>
    simp only [GV.own, ownL_eq, List.append_eq_nil_iff, List.flatMap_eq_nil_iff] at ho
    have ix := fun c hc => ihx c hc (ho.1 c hc)
    have iy := fun c hc => ihy c hc (ho.2 c hc)
    refine ⟨?_, ?_, ?_, ?_, fun _ => rfl⟩
    · simp only [AM.gkill, GV.era, AM.kill, gkillL_eq, killL_eq, eraL_eq, List.map_map]
      congr 1
      · exact List.map_congr_left fun c hc => (ix c hc).1
      · exact List.map_congr_left fun c hc => (iy c hc).1
    · simp only [AM.gkill, GV.cv, gkillL_eq, cvL_eq, List.map_map]
      congr 2
      · exact List.map_congr_left fun c hc => (ix c hc).2.1
      · exact List.map_congr_left fun c hc => (iy c hc).2.1
    · simp only [AM.gkill, gkillL_eq]
      refine .fn _ _ _ (fun c hc => ?_) (fun c hc => ?_)
      · obtain ⟨d, hd, rfl⟩ := List.mem_map.1 hc
        exact (ix d hd).2.2.1
      · obtain ⟨d, hd, rfl⟩ := List.mem_map.1 hc
        exact (iy d hd).2.2.1
    · simp only [AM.gkill, gkillL_eq, GV.own, ownL_eq, List.append_eq_nil_iff, List.flatMap_eq_nil_iff]
      refine ⟨fun c hc => ?_, fun c hc => ?_⟩
      · obtain ⟨d, hd, rfl⟩ := List.mem_map.1 hc
        exact (ix d hd).2.2.2.1
      · obtain ⟨d, hd, rfl⟩ := List.mem_map.1 hc
        exact (iy d hd).2.2.2.1

end Go.AM

/- AM, part 6: what an operation does to the state; operands. -/
namespace Go.AM
open GV

theorem getA_setA {α : Type} (l : List (Nat × α)) (t : Nat) (v : α) (t' : Nat) : getA (setA l t v) t' = if t' = t then some v else getA l t' := by
  induction l with
  | nil =>
    simp only [setA, getA]
    by_cases h : t' = t
    · subst h; simp
    · have : (t == t') = false := by simp; omega
      simp [this, h]
  | cons x l ih =>
    obtain ⟨k, y⟩ := x
    simp only [setA]
    by_cases hk : k = t
    · subst hk
      simp only [beq_self_eq_true, if_true, getA]
      by_cases h : t' = k
      · subst h; simp
      · have : (k == t') = false := by simp; omega
        simp [this, h]
    · have h1 : (k == t) = false := by simpa using hk
      simp only [h1, Bool.false_eq_true, if_false, getA]
      by_cases h : k = t'
      · subst h; simp [hk]
      · have : (k == t') = false := by simpa using h
        simp [this, ih]

theorem obj_setAll (tm : List (Nat × AV)) (ob : List (Nat × List AV)) (c : Ch) (o : Nat) :
    St.obj { tm := tm, ob := setAll ob c } o = (c.get o).getD (St.obj { tm := tm, ob := ob } o) := by
  induction c with
  | nil => rfl
  | cons x c ih =>
    obtain ⟨k, l⟩ := x
    simp only [St.obj, setAll, getA_setA, Ch.get] at *
    by_cases h : o = k
    · subst h; simp
    · have : (k == o) = false := by simp; omega
      simp only [h, if_false, this, Bool.false_eq_true]
      exact ih

  mutual
theorem kill_nil : (v : AV) → kill [] v = v
  | .agg cs => by simp only [kill, killL_nil cs]
  | .tup cs => by simp only [kill, killL_nil cs]
  | .fn f a b => by simp only [kill, killL_nil a, killL_nil b]
  | .dead | .lit _ | .sl .. | .pt .. => by simp [kill]
  | .sref .. | .pref .. => by simp [kill]
theorem killL_nil : (l : List AV) → kill.killL [] l = l
  | [] => rfl
  | e :: es => by simp only [kill.killL, kill_nil e, killL_nil es]
end

theorem getA_killT (ks : List Kl) (l : List (Nat × AV)) (t : Nat) : getA (killT ks l) t = (getA l t).map (kill ks) := by
  unfold killT
  split
  · rename_i h
    have : ks = [] := by simpa using h
    subst this
    cases getA l t <;> simp [kill_nil]
  · induction l with
    | nil => rfl
    | cons x l ih =>
      obtain ⟨k, y⟩ := x
      simp only [List.map_cons, getA]
      split
      · rfl
      · exact ih

/-- What an operation has come to. -/
structure OpPost (cx : Cx) (gob : Nat → List GV) (I : Nat → Prop) (w : World) (E : Eff) (x : Value) (w' : World) (gob' : Nat → List GV) (I' : Nat → Prop) : Prop where
  era : ∀ o, (E.ch.get o).getD ((gob o).map GV.era) = (gob' o).map GV.era
  sto : Sto cx gob' I' w'
  imm : ∀ b, I b → I' b ∧ w'.heap[b]? = w.heap[b]?
  rfs : ∀ a v, RefOK gob a v → (∀ r ∈ refs a, E.kl.any (·.hits r.o r.k0 r.p) = false) → RefOK gob' a v
  res : Val cx gob' I' w' E.v x

theorem RefOK.shape {gob : Nat → List GV} {a : AV} {v : Value} (h : RefOK gob a v) : (∃ o k0 p off n, a = .sref o k0 p off n) ∨ (∃ o k0 p i k, a = .pref o k0 p i k) := by
  cases h
  · exact .inl ⟨_, _, _, _, _, rfl⟩
  · exact .inr ⟨_, _, _, _, _, rfl⟩
  · exact .inr ⟨_, _, _, _, _, rfl⟩

theorem Val.kill {cx : Cx} {gob gob' : Nat → List GV} {I I' : Nat → Prop} {w w' : World} {v : AV} {x : Value} (h : Val cx gob I w v x) (ks : List Kl)
    (hI : ∀ b, I b → I' b ∧ w'.heap[b]? = w.heap[b]?) (hr : ∀ a v, RefOK gob a v → (∀ r ∈ refs a, ks.any (·.hits r.o r.k0 r.p) = false) → RefOK gob' a v) :
    Val cx gob' I' w' (AM.kill ks v) x := by
  obtain ⟨g, rfl, rfl, hv, ho⟩ := h
  have := hv.kill (R' := RefOK gob') ks ho hI (fun a v h => by
    rcases h.shape with ⟨o, k0, p, off, n, rfl⟩ | ⟨o, k0, p, i, k, rfl⟩
    · exact .inl ⟨o, k0, p, off, n, rfl, fun hk => hr _ _ h (by simpa [refs] using hk)⟩
    · exact .inr ⟨o, k0, p, i, k, rfl, fun hk => hr _ _ h (by simpa [refs] using hk)⟩)
  exact ⟨AM.gkill ks g, this.1, this.2.1, this.2.2.1, this.2.2.2.1⟩

theorem Val.mono {cx : Cx} {gob gob' : Nat → List GV} {I I' : Nat → Prop} {w w' : World} {v : AV} {x : Value} (h : Val cx gob I w v x)
    (hI : ∀ b, I b → I' b ∧ w'.heap[b]? = w.heap[b]?) (hr : ∀ a v, RefOK gob a v → RefOK gob' a v) : Val cx gob' I' w' v x := by
  have := h.kill [] hI (fun a v h _ => hr a v h)
  rwa [kill_nil] at this

theorem put_tmps (a : Act) (d : Option Tmp) (x : Value) (t : Nat) (hd : ∀ t, d = some t → t < a.tmps.size) :
    (a.put d x).tmps[t]? = if d = some t then some x else a.tmps[t]? := by
  cases d with
  | none => simp [Act.put]
  | some d =>
    simp only [Act.put, Option.some.injEq]
    by_cases h : d = t
    · subst h; simp [hd d rfl]
    · simp only [h, if_false]; rw [Array.getElem?_setIfInBounds_ne h]

theorem Inv.eff {cx : Cx} {gob gob' : Nat → List GV} {I I' : Nat → Prop} {s : St} {a : Act} {w w' : World} {E : Eff} {x : Value} {d : Option Nat} (h : Inv cx gob I s a w)
    (hp : OpPost cx gob I w E x w' gob' I') (hd : ∀ t, d = some t → t < a.tmps.size) : Inv cx gob' I' (s.eff d E) (a.put d x) w' := by
  refine ⟨fun o => ?_, hp.sto, fun t v ht => ?_, ?_⟩
  · have : (s.eff d E).obj o = St.obj { tm := s.tm, ob := setAll s.ob E.ch } o := by
      unfold St.eff St.put
      cases d <;> rfl
    rw [this, obj_setAll, show St.obj { tm := s.tm, ob := s.ob } o = s.obj o from rfl, h.era]
    exact hp.era o
  · rw [put_tmps a d x t hd]
    cases d with
    | none =>
      simp only [St.eff, St.put, getA_killT] at ht
      cases hg : getA s.tm t with
      | none => simp [hg] at ht
      | some u =>
        simp only [hg, Option.map_some, Option.some.injEq] at ht
        obtain ⟨y, h1, h2⟩ := h.tms t u hg
        subst ht
        simp only [reduceCtorEq, if_false]
        exact ⟨y, h1, h2.kill E.kl hp.imm hp.rfs⟩
    | some d =>
      simp only [St.eff, St.put, getA_setA, getA_killT] at ht
      by_cases he : t = d
      · subst he
        simp only [if_true, Option.some.injEq] at ht
        subst ht
        simp only [if_true]
        exact ⟨x, rfl, hp.res⟩
      · simp only [he, if_false] at ht
        cases hg : getA s.tm t with
        | none => simp [hg] at ht
        | some u =>
          simp only [hg, Option.map_some, Option.some.injEq] at ht
          obtain ⟨y, h1, h2⟩ := h.tms t u hg
          subst ht
          have : ¬ (some d = some t) := by simp; omega
          simp only [this, if_false]
          exact ⟨y, h1, h2.kill E.kl hp.imm hp.rfs⟩
  · cases d <;> exact h.def0

/-- Nothing but a value. -/
theorem OpPost.pure {cx : Cx} {gob : Nat → List GV} {I : Nat → Prop} {w : World} {v : AV} {x : Value} (hs : Sto cx gob I w) (h : Val cx gob I w v x) :
    OpPost cx gob I w { v } x w gob I :=
  ⟨fun _ => rfl, hs, fun _ hb => ⟨hb, rfl⟩, fun _ _ h _ => h, h⟩

/-- Package-level variables that are read alone. -/
def GlobOK (G : Globs) (cx : Cx) : Prop := ∀ g e, getA G g = some e → ∃ t, t.era = e ∧ t.own = [] ∧ HT cx.w0 cx.I0 (fun _ _ => False) (.pt false t g 0)

theorem cvA_val {w : World} {I : Nat → Prop} {K : Nat → Nat → Prop} : ∀ (n : Nat) (v : Value) (y : AV), cvA n v = some y →
    ∃ g, g.era = y ∧ g.cv = v ∧ HT w I K g ∧ g.own = [] ∧ (leafyA y = true → g.leafy = true)
  | 0, _, _, h => by simp [cvA] at h
  | n + 1, v, y, h => by
    have list : ∀ (l : List Value) (ys : List AV), cvA.go n l = some ys → ∃ gs : List GV, gs.map GV.era = ys ∧ gs.map GV.cv = l ∧ (∀ g ∈ gs, HT w I K g) ∧ own.ownL gs = [] ∧
        (ys.all leafyA = true → ∀ g ∈ gs, g.leafy = true) := by
      intro l
      induction l with
      | nil => intro ys h; simp [cvA.go] at h; subst h; exact ⟨[], rfl, rfl, by simp, rfl, by simp⟩
      | cons a l ih =>
        intro ys h
        simp only [cvA.go] at h
        cases ha : cvA n a with
        | none => simp [ha] at h
        | some z =>
          simp only [ha, Option.bind_some] at h
          cases hl : cvA.go n l with
          | none => simp [hl] at h
          | some zs =>
            simp only [hl, Option.map_some, Option.some.injEq] at h
            subst h
            obtain ⟨g, h1, h2, h3, h4, h5⟩ := cvA_val n a z ha
            obtain ⟨gs, k1, k2, k3, k4, k5⟩ := ih zs hl
            refine ⟨g :: gs, by simp [h1, k1], by simp [h2, k2], ?_, by simp [GV.own.ownL, h4, k4], ?_⟩
            · intro x hx
              rcases List.mem_cons.1 hx with rfl | hx
              · exact h3
              · exact k3 x hx
            · intro hx x hx'
              simp only [List.all_cons, Bool.and_eq_true] at hx
              rcases List.mem_cons.1 hx' with rfl | hx'
              · exact h5 hx.1
              · exact k5 hx.2 x hx'
    unfold cvA at h
    split at h <;> try (cases h; done)
    · cases h; exact ⟨.lit _, rfl, rfl, .lit _ rfl, rfl, fun _ => rfl⟩
    · cases h; exact ⟨.lit _, rfl, rfl, .lit _ rfl, rfl, fun _ => rfl⟩
    · cases h; exact ⟨.lit _, rfl, rfl, .lit _ rfl, rfl, fun _ => rfl⟩
    · cases h; exact ⟨.lit _, rfl, rfl, .lit _ rfl, rfl, fun _ => rfl⟩
    · cases h; exact ⟨.lit _, rfl, rfl, .lit _ rfl, rfl, fun _ => rfl⟩
    · cases h; exact ⟨.lit _, rfl, rfl, .lit _ rfl, rfl, fun _ => rfl⟩
    · rename_i f x y
      split at h
      · rename_i hxy
        simp only [Bool.and_eq_true, List.isEmpty_iff, Array.toList_eq_nil_iff] at hxy
        obtain ⟨rfl, rfl⟩ := hxy
        cases h; exact ⟨.fn _ [] [], rfl, rfl, .fn _ _ _ (by simp) (by simp) rfl rfl, rfl, fun _ => rfl⟩
      · cases h
    · rename_i cs
      cases hl : cvA.go n cs.toList with
      | none => simp [hl] at h
      | some zs =>
        simp only [hl, Option.bind_some] at h
        split at h
        · rename_i hlf
          simp only [Option.some.injEq] at h
          subst h
          obtain ⟨gs, k1, k2, k3, k4, k5⟩ := list _ zs hl
          refine ⟨.agg gs, by simp [GV.era, eraL_eq, k1], by simp [GV.cv, cvL_eq, k2], .agg gs k3 (k5 hlf), by simp [GV.own, k4], fun h => by simp [leafyA] at h⟩
        · cases h

theorem HT.weakK {w : World} {I : Nat → Prop} {K K' : Nat → Nat → Prop} {g : GV} (h : HT w I K g) (ho : g.own = []) : HT w I K' g :=
  h.mono (fun _ hb => ⟨hb, rfl⟩) (fun b o hb => by rw [ho] at hb; cases hb) (fun _ _ => rfl)

/-- An operand's value. -/
theorem opr_val {G : Globs} {cx : Cx} {gob : Nat → List GV} {I : Nat → Prop} {s : St} {a : Act} {w : World} (hG : GlobOK G cx) (h : Inv cx gob I s a w) {x : Operand} {y : Opr} {v : AV}
    (hc : cOpr G x = some y) (hv : s.val y = some v) : Val cx gob I w v (a.eval x) := by
  cases x with
  | tmp t =>
    simp only [cOpr, Option.some.injEq] at hc
    subst hc
    obtain ⟨u, h1, h2⟩ := h.tms t v hv
    have : a.eval (.tmp t) = u := by simp [Act.eval, h1]
    rw [this]; exact h2
  | const c =>
    simp only [cOpr] at hc
    cases hx : cvA 3 c with
    | none => simp [hx] at hc
    | some z =>
      simp only [hx, Option.map_some, Option.some.injEq] at hc
      subst hc
      simp only [St.val, Option.some.injEq] at hv
      subst hv
      obtain ⟨g, h1, h2, h3, h4, _⟩ := cvA_val (w := w) (I := I) (K := cx.K) 3 c z hx
      exact ⟨g, h1, h2, .tree g h3, h4⟩
  | global g =>
    simp only [cOpr] at hc
    cases hx : getA G g with
    | none => simp [hx] at hc
    | some e =>
      simp only [hx, Option.map_some, Option.some.injEq] at hc
      subst hc
      simp only [St.val, Option.some.injEq] at hv
      subst hv
      obtain ⟨t, h1, h2, h3⟩ := hG g e hx
      have ho : (GV.pt false t g 0).own = [] := by simp [GV.own, h2]
      refine ⟨.pt false t g 0, by simp [GV.era, h1], rfl, .tree _ ?_, ho⟩
      exact (h3.weakK (K' := cx.K) ho).mono (fun b hb => ⟨h.sto.I0I b hb, h.sto.I0h b hb⟩) (fun b o hb => by rw [ho] at hb; cases hb) (fun b hb => by rw [ho] at hb; cases hb)
  | func f =>
    simp only [cOpr, Option.some.injEq] at hc
    subst hc
    simp only [St.val, Option.some.injEq] at hv
    subst hv
    exact ⟨.fn (.func f) [] [], rfl, rfl, .tree _ (.fn _ _ _ (by simp) (by simp) rfl rfl), rfl⟩

/-- Values that the model's operation is asked of. -/
inductive Vals (cx : Cx) (gob : Nat → List GV) (I : Nat → Prop) (w : World) : List AV → List Value → Prop where
  | nil : Vals cx gob I w [] []
  | cons (v : AV) (x : Value) (vs : List AV) (xs : List Value) : Val cx gob I w v x → Vals cx gob I w vs xs → Vals cx gob I w (v :: vs) (x :: xs)

theorem oprs_vals {G : Globs} {cx : Cx} {gob : Nat → List GV} {I : Nat → Prop} {s : St} {a : Act} {w : World} (hG : GlobOK G cx) (h : Inv cx gob I s a w) :
    ∀ (xs : List Operand) (ys : List Opr) (vs : List AV), cOprs G xs = some ys → vals s.val ys = some vs → Vals cx gob I w vs (xs.map a.eval)
  | [], ys, vs, hc, hv => by
    simp only [cOprs, Option.some.injEq] at hc; subst hc
    simp only [vals, Option.some.injEq] at hv; subst hv
    exact .nil
  | x :: xs, ys, vs, hc, hv => by
    simp only [cOprs] at hc
    cases hx : cOpr G x with
    | none => simp [hx] at hc
    | some y =>
      simp only [hx, Option.bind_some] at hc
      cases hxs : cOprs G xs with
      | none => simp [hxs] at hc
      | some zs =>
        simp only [hxs, Option.map_some, Option.some.injEq] at hc
        subst hc
        simp only [vals] at hv
        cases h1 : s.val y with
        | none => simp [h1] at hv
        | some v =>
          simp only [h1, Option.bind_some] at hv
          cases h2 : vals s.val zs with
          | none => simp [h2] at hv
          | some us =>
            simp only [h2, Option.map_some, Option.some.injEq] at hv
            subst hv
            exact .cons _ _ _ _ (opr_val hG h hx h1) (oprs_vals hG h xs zs us hxs h2)

end Go.AM

/- AM, part 7: operations that only tell a value. -/
namespace Go.AM
open GV

variable {P : Program} {cx : Cx} {gob : Nat → List GV} {I : Nat → Prop} {w : World}

theorem RefOK.not {a : AV} {v : Value} (h : RefOK gob a v) : (∀ x, a ≠ .lit x) ∧ (∀ x, a ≠ .agg x) ∧ (∀ x, a ≠ .tup x) ∧ (∀ f x y, a ≠ .fn f x y) ∧ (∀ m fl sz es, a ≠ .sl m fl sz es) ∧ (∀ o e, a ≠ .pt o e) ∧ a ≠ .dead := by
  cases h <;> simp

theorem Val.lit_inv {x v : Value} (h : Val cx gob I w (.lit x) v) : v = x ∧ ground x = true := by
  obtain ⟨g, h1, rfl, h3, _⟩ := h
  cases g <;> simp [GV.era] at h1
  · subst h1
    cases h3 with
    | tree _ h => cases h with | lit _ h => exact ⟨rfl, h⟩
  · subst h1
    cases h3 with
    | tree _ h => cases h
    | ref _ _ h => exact absurd rfl (h.not.1 x)

theorem Val.lit {x : Value} (h : ground x = true) : Val cx gob I w (.lit x) x := ⟨.lit x, rfl, rfl, .tree _ (.lit _ h), rfl⟩

theorem Val.dead (x : Value) : Val cx gob I w .dead x := ⟨.dead x, rfl, rfl, .tree _ (.dead _), rfl⟩

theorem vals_of (gs : List GV) (h : ∀ g ∈ gs, HV w I cx.K (RefOK gob) g) (ho : own.ownL gs = []) : Vals cx gob I w (gs.map GV.era) (gs.map GV.cv) := by
  induction gs with
  | nil => exact .nil
  | cons g gs ih =>
    simp only [GV.own.ownL, List.append_eq_nil_iff] at ho
    exact .cons _ _ _ _ ⟨g, rfl, rfl, h g (by simp), ho.1⟩ (ih (fun c hc => h c (by simp [hc])) ho.2)

theorem Vals.ghosts {vs : List AV} {xs : List Value} (h : Vals cx gob I w vs xs) : ∃ gs : List GV, gs.map GV.era = vs ∧ gs.map GV.cv = xs ∧ (∀ g ∈ gs, HV w I cx.K (RefOK gob) g) ∧ own.ownL gs = [] := by
  induction h with
  | nil => exact ⟨[], rfl, rfl, by simp, rfl⟩
  | cons v x vs xs hv _ ih =>
    obtain ⟨g, rfl, rfl, h1, h2⟩ := hv
    obtain ⟨gs, rfl, rfl, h3, h4⟩ := ih
    refine ⟨g :: gs, rfl, rfl, ?_, by simp [GV.own.ownL, h2, h4]⟩
    intro c hc
    rcases List.mem_cons.1 hc with rfl | hc
    · exact h1
    · exact h3 c hc

theorem Vals.length {vs : List AV} {xs : List Value} (h : Vals cx gob I w vs xs) : vs.length = xs.length := by
  induction h with
  | nil => rfl
  | cons _ _ _ _ _ _ ih => simp [ih]

theorem Vals.get {vs : List AV} {xs : List Value} (h : Vals cx gob I w vs xs) : ∀ {i : Nat} {v : AV}, vs[i]? = some v → ∃ x, xs[i]? = some x ∧ Val cx gob I w v x := by
  induction h with
  | nil => intro i v h; simp at h
  | cons v x vs xs hv _ ih =>
    intro i u hu
    cases i with
    | zero => simp at hu; subst hu; exact ⟨x, rfl, hv⟩
    | succ i => simpa using ih (by simpa using hu)

theorem Vals.append {vs us : List AV} {xs ys : List Value} (h : Vals cx gob I w vs xs) (k : Vals cx gob I w us ys) : Vals cx gob I w (vs ++ us) (xs ++ ys) := by
  induction h with
  | nil => exact k
  | cons v x vs xs hv _ ih => exact .cons _ _ _ _ hv ih

theorem Vals.drop {vs : List AV} {xs : List Value} (h : Vals cx gob I w vs xs) (n : Nat) : Vals cx gob I w (vs.drop n) (xs.drop n) := by
  induction h generalizing n with
  | nil => simp; exact .nil
  | cons v x vs xs hv hr ih => cases n with
    | zero => exact .cons _ _ _ _ hv hr
    | succ n => exact ih n

theorem Vals.take {vs : List AV} {xs : List Value} (h : Vals cx gob I w vs xs) (n : Nat) : Vals cx gob I w (vs.take n) (xs.take n) := by
  induction h generalizing n with
  | nil => simp; exact .nil
  | cons v x vs xs hv hr ih => cases n with
    | zero => simp; exact .nil
    | succ n => exact .cons _ _ _ _ hv (ih n)

theorem Val.agg_inv {cs : List AV} {v : Value} (h : Val cx gob I w (.agg cs) v) : ∃ xs, v = .agg xs.toArray ∧ Vals cx gob I w cs xs ∧ (∀ c ∈ cs, leafyA c = true) := by
  obtain ⟨g, h1, rfl, h3, ho⟩ := h
  have lf : ∀ (g : GV), HV w I cx.K (RefOK gob) g → g.leafy = true → leafyA g.era = true := by
    intro g hg hl
    cases g <;> simp [GV.leafy, GV.era, leafyA] at hl ⊢
    rename_i a v
    cases hg with
    | tree _ h => cases h
    | ref _ _ h => cases h <;> simp
  cases g <;> simp [GV.era] at h1
  · rename_i gs
    subst h1
    simp only [GV.own] at ho
    rw [eraL_eq]
    refine ⟨gs.map GV.cv, by simp [GV.cv, cvL_eq], ?_, ?_⟩
    · refine vals_of gs (fun g hg => ?_) ho
      cases h3 with
      | tree _ h => cases h with | agg _ h _ => exact .tree _ (h g hg)
      | agg _ h _ => exact h g hg
    · intro c hc
      obtain ⟨d, hd, rfl⟩ := List.mem_map.1 hc
      cases h3 with
      | tree _ h => cases h with | agg _ h hl => exact lf d (.tree _ (h d hd)) (hl d hd)
      | agg _ h hl => exact lf d (h d hd) (hl d hd)
  · subst h1
    cases h3 with
    | tree _ h => cases h
    | ref _ _ h => exact absurd rfl (h.not.2.1 cs)

theorem Val.tup_inv {cs : List AV} {v : Value} (h : Val cx gob I w (.tup cs) v) : ∃ xs, v = .tuple xs.toArray ∧ Vals cx gob I w cs xs := by
  obtain ⟨g, h1, rfl, h3, ho⟩ := h
  cases g <;> simp [GV.era] at h1
  · rename_i gs
    subst h1
    simp only [GV.own] at ho
    rw [eraL_eq]
    refine ⟨gs.map GV.cv, by simp [GV.cv, cvL_eq], vals_of gs (fun g hg => ?_) ho⟩
    cases h3 with
    | tree _ h => cases h
    | tup _ h => exact h g hg
  · subst h1
    cases h3 with
    | tree _ h => cases h
    | ref _ _ h => exact absurd rfl (h.not.2.2.1 cs)

theorem Val.fn_inv {f : Fn} {a b : List AV} {v : Value} (h : Val cx gob I w (.fn f a b) v) : ∃ xs ys, v = .func f xs.toArray ys.toArray ∧ Vals cx gob I w a xs ∧ Vals cx gob I w b ys := by
  obtain ⟨g, h1, rfl, h3, ho⟩ := h
  cases g <;> simp [GV.era] at h1
  · rename_i f' xs ys
    obtain ⟨rfl, rfl, rfl⟩ := h1
    simp only [GV.own, List.append_eq_nil_iff] at ho
    rw [eraL_eq, eraL_eq]
    refine ⟨xs.map GV.cv, ys.map GV.cv, by simp [GV.cv, cvL_eq], vals_of xs (fun g hg => ?_) ho.1, vals_of ys (fun g hg => ?_) ho.2⟩
    · cases h3 with
      | tree _ h => cases h with | fn _ _ _ h _ _ _ => exact .tree _ (h g hg)
      | fn _ _ _ h _ => exact h g hg
    · cases h3 with
      | tree _ h => cases h with | fn _ _ _ _ h _ _ => exact .tree _ (h g hg)
      | fn _ _ _ _ h => exact h g hg
  · subst h1
    cases h3 with
    | tree _ h => cases h
    | ref _ _ h => exact absurd rfl (h.not.2.2.2.1 f a b)

theorem Vals.agg {vs : List AV} {xs : List Value} (h : Vals cx gob I w vs xs) (hl : ∀ v ∈ vs, leafyA v = true) : Val cx gob I w (.agg vs) (.agg xs.toArray) := by
  obtain ⟨gs, rfl, rfl, h1, h2⟩ := h.ghosts
  refine ⟨.agg gs, by simp [GV.era, eraL_eq], by simp [GV.cv, cvL_eq], .agg gs h1 (fun c hc => ?_), by simp [GV.own, h2]⟩
  have := hl c.era (List.mem_map_of_mem hc)
  cases c <;> simp [GV.era, leafyA, GV.leafy] at this ⊢

theorem Vals.tup {vs : List AV} {xs : List Value} (h : Vals cx gob I w vs xs) : Val cx gob I w (.tup vs) (.tuple xs.toArray) := by
  obtain ⟨gs, rfl, rfl, h1, h2⟩ := h.ghosts
  exact ⟨.tup gs, by simp [GV.era, eraL_eq], by simp [GV.cv, cvL_eq], .tup gs h1, by simp [GV.own, h2]⟩

theorem Vals.fn {f : Fn} {vs us : List AV} {xs ys : List Value} (h : Vals cx gob I w vs xs) (k : Vals cx gob I w us ys) : Val cx gob I w (.fn f vs us) (.func f xs.toArray ys.toArray) := by
  obtain ⟨gs, rfl, rfl, h1, h2⟩ := h.ghosts
  obtain ⟨ks, rfl, rfl, k1, k2⟩ := k.ghosts
  exact ⟨.fn f gs ks, by simp [GV.era, eraL_eq], by simp [GV.cv, cvL_eq], .fn f gs ks h1 k1, by simp [GV.own, h2, k2]⟩

theorem Val.ref_inv {a : AV} {v : Value} (h : Val cx gob I w a v) (ha : (∃ o k0 p off n, a = .sref o k0 p off n) ∨ (∃ o k0 p i k, a = .pref o k0 p i k)) : RefOK gob a v := by
  obtain ⟨g, h1, rfl, h3, ho⟩ := h
  cases g with
  | ref b x =>
    simp only [GV.era] at h1
    subst h1
    cases h3 with
    | tree _ h => cases h
    | ref _ _ h => exact h
  | _ => rcases ha with ⟨o, k0, p, off, n, rfl⟩ | ⟨o, k0, p, i, k, rfl⟩ <;> simp [GV.era] at h1

theorem Val.ref {a : AV} {v : Value} (h : RefOK gob a v) : Val cx gob I w a v := ⟨.ref a v, rfl, rfl, .ref _ _ h, rfl⟩

theorem Val.tree {g : GV} (h : HT w I cx.K g) (ho : g.own = []) : Val cx gob I w g.era g.cv := ⟨g, rfl, rfl, .tree _ h, ho⟩

/-- A slice that is never written again. -/
theorem Val.sl_inv {m : Nat} {fl : Bool} {sz : Nat} {es : List AV} {v : Value} (h : Val cx gob I w (.sl m fl sz es) v) :
    (es = [] ∧ v = .slice none 0 0 ∧ ownM m = false) ∨
    ∃ gs b off cap, gs.map GV.era = es ∧ v = .slice (some ⟨b, off, none⟩) gs.length cap ∧ HT w I cx.K (.sl m fl sz gs b off cap) ∧ (GV.sl m fl sz gs b off cap).own = [] := by
  obtain ⟨g, h1, rfl, h3, ho⟩ := h
  cases g <;> simp [GV.era] at h1
  · rename_i gs b off cap
    obtain ⟨rfl, rfl, rfl, rfl⟩ := h1
    right
    refine ⟨gs, b, off, cap, by rw [eraL_eq], by simp [GV.cv, lenL_eq], ?_, ho⟩
    cases h3 with
    | tree _ h => exact h
  · obtain ⟨rfl, rfl, rfl, rfl⟩ := h1
    left
    cases h3 with
    | tree _ h => cases h with | nl _ _ _ h => exact ⟨rfl, rfl, h⟩
  · subst h1
    cases h3 with
    | tree _ h => cases h
    | ref _ _ h => exact absurd rfl (h.not.2.2.2.2.1 m fl sz es)

theorem Val.pt_inv {o : Bool} {e : AV} {v : Value} (h : Val cx gob I w (.pt o e) v) :
    ∃ g b off, g.era = e ∧ v = .pointer (some ⟨b, off, none⟩) ∧ HT w I cx.K (.pt o g b off) ∧ (GV.pt o g b off).own = [] := by
  obtain ⟨g, h1, rfl, h3, ho⟩ := h
  cases g <;> simp [GV.era] at h1
  · rename_i e' b off
    obtain ⟨rfl, rfl⟩ := h1
    refine ⟨e', b, off, rfl, rfl, ?_, ho⟩
    cases h3 with
    | tree _ h => exact h
  · subst h1
    cases h3 with
    | tree _ h => cases h
    | ref _ _ h => exact absurd rfl (h.not.2.2.2.2.2.1 o e)

/-! ### Operations on numbers -/

theorem ground_ibin {o : BinOp} {k k' : IntKind} {a b : Int} {v : Value} (h : ibin o k a k' b = some v) : ground v = true := by
  unfold ibin at h
  cases o <;> simp only at h <;> (try split at h) <;> (try split at h) <;> first | (cases h; done) | (simp only [Option.some.injEq] at h; subst h; rfl)

theorem run_binOp_int (op : BinOp) (t : TypeId) (k k' : IntKind) (a b : Int) (v : Value) (w : World) (h : ibin op k a k' b = some v) :
    (binOp op t (.int k a) (.int k' b)).run P w = .ok v w := by
  unfold ibin at h
  cases op <;> simp only at h <;> (try split at h) <;> (try (cases h; done)) <;> (try split at h) <;> (try (cases h; done)) <;> simp only [Option.some.injEq] at h <;> subst h <;>
    simp_all [binOp, Op.intArith, Op.intDiv, Op.intBits, Op.intCmp, Op.shift] <;> (intro h; omega)

theorem run_eqGuard (op : BinOp) (t : TypeId) (x y : Operand) (a b : Value) (w : World) (h : ¬ (a = .nilIface ∧ b = .nilIface)) (h' : ¬ ((∃ c, a = .agg c) ∧ (∃ c, b = .agg c))) :
    (eqGuard op t x y a b).run P w = .ok () w := by
  unfold eqGuard
  cases op <;> simp <;> (cases a <;> simp_all) <;> (cases b <;> simp_all)

end Go.AM

/- AM, part 8: each operation that only tells a value, as the model runs it. -/
namespace Go.AM
open GV

variable {P : Program} {G : Globs} {cx : Cx} {gob : Nat → List GV} {I : Nat → Prop} {s : St} {a : Act} {w : World}

/-- The model's operation tells a value, and leaves the world as it is. -/
def Tells (P : Program) (cx : Cx) (gob : Nat → List GV) (I : Nat → Prop) (w : World) (ρ : Operand → Value) (o : Oper) (v : AV) : Prop :=
  ∃ x, (execOp ρ o).run P w = .ok (.value x) w ∧ Val cx gob I w v x

theorem tiOf_inv {t : TypeId} {i : Ti} (h : tiOf P t = some i) : ∃ d f, P.underlying t = some d ∧ P.info? t = some f ∧ i = ⟨isAggD d, f.size, f.bytes, !f.hasPointers⟩ := by
  unfold tiOf at h
  split at h
  · rename_i d f h1 h2
    simp only [Option.some.injEq] at h
    exact ⟨d, f, h1, h2, h.symm⟩
  · cases h

theorem run_und {t : TypeId} {d : TypeDesc} (h : P.underlying t = some d) (w : World) : (underlying t).run P w = .ok d w := by
  simp [underlying, h]

theorem run_info {t : TypeId} {i : TypeInfo} (h : P.info? t = some i) (w : World) : (typeInfo t).run P w = .ok i w := by
  simp [typeInfo, h]

theorem run_size {t : TypeId} {i : TypeInfo} (h : P.info? t = some i) (w : World) : (sizeOf t).run P w = .ok i.size w := by
  simp [sizeOf, run_info h]

theorem run_agg {t : TypeId} {d : TypeDesc} (h : P.underlying t = some d) (w : World) : (isAgg t).run P w = .ok (isAggD d) w := by
  unfold isAgg
  rw [Sem.run_bind, run_und h]
  simp only [Result.andThen_ok]
  cases d <;> rfl

theorem Lk.run_bind {α β : Type} (x : Lk α) (f : α → Lk β) (ob : Nat → List AV) (r : List Nat) :
    (x.bind f).run ob r = (x.run ob r).bind fun y => (f y.1).run ob y.2 := by
  induction x generalizing r with
  | done a => rfl
  | fail => rfl
  | ask o g ih => simp only [Lk.bind, Lk.run]; exact ih _ _

theorem Lk.run_of {α : Type} (x : Option α) (ob : Nat → List AV) (r : List Nat) : (Lk.of x).run ob r = x.map (·, r) := by
  cases x <;> rfl

theorem bind_some_inv {α β : Type} {x : Option α} {f : α → Option β} {y : β} (h : x.bind f = some y) : ∃ a, x = some a ∧ f a = some y := by
  cases x with
  | none => simp at h
  | some a => exact ⟨a, rfl, by simpa using h⟩

theorem map_some_inv {α β : Type} {x : Option α} {f : α → β} {y : β} (h : x.map f = some y) : ∃ a, x = some a ∧ f a = y := by
  cases x with
  | none => simp at h
  | some a => exact ⟨a, rfl, by simpa using h⟩

theorem get_drop_take {α : Type} {l : List α} {k N j : Nat} {x : α} (h : ((l.drop k).take N)[j]? = some x) : l[k + j]? = some x := by
  rw [List.getElem?_take] at h
  by_cases hj : j < N
  · rw [if_pos hj, List.getElem?_drop] at h; exact h
  · rw [if_neg hj] at h; cases h

/-- A part of a ghost's element. -/
def gpart (ag : Bool) (n off : Nat) (e : GV) : Option GV :=
  let l := ((GV.leafs e).drop off).take n
  if l.length == n then (if ag then some (.agg l) else match l with | [x] => some x | _ => none) else none

theorem part_era {K : Nat → Nat → Prop} {e : GV} (h : HT w I K e) (ag : Bool) (n off : Nat) : part ag n off e.era = (gpart ag n off e).map GV.era := by
  unfold part gpart
  simp only [h.leafs_era, ← List.map_drop, ← List.map_take, List.length_map]
  split
  · split
    · simp [GV.era, eraL_eq]
    · generalize ((GV.leafs e).drop off).take n = l
      match l with
      | [] => rfl
      | [x] => rfl
      | x :: y :: z => rfl
  · rfl

theorem gpart_leafs {ag : Bool} {n off : Nat} {e x : GV} (h : gpart ag n off e = some x) (hT : ag = false → ∀ l ∈ GV.leafs e, l.leafy = true) :
    GV.leafs x = ((GV.leafs e).drop off).take n ∧ (GV.leafs x).length = n ∧ (ag = false → n = 1 ∧ x.leafy = true) := by
  unfold gpart at h
  simp only at h
  split at h
  · rename_i hl
    simp only [beq_iff_eq] at hl
    split at h
    · rename_i ha
      simp only [Option.some.injEq] at h; subst h
      exact ⟨rfl, hl, fun h => by simp [ha] at h⟩
    · rename_i ha
      generalize hz : ((GV.leafs e).drop off).take n = l at h hl
      match l with
      | [] => cases h
      | [y] =>
        simp only [Option.some.injEq] at h; subst h
        have hy : y.leafy = true := hT (by simpa using ha) y (List.mem_of_mem_drop (List.mem_of_mem_take (by rw [hz]; simp)))
        have : GV.leafs y = [y] := by cases y <;> simp [GV.leafy] at hy <;> rfl
        rw [this]
        exact ⟨rfl, hl, fun _ => ⟨by simpa using hl.symm, hy⟩⟩
      | y :: z :: r => cases h
  · cases h

theorem HT.gpart {K : Nat → Nat → Prop} {e x : GV} (h : HT w I K e) {ag : Bool} {n off : Nat} (hp : AM.gpart ag n off e = some x) : HT w I K x ∧ (e.own = [] → x.own = []) := by
  have hm : ∀ l ∈ ((GV.leafs e).drop off).take n, l ∈ GV.leafs e := fun l hl => List.mem_of_mem_drop (List.mem_of_mem_take hl)
  have hown : ∀ l ∈ GV.leafs e, e.own = [] → l.own = [] := by
    intro l hl ho
    cases h with
    | agg cs _ _ => simp only [GV.own, ownL_eq, List.flatMap_eq_nil_iff] at ho; exact ho l hl
    | _ => simp [GV.leafs] at hl; subst hl; exact ho
  unfold AM.gpart at hp
  simp only at hp
  split at hp
  · split at hp
    · simp only [Option.some.injEq] at hp; subst hp
      refine ⟨.agg _ (fun c hc => h.leaf (hm c hc)) (fun c hc => h.leafy (hm c hc)), fun ho => ?_⟩
      simp only [GV.own, ownL_eq, List.flatMap_eq_nil_iff]
      exact fun c hc => hown c (hm c hc) ho
    · split at hp
      · rename_i y hy
        simp only [Option.some.injEq] at hp; subst hp
        have : y ∈ GV.leafs e := hm y (by rw [hy]; simp)
        exact ⟨h.leaf this, hown y this⟩
      · cases hp
  · cases hp

/-- A row of leaves in memory is read. -/
theorem run_loadVar {t : TypeId} {d : TypeDesc} {f : TypeInfo} (hd : P.underlying t = some d) (hf : P.info? t = some f) {b off : Nat} {l : List GV}
    (hn : l.length = if isAggD d then f.size else 1) (hc : ∀ k g, l[k]? = some g → w.cell? ⟨b, off + k, none⟩ = some g.cv) :
    ∃ x, (loadVar t ⟨b, off, none⟩).run P w = .ok x w ∧ x = if isAggD d then .agg (l.map GV.cv).toArray else ((l.head?).map GV.cv).getD undef := by
  unfold loadVar
  rw [Sem.run_bind, run_agg hd]
  simp only [Result.andThen_ok]
  cases ha : isAggD d with
  | true =>
    simp only [ha, if_true] at hn ⊢
    refine ⟨_, ?_, rfl⟩
    rw [Sem.run_bind, run_size hf]
    simp only [Result.andThen_ok]
    rw [Sem.run_bind, run_loadCells (vs := l.map GV.cv) (by simp [hn]) (fun j v hj => ?_)]
    · simp
    · simp only [List.getElem?_map, Option.map_eq_some_iff] at hj
      obtain ⟨g, hg, rfl⟩ := hj
      exact hc j g hg
  | false =>
    simp only [ha, Bool.false_eq_true, if_false] at hn ⊢
    match l, hn with
    | [g], _ =>
      have := hc 0 g rfl
      simp only [Nat.add_zero] at this
      exact ⟨_, run_load_cell this, rfl⟩

theorem gnodeAt_append {t : GV} {p : List Stp} {q : List Stp} {n : GV} (h : gnodeAt t p = some n) : gnodeAt t (p ++ q) = gnodeAt n q := by
  induction p generalizing t with
  | nil => simp [gnodeAt] at h; subst h; rfl
  | cons x p ih =>
    obtain ⟨i, k, z⟩ := x
    cases t <;> simp only [gnodeAt, List.cons_append] at h ⊢ <;> try (cases h; done)
    · split at h
      · split at h
        · exact ih h
        · cases h
      · cases h
    · split at h
      · exact ih h
      · cases h

theorem gnodeIn_append {ls : List GV} {k0 : Nat} {p q : List Stp} {n : GV} (h : gnodeIn ls k0 p = some n) : gnodeIn ls k0 (p ++ q) = gnodeAt n q := by
  unfold gnodeIn at *
  split at h
  · exact gnodeAt_append h
  · cases h

/-- A leaf that is read out of the store. -/
theorem lift_val (hs : Sto cx gob I w) {o k0 : Nat} {p : List Stp} {st : Stp} {g : GV} (hg : gnodeIn (gob o) k0 (p ++ [st]) = some g) (hl : g.leafy = true) :
    Val cx gob I w (lift o k0 p st g.era) g.cv ∧ leafyA (lift o k0 p st g.era) = true := by
  have hT := hs.node hg
  cases g with
  | dead v => exact ⟨Val.dead v, rfl⟩
  | lit v => cases hT with | lit _ h => exact ⟨Val.lit h, rfl⟩
  | agg cs => simp [GV.leafy] at hl
  | tup cs => simp [GV.leafy] at hl
  | fn f x y => cases hT with | fn _ _ _ h1 h2 h3 h4 => exact ⟨Val.tree (.fn f x y h1 h2 h3 h4) (by simp [GV.own, h3, h4]), rfl⟩
  | sl m fl sz es b off cap =>
    simp only [GV.era, lift]
    cases ho : (m == 1 || m == 3) with
    | true =>
      simp only [if_true, leafyA, and_true]
      have hle : es.length ≤ cap := by cases hT; assumption
      have := RefOK.s (gob := gob) o k0 (p ++ [st]) 0 es.length m fl sz es b off cap cap hg (by omega) hle (by omega)
      simp only [Nat.zero_mul, Nat.add_zero] at this
      have e : (GV.sl m fl sz es b off cap).cv = .slice (some ⟨b, off, none⟩) es.length cap := by simp [GV.cv, lenL_eq]
      rw [e, eraL_eq, List.length_map]
      exact Val.ref this
    | false =>
      simp only [Bool.false_eq_true, if_false, leafyA, and_true]
      have h2 := hT
      cases hT with
      | sl _ _ _ _ _ _ _ h1 _ _ h4 =>
        exact Val.tree h2 (by simp only [GV.own, ownM, ho, Bool.false_eq_true, if_false]; exact (h4 (by simpa [ownM] using ho)).2)
  | nl m fl sz =>
    cases hT with
    | nl _ _ _ h =>
      have : (m == 1 || m == 3) = false := by simpa [ownM] using h
      simp only [GV.era, lift, this, Bool.false_eq_true, if_false, leafyA, and_true]
      exact Val.tree (g := .nl m fl sz) (.nl m fl sz h) rfl
  | pt ow e b off =>
    cases ow with
    | true =>
      simp only [GV.era, lift, leafyA, and_true]
      have := RefOK.pp (gob := gob) o k0 (p ++ [st]) 0 true e b off hg
      simp only [Nat.add_zero] at this
      exact Val.ref this
    | false =>
      simp only [GV.era, lift, leafyA, and_true]
      have h2 := hT
      cases hT with
      | pt _ _ _ _ h1 h3 h4 h5 => exact Val.tree h2 (by simp only [GV.own, Bool.false_eq_true, if_false]; exact (h4 rfl).2)
  | ref x v => cases hT

theorem lifts_vals (hs : Sto cx gob I w) {o k0 : Nat} {p : List Stp} {i sz : Nat} : ∀ (l : List GV) (k : Nat), (∀ j g, l[j]? = some g → gnodeIn (gob o) k0 (p ++ [(i, k + j, sz)]) = some g ∧ g.leafy = true) →
    Vals cx gob I w (lifts o k0 p i sz k (l.map GV.era)) (l.map GV.cv) ∧ ∀ v ∈ lifts o k0 p i sz k (l.map GV.era), leafyA v = true
  | [], k, _ => ⟨.nil, by simp [lifts]⟩
  | g :: l, k, h => by
    have h0 := h 0 g rfl
    simp only [Nat.add_zero] at h0
    have hv := lift_val hs h0.1 h0.2
    have ih := lifts_vals hs l (k + 1) (fun j g' hj => by have := h (j + 1) g' (by simpa using hj); rw [show k + 1 + j = k + (j + 1) by omega]; exact this)
    refine ⟨.cons _ _ _ _ hv.1 ih.1, ?_⟩
    intro v hm
    simp only [List.map_cons, lifts, List.mem_cons] at hm
    rcases hm with rfl | hm
    · exact hv.2
    · exact ih.2 v hm

/-- What a pointer into the store leads to: the element's leaves, where they stand. -/
theorem pref_leafs (h : Inv cx gob I s a w) {o k0 : Nat} {p : List Stp} {i k : Nat} {x : Value} (hx : RefOK gob (.pref o k0 p i k) x) {e : AV} {sz : Nat}
    (he : (nodeIn (s.obj o) k0 p).bind (elemOf i) = some (e, sz)) :
    ∃ (g : GV) (b off : Nat), g.era = e ∧ x = .pointer (some ⟨b, off + k, none⟩) ∧ HT w I cx.K g ∧ (∀ j l, (GV.leafs g)[j]? = some l → w.cell? ⟨b, off + j, none⟩ = some l.cv) ∧
      (∀ j l, (GV.leafs g)[j]? = some l → gnodeIn (gob o) k0 (p ++ [(i, j, sz)]) = some l) := by
  rw [h.era o, nodeIn_era (h.sto.hol o)] at he
  cases hx with
  | ps _ _ _ _ _ m fl sz' es b off0 cap0 hn hi =>
    simp only [hn, Option.map_some, Option.bind_some, GV.era, elemOf, eraL_eq, List.getElem?_map, Option.map_map] at he
    obtain ⟨g, hg, he⟩ := map_some_inv he
    simp only [Function.comp, Prod.mk.injEq] at he
    obtain ⟨rfl, rfl⟩ := he
    have hT := h.sto.node hn
    refine ⟨g, b, off0 + i * sz', rfl, rfl, hT.elems g (List.mem_of_getElem? hg), fun j l hl => ?_, fun j l hl => ?_⟩
    · cases hT with
      | sl _ _ _ _ _ _ _ _ hc => exact (hc i g hg).2 j l hl
    · rw [gnodeIn_append hn]
      simp only [gnodeAt, hg, gleafAt, hl]
  | pp _ _ _ _ ow e' b off0 hn =>
    simp only [hn, Option.map_some, Option.bind_some, GV.era, elemOf, beq_self_eq_true, if_true, Option.some.injEq, Prod.mk.injEq] at he
    obtain ⟨rfl, _⟩ := he
    have hT := h.sto.node hn
    refine ⟨e', b, off0, rfl, rfl, hT.pointee, fun j l hl => ?_, fun j l hl => ?_⟩
    · cases hT with
      | pt _ _ _ _ hc => exact hc j l hl
    · rw [gnodeIn_append hn]
      simp only [gnodeAt, gleafAt, hl]

theorem tells_ld (hG : GlobOK G cx) (h : Inv cx gob I s a w) {o : Oper} {t : TypeId} {x : Operand} {i : Ti} {y : Opr} {e : Eff} {r : List Nat} (ho : o.op = .load t x) (ht : tiOf P t = some i)
    (hx : cOpr G x = some y) {v : AV} (hy : s.val y = some v) (hr : (ldOp i.ag (if i.ag then i.n else 1) v).run s.obj [] = some (e, r)) :
    e.ch = [] ∧ e.kl = [] ∧ Tells P cx gob I w a.eval o e.v := by
  obtain ⟨d, f, hd, hf, rfl⟩ := tiOf_inv ht
  have hv := opr_val hG h hx hy
  unfold ldOp at hr
  simp only at hr
  split at hr
  · rename_i o' k0 p j k
    have hx' := hv.ref_inv (.inr ⟨_, _, _, _, _, rfl⟩)
    simp only [Lk.run] at hr
    cases hn : (nodeIn (s.obj o') k0 p).bind (elemOf j) with
    | none => simp [hn, Lk.run] at hr
    | some es =>
      obtain ⟨ev, sz⟩ := es
      obtain ⟨g, b, off, rfl, hxv, hT, hc, hg⟩ := pref_leafs h hx' hn
      simp only [hn, hT.leafs_era, ← List.map_drop, ← List.map_take] at hr
      obtain ⟨N, hN⟩ : ∃ N, N = if isAggD d then f.size else 1 := ⟨_, rfl⟩
      rw [← hN] at hr
      generalize hl : ((GV.leafs g).drop k).take N = l at hr
      have hget : ∀ j' g', l[j']? = some g' → (GV.leafs g)[k + j']? = some g' := fun j' g' hj => get_drop_take (by rw [hl]; exact hj)
      have hvals := lifts_vals h.sto (o := o') (k0 := k0) (p := p) (i := j) (sz := sz) l k (fun j' g' hj => ⟨hg _ _ (hget j' g' hj), hT.leafy (List.mem_of_getElem? (hget j' g' hj))⟩)
      have hlen : (lifts o' k0 p j sz k (l.map GV.era)).length = l.length := by rw [hvals.1.length]; simp
      split at hr
      · rename_i hn1
        rw [hlen] at hn1
        simp only [beq_iff_eq] at hn1
        obtain ⟨xv, hrun, hxe⟩ := run_loadVar (w := w) hd hf (b := b) (off := off + k) (hN ▸ hn1) (fun k' g' hk => by
          have := hc _ _ (hget k' g' hk)
          rwa [Nat.add_assoc])
        have hexec : (execOp a.eval o).run P w = .ok (.value xv) w := by
          rw [show o = { o with op := .load t x } by cases o; simp_all]
          simp only [execOp, Instr.loadAt, hxv, Instr.sureAddr]
          simp [hrun]
        split at hr
        · rename_i hag
          simp only [Lk.run, Option.some.injEq, Prod.mk.injEq] at hr
          obtain ⟨rfl, _⟩ := hr
          refine ⟨rfl, rfl, xv, hexec, ?_⟩
          simp only [hag, if_true] at hxe
          rw [hxe]
          exact hvals.1.agg hvals.2
        · rename_i hag
          have hag' : isAggD d = false := by simpa using hag
          split at hr
          · rename_i z hz
            simp only [Lk.run, Option.some.injEq, Prod.mk.injEq] at hr
            obtain ⟨rfl, _⟩ := hr
            refine ⟨rfl, rfl, xv, hexec, ?_⟩
            simp only [hag', Bool.false_eq_true, if_false] at hxe
            have hv1 := hvals.1
            rw [hz] at hv1
            match l, hn1 with
            | [q], _ =>
              simp only [List.head?_cons, Option.map_some, Option.getD_some] at hxe
              rw [hxe]
              cases hv1 with
              | cons _ _ _ _ h1 _ => exact h1
            | [], hn1 => simp [lifts] at hz
            | q :: q' :: l', hn1 => simp [hag'] at hN; simp [hN] at hn1
          · simp [Lk.run] at hr
      · simp [Lk.run] at hr
  · rename_i e'
    obtain ⟨g, b, off, rfl, hxv, hT, hown⟩ := hv.pt_inv
    rw [Lk.run_of] at hr
    obtain ⟨z, hz, hr⟩ := map_some_inv hr
    obtain ⟨q, hq, rfl⟩ := map_some_inv hz
    simp only [Prod.mk.injEq] at hr
    obtain ⟨rfl, _⟩ := hr
    rw [part_era hT.pointee] at hq
    obtain ⟨gp, hgp, rfl⟩ := map_some_inv hq
    have hTp := hT.pointee.gpart hgp
    have hleaf := gpart_leafs hgp (fun _ l hl => hT.pointee.leafy hl)
    have how : g.own = [] := by
      simp only [GV.own, Bool.false_eq_true, if_false] at hown; exact hown
    have hcell : ∀ k l, (GV.leafs g)[k]? = some l → w.cell? ⟨b, off + k, none⟩ = some l.cv := by cases hT; assumption
    obtain ⟨xv, hrun, hxe⟩ := run_loadVar (w := w) hd hf (b := b) (off := off) (l := GV.leafs gp) hleaf.2.1 (fun k' g' hk => by
      rw [hleaf.1] at hk
      exact hcell _ _ (by simpa using get_drop_take hk))
    refine ⟨rfl, rfl, xv, ?_, ?_⟩
    · rw [show o = { o with op := .load t x } by cases o; simp_all]
      simp only [execOp, Instr.loadAt, hxv, Instr.sureAddr]
      simp [hrun]
    · have : xv = gp.cv := by
        rw [hxe]
        cases hag : isAggD d with
        | true =>
          simp only [if_true]
          unfold gpart at hgp
          simp only [hag, if_true] at hgp
          split at hgp
          · simp only [Option.some.injEq] at hgp; subst hgp
            simp [GV.leafs, GV.cv, cvL_eq]
          · cases hgp
        | false =>
          have := (hleaf.2.2 hag).2
          have : GV.leafs gp = [gp] := by cases gp <;> simp [GV.leafy] at this <;> rfl
          simp [this]
      rw [this]
      exact Val.tree hTp.1 (hTp.2 how)
  · simp [Lk.run] at hr

end Go.AM

/- AM, part 9: more operations that only tell a value. -/
namespace Go.AM
open GV

variable {P : Program} {G : Globs} {cx : Cx} {gob : Nat → List GV} {I : Nat → Prop} {s : St} {a : Act} {w : World}

theorem tells_mv (hG : GlobOK G cx) (h : Inv cx gob I s a w) {o : Oper} {x : Operand} (ho : o.op = .move x ∨ o.op = .assign x) {y : Opr} (hx : cOpr G x = some y) {v : AV} (hy : s.val y = some v) :
    Tells P cx gob I w a.eval o v := by
  refine ⟨a.eval x, ?_, opr_val hG h hx hy⟩
  rcases ho with ho | ho
  · rw [show o = { o with op := .move x } by cases o; simp_all]; rfl
  · rw [show o = { o with op := .assign x } by cases o; simp_all]; rfl

theorem tells_pick (hG : GlobOK G cx) (h : Inv cx gob I s a w) {o : Oper} {c x z : Operand} (ho : o.op = .pick c x z) {yc yx yz : Opr} (hc : cOpr G c = some yc) (hx : cOpr G x = some yx) (hz : cOpr G z = some yz)
    {t : Bool} (ht : s.val yc = some (.lit (.bool t))) {v : AV} (hv : (if t then s.val yx else s.val yz) = some v) : Tells P cx gob I w a.eval o v := by
  have h1 := (opr_val hG h hc ht).lit_inv.1
  refine ⟨if t then a.eval x else a.eval z, ?_, ?_⟩
  · rw [show o = { o with op := .pick c x z } by cases o; simp_all]
    simp only [execOp, h1, asBool]
    cases t <;> simp
  · cases t
    · simp only [Bool.false_eq_true, if_false] at hv ⊢; exact opr_val hG h hz hv
    · simp only [if_true] at hv ⊢; exact opr_val hG h hx hv

theorem tells_nilc (hG : GlobOK G cx) (h : Inv cx gob I s a w) {o : Oper} {x : Operand} (ho : o.op = .nilCheck x) {y : Opr} (hx : cOpr G x = some y) {v : AV} (hy : s.val y = some v)
    (hv : (∃ o k0 p i k, v = .pref o k0 p i k) ∨ (∃ b e, v = .pt b e) ∨ (∃ f x y, v = .fn (.func f) x y)) : Tells P cx gob I w a.eval o v := by
  have h1 := opr_val hG h hx hy
  refine ⟨a.eval x, ?_, h1⟩
  rw [show o = { o with op := .nilCheck x } by cases o; simp_all]
  rcases hv with ⟨o, k0, p, i, k, rfl⟩ | ⟨b, e, rfl⟩ | ⟨f, p, q, rfl⟩
  · have := h1.ref_inv (.inr ⟨_, _, _, _, _, rfl⟩)
    simp only [execOp]
    generalize a.eval x = z at this ⊢
    cases this <;> rfl
  · obtain ⟨g, b, off, _, hv, _⟩ := h1.pt_inv
    simp only [execOp, hv]; rfl
  · obtain ⟨xs, ys, hv, _⟩ := h1.fn_inv
    simp only [execOp, hv]; rfl

theorem isNil_val {k : Nat} {v : AV} {x : Value} {b : Bool} (h : Val cx gob I w v x) (hn : isNil k v = some b) :
    (k = 2 ∧ ∃ p, x = .pointer p ∧ p.isNone = b) ∨ (k = 3 ∧ ∃ p n c, x = .slice p n c ∧ p.isNone = b) ∨ (k = 4 ∧ ((b = true ∧ x = .nilFunc) ∨ (b = false ∧ ∃ f y z, x = .func f y z))) := by
  unfold isNil at hn
  split at hn <;> (try split at hn) <;> (try (cases hn; done)) <;> simp only [Option.some.injEq] at hn <;> subst hn <;> rename_i hk
  · simp only [beq_iff_eq] at hk; subst hk
    exact .inl ⟨rfl, none, h.lit_inv.1, rfl⟩
  · simp only [beq_iff_eq] at hk; subst hk
    exact .inr (.inl ⟨rfl, none, 0, 0, h.lit_inv.1, rfl⟩)
  · simp only [beq_iff_eq] at hk; subst hk
    exact .inr (.inr ⟨rfl, .inl ⟨rfl, h.lit_inv.1⟩⟩)
  · simp only [beq_iff_eq] at hk; subst hk
    have := h.ref_inv (.inr ⟨_, _, _, _, _, rfl⟩)
    cases this <;> exact .inl ⟨rfl, _, rfl, rfl⟩
  · simp only [beq_iff_eq] at hk; subst hk
    obtain ⟨g, b, off, _, hv, _⟩ := h.pt_inv
    exact .inl ⟨rfl, _, hv, rfl⟩
  · simp only [beq_iff_eq] at hk; subst hk
    have := h.ref_inv (.inl ⟨_, _, _, _, _, rfl⟩)
    cases this; exact .inr (.inl ⟨rfl, _, _, _, rfl, rfl⟩)
  · simp only [beq_iff_eq] at hk; subst hk
    obtain ⟨xs, ys, hv, _⟩ := h.fn_inv
    exact .inr (.inr ⟨rfl, .inr ⟨rfl, _, _, _, hv⟩⟩)
  · simp only [Bool.and_eq_true, beq_iff_eq] at hk
    obtain ⟨rfl, he⟩ := hk
    rcases h.sl_inv with ⟨rfl, _⟩ | ⟨gs, b, off, cap, _, hv, _⟩
    · simp at he
    · exact .inr (.inl ⟨rfl, _, _, _, hv, rfl⟩)

theorem run_equal_nil {t : TypeId} {d : TypeDesc} {k : Nat} {x y : Value} {b : Bool} (hd : P.underlying t = some d)
    (hk : (k = 2 ∧ ∃ e, d = .pointer e) ∨ (k = 3 ∧ ∃ e, d = .slice e) ∨ (k = 4 ∧ ∃ p r v, d = .func p r v))
    (hx : (k = 2 ∧ ∃ p, x = .pointer p ∧ p.isNone = b) ∨ (k = 3 ∧ ∃ p n c, x = .slice p n c ∧ p.isNone = b) ∨ (k = 4 ∧ ((b = true ∧ x = .nilFunc) ∨ (b = false ∧ ∃ f y z, x = .func f y z))))
    (hy : (k = 2 ∧ ∃ p, y = .pointer p ∧ p.isNone = true) ∨ (k = 3 ∧ ∃ p n c, y = .slice p n c ∧ p.isNone = true) ∨ (k = 4 ∧ ((true = true ∧ y = .nilFunc) ∨ (true = false ∧ ∃ f u z, y = .func f u z)))) (w : World) :
    (Op.equal t x y).run P w = .ok b w := by
  unfold Op.equal
  rw [show Op.maxDepth = 9999 + 1 from rfl]
  unfold Op.equalIn
  rw [Sem.run_bind, run_und hd]
  simp only [Result.andThen_ok]
  rcases hk with ⟨rfl, e, rfl⟩ | ⟨rfl, e, rfl⟩ | ⟨rfl, p, r, v, rfl⟩
  · simp only [reduceCtorEq, Nat.reduceEqDiff, false_and, or_false, true_and] at hx hy
    obtain ⟨p, rfl, rfl⟩ := hx
    obtain ⟨q, rfl, hq⟩ := hy
    cases q with
    | some _ => simp at hq
    | none => cases p <;> simp
  · simp only [reduceCtorEq, Nat.reduceEqDiff, false_and, or_false, false_or, true_and] at hx hy
    obtain ⟨p, n, c, rfl, rfl⟩ := hx
    obtain ⟨q, n', c', rfl, hq⟩ := hy
    cases q with
    | some _ => simp at hq
    | none => cases p <;> simp
  · simp only [reduceCtorEq, Nat.reduceEqDiff, false_and, or_false, false_or, true_and] at hx hy
    subst hy
    rcases hx with ⟨rfl, rfl⟩ | ⟨rfl, f, u, z, rfl⟩ <;> simp

theorem tells_bin (hG : GlobOK G cx) (h : Inv cx gob I s a w) {o : Oper} {op : BinOp} {t t' : TypeId} {x y : Operand} (ho : o.op = .binOp op t x y t') {yx yy : Opr} (hx : cOpr G x = some yx) (hy : cOpr G y = some yy)
    {d : TypeDesc} (hd : P.underlying t = some d) {k : Nat}
    (hk : k = 0 ∨ (k = 1 ∧ d = .bool) ∨ (k = 2 ∧ ∃ e, d = .pointer e) ∨ (k = 3 ∧ ∃ e, d = .slice e) ∨ (k = 4 ∧ ∃ p r v, d = .func p r v))
    {u v r : AV} (hu : s.val yx = some u) (hv : s.val yy = some v) (hr : abin k op u v = some r) : Tells P cx gob I w a.eval o r := by
  have h1 := opr_val hG h hx hu
  have h2 := opr_val hG h hy hv
  have ex : ∀ z, (binOp op t (a.eval x) (a.eval y)).run P w = .ok z w → (eqGuard op t x y (a.eval x) (a.eval y)).run P w = .ok () w → (execOp a.eval o).run P w = .ok (.value z) w := fun z hz hg => by
    rw [show o = { o with op := .binOp op t x y t' } by cases o; simp_all]
    simp only [execOp]
    simp [hg, hz]
  unfold abin at hr
  split at hr
  · rename_i h0
    split at hr
    · rename_i ka na kb nb
      obtain ⟨z, hz, rfl⟩ := map_some_inv hr
      have e1 := h1.lit_inv.1
      have e2 := h2.lit_inv.1
      refine ⟨z, ex z ?_ ?_, Val.lit (ground_ibin hz)⟩
      · rw [e1, e2]; exact run_binOp_int op t ka kb na nb z w hz
      · rw [e1, e2]; exact run_eqGuard _ _ _ _ _ _ _ (by simp) (by simp)
    · cases hr
  · rename_i h0
    simp only [beq_iff_eq] at h0
    split at hr
    · rename_i hk1
      simp only [beq_iff_eq] at hk1
      subst hk1
      have hdb : d = .bool := by
        rcases hk with hk | ⟨_, hk⟩ | ⟨hk, _⟩ | ⟨hk, _⟩ | ⟨hk, _⟩ <;> first | exact hk | omega
      subst hdb
      split at hr
      · rename_i ba bb
        have e1 := h1.lit_inv.1
        have e2 := h2.lit_inv.1
        have heq : (Op.equal t (.bool ba) (.bool bb)).run P w = .ok (ba == bb) w := by
          unfold Op.equal
          rw [show Op.maxDepth = 9999 + 1 from rfl]
          unfold Op.equalIn
          rw [Sem.run_bind, run_und hd]
          simp
        split at hr
        · simp only [Option.some.injEq] at hr; subst hr
          refine ⟨.bool (ba == bb), ex _ ?_ ?_, Val.lit rfl⟩
          · rw [e1, e2]; simp [binOp, heq]
          · rw [e1, e2]; exact run_eqGuard _ _ _ _ _ _ _ (by simp) (by simp)
        · simp only [Option.some.injEq] at hr; subst hr
          refine ⟨.bool (ba != bb), ex _ ?_ ?_, Val.lit rfl⟩
          · rw [e1, e2]; simp [binOp, heq, bne]
          · rw [e1, e2]; exact run_eqGuard _ _ _ _ _ _ _ (by simp) (by simp)
        · cases hr
      · cases hr
    · rename_i hk1
      simp only [beq_iff_eq] at hk1
      split at hr
      · rename_i hny
        have n2 := isNil_val h2 hny
        have hk' : (k = 2 ∧ ∃ e, d = .pointer e) ∨ (k = 3 ∧ ∃ e, d = .slice e) ∨ (k = 4 ∧ ∃ p r v, d = .func p r v) := by
          rcases hk with hk | ⟨hk, _⟩ | hk | hk | hk
          · exact absurd hk h0
          · exact absurd hk hk1
          · exact .inl hk
          · exact .inr (.inl hk)
          · exact .inr (.inr hk)
        have guard : ∀ b, isNil k u = some b → (eqGuard op t x y (a.eval x) (a.eval y)).run P w = .ok () w := fun b hb => by
          have n1 := isNil_val h1 hb
          refine run_eqGuard _ _ _ _ _ _ _ ?_ ?_
          · rintro ⟨e1, e2⟩
            rw [e1] at n1
            simp at n1
          · rintro ⟨⟨c, e1⟩, _⟩
            rw [e1] at n1
            simp at n1
        have bin : ∀ b, isNil k u = some b → (Op.equal t (a.eval x) (a.eval y)).run P w = .ok b w := fun b hb => run_equal_nil hd hk' (isNil_val h1 hb) n2 w
        have shape : ∀ b, isNil k u = some b → (∀ kk n, a.eval x ≠ .int kk n) ∧ (∀ kk n, a.eval x ≠ .float kk n) ∧ (∀ kk n m, a.eval x ≠ .complex kk n m) ∧ (∀ n, a.eval x ≠ .string n) := fun b hb => by
          have n1 := isNil_val h1 hb
          rcases n1 with ⟨_, p, e, _⟩ | ⟨_, p, n, c, e, _⟩ | ⟨_, ⟨_, e⟩ | ⟨_, f, y, z, e⟩⟩ <;> simp [e]
        split at hr
        · obtain ⟨b, hb, rfl⟩ := map_some_inv hr
          refine ⟨.bool b, ex _ ?_ (guard b hb), Val.lit rfl⟩
          have := bin b hb
          have sh := shape b hb
          generalize a.eval x = X at this sh ⊢
          generalize a.eval y = Y at this ⊢
          cases X <;> first | (exact absurd rfl (sh.1 _ _)) | (exact absurd rfl (sh.2.1 _ _)) | (exact absurd rfl (sh.2.2.1 _ _ _)) | (exact absurd rfl (sh.2.2.2 _)) | simp [binOp, this]
        · obtain ⟨b, hb, rfl⟩ := map_some_inv hr
          refine ⟨.bool !b, ex _ ?_ (guard b hb), Val.lit rfl⟩
          have := bin b hb
          have sh := shape b hb
          generalize a.eval x = X at this sh ⊢
          generalize a.eval y = Y at this ⊢
          cases X <;> first | (exact absurd rfl (sh.1 _ _)) | (exact absurd rfl (sh.2.1 _ _)) | (exact absurd rfl (sh.2.2.1 _ _ _)) | (exact absurd rfl (sh.2.2.2 _)) | simp [binOp, this]
        · cases hr
      · cases hr

theorem tells_un (hG : GlobOK G cx) (h : Inv cx gob I s a w) {o : Oper} {op : UnOp} {t : TypeId} {x : Operand} (ho : o.op = .unOp op t x) {y : Opr} (hx : cOpr G x = some y) {u r : AV}
    (hu : s.val y = some u) (hr : aun op u = some r) : Tells P cx gob I w a.eval o r := by
  have h1 := opr_val hG h hx hu
  have ex : ∀ z, (Op.unary op (a.eval x)).run P w = .ok z w → (execOp a.eval o).run P w = .ok (.value z) w := fun z hz => by
    rw [show o = { o with op := .unOp op t x } by cases o; simp_all]
    simp only [execOp]
    simp [hz]
  unfold aun at hr
  split at hr
  · simp only [Option.some.injEq] at hr; subst hr
    refine ⟨_, ex _ ?_, Val.lit rfl⟩
    rw [h1.lit_inv.1]; rfl
  · simp only [Option.some.injEq] at hr; subst hr
    refine ⟨_, ex _ ?_, Val.lit rfl⟩
    rw [h1.lit_inv.1]; rfl
  · simp only [Option.some.injEq] at hr; subst hr
    refine ⟨_, ex _ ?_, Val.lit rfl⟩
    rw [h1.lit_inv.1]; rfl
  · cases hr

theorem tells_conv (hG : GlobOK G cx) (h : Inv cx gob I s a w) {o : Oper} {t u : TypeId} {x : Operand} (ho : o.op = .convert t u x) {y : Opr} (hx : cOpr G x = some y) {k1 k2 k : IntKind} {n : Int}
    (ht : P.underlying t = some (.int k1)) (hu : P.underlying u = some (.int k2)) (hv : s.val y = some (.lit (.int k n))) : Tells P cx gob I w a.eval o (.lit (.int k2 (k2.wrap n))) := by
  have h1 := (opr_val hG h hx hv).lit_inv.1
  refine ⟨_, ?_, Val.lit rfl⟩
  rw [show o = { o with op := .convert t u x } by cases o; simp_all]
  simp only [execOp, h1]
  simp [convert, run_und ht, run_und hu, Conv.intToInt]

theorem tells_mkfn (hG : GlobOK G cx) (h : Inv cx gob I s a w) {o : Oper} {f : Fn} {fs cs : Array Operand} (ho : o.op = .makeFunc f fs cs) {ys zs : List Opr} (hf : cOprs G fs.toList = some ys) (hc : cOprs G cs.toList = some zs)
    {us vs : List AV} (hu : vals s.val ys = some us) (hv : vals s.val zs = some vs) : Tells P cx gob I w a.eval o (.fn f us vs) := by
  have h1 := oprs_vals hG h _ _ _ hf hu
  have h2 := oprs_vals hG h _ _ _ hc hv
  refine ⟨.func f (fs.map a.eval) (cs.map a.eval), ?_, ?_⟩
  · rw [show o = { o with op := .makeFunc f fs cs } by cases o; simp_all]
    simp [execOp, Instr.makeFunc]
  · have := h1.fn (f := f) h2
    have e : ∀ l : Array Operand, (l.toList.map a.eval).toArray = l.map a.eval := fun l => by cases l; simp
    rwa [e, e] at this

theorem tells_ext (hG : GlobOK G cx) (h : Inv cx gob I s a w) {o : Oper} {x : Operand} {i : Nat} (ho : o.op = .extract x i) {y : Opr} (hx : cOpr G x = some y) {vs : List AV} {v : AV}
    (hu : s.val y = some (.tup vs)) (hv : vs[i]? = some v) : Tells P cx gob I w a.eval o v := by
  obtain ⟨xs, h1, h2⟩ := (opr_val hG h hx hu).tup_inv
  obtain ⟨z, hz, hval⟩ := h2.get hv
  refine ⟨z, ?_, hval⟩
  rw [show o = { o with op := .extract x i } by cases o; simp_all]
  simp only [execOp, h1, Instr.extract]
  simp [hz]

end Go.AM

/- AM, part 10: addresses, parts, lengths, what is built. -/
namespace Go.AM
open GV

variable {P : Program} {G : Globs} {cx : Cx} {gob : Nat → List GV} {I : Nat → Prop} {s : St} {a : Act} {w : World}

/-- A pointer to a part of what is never written again. -/
theorem HT.ptpart {w : World} {I : Nat → Prop} {K : Nat → Nat → Prop} {g x : GV} {b off : Nat} (h : HT w I K (.pt false g b off)) (ho : (GV.pt false g b off).own = []) {ag : Bool} {n k : Nat} (hp : AM.gpart ag n k g = some x) :
    HT w I K (.pt false x b (off + k)) ∧ (GV.pt false x b (off + k)).own = [] := by
  have hg := h.pointee.gpart hp
  have hl := gpart_leafs hp (fun _ l hl => h.pointee.leafy hl)
  have how : g.own = [] := by simpa [GV.own] using ho
  cases h with
  | pt _ _ _ _ hc _ hi _ =>
    refine ⟨.pt _ _ _ _ (fun j l hj => ?_) hg.1 (fun _ => ⟨(hi rfl).1, hg.2 how⟩) (fun h => by cases h), by simp [GV.own, hg.2 how]⟩
    rw [hl.1] at hj
    have := hc _ _ (get_drop_take hj)
    rwa [Nat.add_assoc]

theorem tells_fa (hG : GlobOK G cx) (h : Inv cx gob I s a w) {o : Oper} {t : TypeId} {x : Operand} {j : Nat} (ho : o.op = .fieldAddr t x j) {fs : Array Field} {f : Field} (ht : P.underlying t = some (.struct fs)) (hf : fs[j]? = some f)
    {i : Ti} (hi : tiOf P f.type = some i) (hn : 0 < i.n) {y : Opr} (hx : cOpr G x = some y) {u r : AV} (hu : s.val y = some u)
    (hr : (∃ o' k0 p i' k, u = .pref o' k0 p i' k ∧ r = .pref o' k0 p i' (k + f.offset)) ∨ (∃ e q, u = .pt false e ∧ part i.ag i.n f.offset e = some q ∧ r = .pt false q)) : Tells P cx gob I w a.eval o r := by
  obtain ⟨d, fi, hd, hfi, rfl⟩ := tiOf_inv hi
  have h1 := opr_val hG h hx hu
  have ex : ∀ b off, a.eval x = .pointer (some ⟨b, off, none⟩) → (execOp a.eval o).run P w = .ok (.value (.pointer (some ⟨b, off + f.offset, none⟩))) w := fun b off hz => by
    rw [show o = { o with op := .fieldAddr t x j } by cases o; simp_all]
    simp only [execOp, hz]
    have : fi.size ≠ 0 := by simp at hn; omega
    simp [Instr.fieldAt, run_und ht, hf, Instr.sureAddr, fieldPlace, run_size hfi, this, addr_add]
  rcases hr with ⟨o', k0, p, i', k, rfl, rfl⟩ | ⟨e, q, rfl, hq, rfl⟩
  · have hx' := h1.ref_inv (.inr ⟨_, _, _, _, _, rfl⟩)
    generalize hz : a.eval x = z at hx'
    cases hx' with
    | ps _ _ _ _ _ m fl sz es b off0 cap0 hn hi =>
      refine ⟨_, ex _ _ hz, Val.ref ?_⟩
      have := RefOK.ps (gob := gob) o' k0 p i' (k + f.offset) m fl sz es b off0 cap0 hn hi
      rwa [← Nat.add_assoc] at this
    | pp _ _ _ _ ow e b off0 hn =>
      refine ⟨_, ex _ _ hz, Val.ref ?_⟩
      have := RefOK.pp (gob := gob) o' k0 p (k + f.offset) ow e b off0 hn
      rwa [← Nat.add_assoc] at this
  · obtain ⟨g, b, off, rfl, hz, hT, hown⟩ := h1.pt_inv
    rw [part_era hT.pointee] at hq
    obtain ⟨gp, hgp, rfl⟩ := map_some_inv hq
    have := hT.ptpart hown hgp
    exact ⟨_, ex _ _ hz, Val.tree (g := .pt false gp b (off + f.offset)) this.1 this.2⟩

theorem part_list {L : List AV} {ag : Bool} {n : Nat} {r : AV} (h : (if L.length == n then (if ag then some (AV.agg L) else match L with | [x] => some x | _ => none) else none) = some r) :
    L.length = n ∧ (ag = true → r = .agg L) ∧ (ag = false → L = [r]) := by
  split at h
  · rename_i hn
    refine ⟨by simpa using hn, ?_, ?_⟩
    · intro ha; subst ha; simp only [if_true, Option.some.injEq] at h; exact h.symm
    · intro ha; subst ha
      simp only [Bool.false_eq_true, if_false] at h
      split at h
      · simp only [Option.some.injEq] at h; subst h; rfl
      · cases h
  · cases h

theorem vals_part {cs : List AV} {xs : List Value} (h : Vals cx gob I w cs xs) (hl : ∀ c ∈ cs, leafyA c = true) {ag : Bool} {n off : Nat} {r : AV} (hp : part ag n off (.agg cs) = some r) :
    ((xs.drop off).take n).length = n ∧ ∃ x, Val cx gob I w r x ∧ (ag = true → x = .agg ((xs.drop off).take n).toArray) ∧ (ag = false → xs[off]? = some x) := by
  have hv := (h.drop off).take n
  obtain ⟨h1, h2, h3⟩ := part_list (L := (cs.drop off).take n) hp
  refine ⟨by rw [← hv.length, h1], ?_⟩
  cases ha : ag with
  | true =>
    rw [h2 ha]
    exact ⟨_, hv.agg (fun v hm => hl v (List.mem_of_mem_drop (List.mem_of_mem_take hm))), (fun _ => rfl), (fun h => by cases h)⟩
  | false =>
    have : ((cs.drop off).take n)[0]? = some r := by rw [h3 ha]; rfl
    obtain ⟨x, hx, hvx⟩ := h.get (get_drop_take this)
    exact ⟨x, hvx, (fun h => by cases h), (fun _ => by simpa using hx)⟩

theorem run_part {t : TypeId} {d : TypeDesc} {f : TypeInfo} (hd : P.underlying t = some d) (hf : P.info? t = some f) (cs : Array Value) (off : Nat) (w : World) :
    (Go.part t cs off).run P w = if isAggD d then .ok (.agg (cs.extract off (off + f.size))) w else match cs[off]? with
      | some v => .ok v w
      | none => .halt (.stuck "part: no such cell") w := by
  unfold Go.part
  rw [Sem.run_bind, run_agg hd]
  simp only [Result.andThen_ok]
  cases isAggD d
  · simp only [Bool.false_eq_true, if_false]
    cases cs[off]? <;> simp
  · simp only [if_true, Sem.run_bind, run_size hf, Result.andThen_ok]; simp

theorem run_part_val {t : TypeId} {d : TypeDesc} {f : TypeInfo} (hd : P.underlying t = some d) (hf : P.info? t = some f) {xs : List Value} {off : Nat} {x : Value} (w : World)
    (h1 : isAggD d = true → x = .agg ((xs.drop off).take f.size).toArray) (h2 : isAggD d = false → xs[off]? = some x) : (Go.part t xs.toArray off).run P w = .ok x w := by
  rw [run_part hd hf]
  cases hag : isAggD d with
  | true =>
    simp only [if_true, h1 hag]
    congr 2
    simp [List.extract]
  | false => simp [h2 hag]

theorem tells_fld (hG : GlobOK G cx) (h : Inv cx gob I s a w) {o : Oper} {t : TypeId} {x : Operand} {j : Nat} (ho : o.op = .field t x j) {fs : Array Field} {f : Field} (ht : P.underlying t = some (.struct fs)) (hf : fs[j]? = some f)
    {i : Ti} (hi : tiOf P f.type = some i) {y : Opr} (hx : cOpr G x = some y) {cs : List AV} {r : AV} (hu : s.val y = some (.agg cs)) (hr : part i.ag i.n f.offset (.agg cs) = some r) : Tells P cx gob I w a.eval o r := by
  obtain ⟨d, fi, hd, hfi, rfl⟩ := tiOf_inv hi
  obtain ⟨xs, hz, hv, hl⟩ := (opr_val hG h hx hu).agg_inv
  obtain ⟨_, q, hq, h1, h2⟩ := vals_part hv hl hr
  refine ⟨q, ?_, hq⟩
  rw [show o = { o with op := .field t x j } by cases o; simp_all]
  simp only [execOp, hz]
  simp [Instr.field, run_und ht, hf, asAgg, run_part_val hd hfi w h1 h2]

theorem natOf_val {v : AV} {x : Value} {n : Nat} (h : Val cx gob I w v x) (hn : natOf v = some n) : ∃ k, x = .int k n := by
  unfold natOf at hn
  split at hn
  · rename_i k m
    split at hn
    · rename_i hm
      simp only [Option.some.injEq] at hn
      refine ⟨k, ?_⟩
      rw [h.lit_inv.1, ← hn]
      simp; omega
    · cases hn
  · cases hn

theorem tells_iarr (hG : GlobOK G cx) (h : Inv cx gob I s a w) {o : Oper} {t e : TypeId} {x ix : Operand} {len : Nat} (ho : o.op = .indexAddr t x ix) (ht : P.underlying t = some (.array len e))
    {i : Ti} (hi : tiOf P e = some i) {y yi : Opr} (hx : cOpr G x = some y) (hix : cOpr G ix = some yi) {u r : AV} {j : Nat} (hu : s.val y = some u) (hj : (s.val yi).bind natOf = some j) (hjl : j < len)
    (hr : (∃ o' k0 p i' k, u = .pref o' k0 p i' k ∧ r = .pref o' k0 p i' (k + j * i.n)) ∨ (∃ e q, u = .pt false e ∧ part i.ag i.n (j * i.n) e = some q ∧ r = .pt false q)) : Tells P cx gob I w a.eval o r := by
  obtain ⟨d, fi, hd, hfi, rfl⟩ := tiOf_inv hi
  have h1 := opr_val hG h hx hu
  obtain ⟨vi, hvi, hnj⟩ := bind_some_inv hj
  obtain ⟨ki, hki⟩ := natOf_val (opr_val hG h hix hvi) hnj
  have ex : ∀ b off, a.eval x = .pointer (some ⟨b, off, none⟩) → (execOp a.eval o).run P w = .ok (.value (.pointer (some ⟨b, off + j * fi.size, none⟩))) w := fun b off hz => by
    rw [show o = { o with op := .indexAddr t x ix } by cases o; simp_all]
    simp only [execOp, hz, hki]
    have hc : (0 : Int) ≤ (j : Int) ∧ (j : Int) < (len : Int) := by omega
    simp [Instr.indexAt, run_und ht, asIntOf, Instr.sureAddr, run_size hfi, hjl, addr_add]
  rcases hr with ⟨o', k0, p, i', k, rfl, rfl⟩ | ⟨e, q, rfl, hq, rfl⟩
  · have hx' := h1.ref_inv (.inr ⟨_, _, _, _, _, rfl⟩)
    generalize hz : a.eval x = z at hx'
    cases hx' with
    | ps _ _ _ _ _ m fl sz es b off0 cap0 hn hi =>
      refine ⟨_, ex _ _ hz, Val.ref ?_⟩
      have := RefOK.ps (gob := gob) o' k0 p i' (k + j * fi.size) m fl sz es b off0 cap0 hn hi
      rwa [← Nat.add_assoc] at this
    | pp _ _ _ _ ow e b off0 hn =>
      refine ⟨_, ex _ _ hz, Val.ref ?_⟩
      have := RefOK.pp (gob := gob) o' k0 p (k + j * fi.size) ow e b off0 hn
      rwa [← Nat.add_assoc] at this
  · obtain ⟨g, b, off, rfl, hz, hT, hown⟩ := h1.pt_inv
    rw [part_era hT.pointee] at hq
    obtain ⟨gp, hgp, rfl⟩ := map_some_inv hq
    have := hT.ptpart hown hgp
    exact ⟨_, ex _ _ hz, Val.tree (g := .pt false gp b (off + j * fi.size)) this.1 this.2⟩

/-- What is never written again, element by element. -/
theorem HT.elem {w : World} {I : Nat → Prop} {K : Nat → Nat → Prop} {m : Nat} {fl : Bool} {sz : Nat} {es : List GV} {b off cap : Nat} (h : HT w I K (.sl m fl sz es b off cap)) (hm : ownM m = false) {i : Nat} {e : GV} (he : es[i]? = some e) :
    HT w I K (.pt false e b (off + i * sz)) ∧ (GV.pt false e b (off + i * sz)).own = [] := by
  cases h with
  | sl _ _ _ _ _ _ _ h1 hc hT hi _ _ _ =>
    have hown := (hi hm).2
    rw [ownL_eq, List.flatMap_eq_nil_iff] at hown
    have heo := hown e (List.mem_of_getElem? he)
    exact ⟨.pt _ _ _ _ (hc i e he).2 (hT e (List.mem_of_getElem? he)) (fun _ => ⟨(hi hm).1, heo⟩) (fun h => by cases h), by simp [GV.own, heo]⟩

theorem tells_ia (hG : GlobOK G cx) (h : Inv cx gob I s a w) {o : Oper} {t e : TypeId} {x ix : Operand} (ho : o.op = .indexAddr t x ix) (ht : P.underlying t = some (.slice e))
    {fi : TypeInfo} (hfi : P.info? e = some fi) {y yi : Opr} (hx : cOpr G x = some y) (hix : cOpr G ix = some yi) {u r : AV} {j : Nat} (hu : s.val y = some u) (hj : (s.val yi).bind natOf = some j)
    (hr : (∃ m fl es q, u = .sl m fl fi.size es ∧ es[j]? = some q ∧ (m == 1 || m == 3) = false ∧ r = .pt false q) ∨
      (∃ o' k0 p off n m fl es, u = .sref o' k0 p off n ∧ nodeIn (s.obj o') k0 p = some (.sl m fl fi.size es) ∧ j < n ∧ r = .pref o' k0 p (off + j) 0)) : Tells P cx gob I w a.eval o r := by
  have h1 := opr_val hG h hx hu
  obtain ⟨vi, hvi, hnj⟩ := bind_some_inv hj
  obtain ⟨ki, hki⟩ := natOf_val (opr_val hG h hix hvi) hnj
  have ex : ∀ b off n cap, a.eval x = .slice (some ⟨b, off, none⟩) n cap → j < n → (execOp a.eval o).run P w = .ok (.value (.pointer (some ⟨b, off + j * fi.size, none⟩))) w := fun b off n cap hz hjn => by
    rw [show o = { o with op := .indexAddr t x ix } by cases o; simp_all]
    simp only [execOp, hz, hki]
    simp [Instr.indexAt, run_und ht, asIntOf, run_size hfi, hjn, addr_add]
  rcases hr with ⟨m, fl, es, q, rfl, hq, hm, rfl⟩ | ⟨o', k0, p, off, n, m, fl, es, rfl, hn, hjn, rfl⟩
  · rcases h1.sl_inv with ⟨rfl, _⟩ | ⟨gs, b, off, cap, rfl, hz, hT, hown⟩
    · simp at hq
    · rw [List.getElem?_map] at hq
      obtain ⟨g, hg, rfl⟩ := map_some_inv hq
      have := hT.elem (by simpa [ownM] using hm) hg
      have hlt : j < gs.length := by
        rcases Nat.lt_or_ge j gs.length with h | h
        · exact h
        · rw [List.getElem?_eq_none h] at hg; cases hg
      exact ⟨_, ex _ _ _ _ hz hlt, Val.tree (g := .pt false g b (off + j * fi.size)) this.1 this.2⟩
  · have hx' := h1.ref_inv (.inl ⟨_, _, _, _, _, rfl⟩)
    generalize hz : a.eval x = z at hx'
    cases hx' with
    | s _ _ _ _ _ m' fl' sz es' b off0 cap0 cap hn' hle hc hcap =>
      rw [h.era o', nodeIn_era (h.sto.hol o'), hn'] at hn
      simp only [Option.map_some, GV.era, Option.some.injEq, AV.sl.injEq] at hn
      obtain ⟨_, _, rfl, _⟩ := hn
      refine ⟨_, ex _ _ _ _ hz hjn, Val.ref ?_⟩
      have := RefOK.ps (gob := gob) o' k0 p (off + j) 0 m' fl' fi.size es' b off0 cap0 hn' (by omega)
      simp only [Nat.add_zero] at this
      rwa [Nat.add_assoc, ← Nat.add_mul]

theorem tells_idx (hG : GlobOK G cx) (h : Inv cx gob I s a w) {o : Oper} {t e : TypeId} {x ix : Operand} {len : Nat} (ho : o.op = .index t x ix) (ht : P.underlying t = some (.array len e))
    {i : Ti} (hi : tiOf P e = some i) {y yi : Opr} (hx : cOpr G x = some y) (hix : cOpr G ix = some yi) {cs : List AV} {r : AV} {j : Nat} (hu : s.val y = some (.agg cs)) (hj : (s.val yi).bind natOf = some j) (hjl : j < len)
    (hr : part i.ag i.n (j * i.n) (.agg cs) = some r) : Tells P cx gob I w a.eval o r := by
  obtain ⟨d, fi, hd, hfi, rfl⟩ := tiOf_inv hi
  obtain ⟨vi, hvi, hnj⟩ := bind_some_inv hj
  obtain ⟨ki, hki⟩ := natOf_val (opr_val hG h hix hvi) hnj
  obtain ⟨xs, hz, hv, hl⟩ := (opr_val hG h hx hu).agg_inv
  obtain ⟨_, q, hq, h1, h2⟩ := vals_part hv hl hr
  refine ⟨q, ?_, hq⟩
  rw [show o = { o with op := .index t x ix } by cases o; simp_all]
  simp only [execOp, hz, hki]
  simp [Instr.index, run_und ht, asIntOf, run_size hfi, hjl, run_part_val hd hfi w h1 h2]

theorem tells_sidx (hG : GlobOK G cx) (h : Inv cx gob I s a w) {o : Oper} {t : TypeId} {x ix : Operand} (ho : o.op = .index t x ix) (ht : P.underlying t = some .string)
    {y yi : Opr} (hx : cOpr G x = some y) (hix : cOpr G ix = some yi) {st : ByteArray} {j : Nat} (hu : s.val y = some (.lit (.string st))) (hj : (s.val yi).bind natOf = some j) {b : UInt8}
    (hr : st[j]? = some b) : Tells P cx gob I w a.eval o (.int .u8 b.toNat) := by
  obtain ⟨vi, hvi, hnj⟩ := bind_some_inv hj
  obtain ⟨ki, hki⟩ := natOf_val (opr_val hG h hix hvi) hnj
  have hz := (opr_val hG h hx hu).lit_inv.1
  refine ⟨.int .u8 b.toNat, ?_, Val.lit rfl⟩
  rw [show o = { o with op := .index t x ix } by cases o; simp_all]
  simp only [execOp, hz, hki]
  simp [Instr.index, run_und ht, asIntOf, hr]

theorem lenOf_val {v : AV} {x : Value} {n : Nat} (h : Val cx gob I w v x) (hn : lenOf v = some n) : ∃ p c, x = .slice p n c := by
  unfold lenOf at hn
  split at hn <;> (try (cases hn; done)) <;> simp only [Option.some.injEq] at hn <;> subst hn
  · exact ⟨_, _, h.lit_inv.1⟩
  · rcases h.sl_inv with ⟨rfl, hv, _⟩ | ⟨gs, b, off, cap, rfl, hv, _⟩
    · exact ⟨_, _, hv⟩
    · exact ⟨some ⟨b, off, none⟩, cap, by rw [hv]; simp⟩
  · have := h.ref_inv (.inl ⟨_, _, _, _, _, rfl⟩)
    cases this; exact ⟨_, _, rfl⟩

theorem run_call_builtin {ρ : Operand → Value} {o : Oper} {c : Call} {b : Builtin} (ho : o.op = .call c) (hb : c.callee = .builtin b) (w : World) :
    (execOp ρ o).run P w = (builtin b c.argTypes o.type (c.args.map fun | .const _ => true | _ => false) (c.args.map ρ)).run P w := by
  rw [show o = { o with op := .call c } by cases o; simp_all]
  obtain ⟨cal, as, ts⟩ := c
  simp only at hb
  subst hb
  simp [execOp, Go.resolve, invoke]
  rfl

theorem tells_len (hG : GlobOK G cx) (h : Inv cx gob I s a w) {o : Oper} {c : Call} (ho : o.op = .call c) (hb : c.callee = .builtin .len) {t e : TypeId} {x : Operand} (hts : c.argTypes.toList = [t]) (has : c.args.toList = [x])
    (ht : P.underlying t = some (.slice e)) {y : Opr} (hx : cOpr G x = some y) {u : AV} {n : Nat} (hu : s.val y = some u) (hn : lenOf u = some n) : Tells P cx gob I w a.eval o (.int .i64 n) := by
  obtain ⟨p, cc, hz⟩ := lenOf_val (opr_val hG h hx hu) hn
  refine ⟨.int .i64 n, ?_, Val.lit rfl⟩
  rw [run_call_builtin ho hb]
  have h1 : c.argTypes = #[t] := by rw [← Array.toList_inj]; exact hts
  have h2 : c.args = #[x] := by rw [← Array.toList_inj]; exact has
  rw [h1, h2]
  simp [builtin, Builtin.len_, hz, run_und ht, goInt]

theorem tells_lenarr {o : Oper} {c : Call} (ho : o.op = .call c) (hb : c.callee = .builtin .len) {t e : TypeId} {x : Operand} {n : Nat} (hts : c.argTypes.toList = [t]) (has : c.args.toList = [x])
    (ht : P.underlying t = some (.array n e)) : Tells P cx gob I w a.eval o (.int .i64 n) := by
  refine ⟨.int .i64 n, ?_, Val.lit rfl⟩
  rw [run_call_builtin ho hb]
  have h1 : c.argTypes = #[t] := by rw [← Array.toList_inj]; exact hts
  have h2 : c.args = #[x] := by rw [← Array.toList_inj]; exact has
  rw [h1, h2]
  simp [builtin, Builtin.len_, run_und ht, goInt]

theorem foldInt_val {f : Int → Int → Int} {g : Value → Value → Sem Value} (hg : ∀ k x k' y w, (g (.int k x) (.int k' y)).run P w = .ok (.int k (f x y)) w) : ∀ (vs : List AV) (xs : List Value) (k : IntKind) (n : Int) (r : AV),
    Vals cx gob I w vs xs → foldInt.go f k n vs = some r → ∃ x, (xs.foldlM g (.int k n)).run P w = .ok x w ∧ Val cx gob I w r x
  | [], xs, k, n, r, hv, hr => by
    cases hv
    simp only [foldInt.go, Option.some.injEq] at hr; subst hr
    exact ⟨_, rfl, Val.lit rfl⟩
  | v :: vs, xs, k, n, r, hv, hr => by
    cases hv with
    | cons _ x _ xs h1 h2 =>
      cases v with
      | lit v =>
        cases v with
        | int k' m =>
          simp only [foldInt.go] at hr
          rw [h1.lit_inv.1]
          obtain ⟨z, hz, hvz⟩ := foldInt_val hg vs xs k (f n m) r h2 hr
          exact ⟨z, by rw [List.foldlM_cons, Sem.run_bind, hg]; exact hz, hvz⟩
        | _ => simp [foldInt.go] at hr
      | _ => simp [foldInt.go] at hr

theorem tells_fold (hG : GlobOK G cx) (h : Inv cx gob I s a w) {o : Oper} {c : Call} {b : Builtin} (ho : o.op = .call c) (hb : c.callee = .builtin b) {f : Int → Int → Int}
    (hbf : (b = .min ∧ f = fun a b => if b < a then b else a) ∨ (b = .max ∧ f = fun a b => if b > a then b else a)) {ys : List Opr} (hc : cOprs G c.args.toList = some ys) {vs : List AV} (hv : vals s.val ys = some vs) {r : AV}
    (hr : foldInt f vs = some r) : Tells P cx gob I w a.eval o r := by
  have hvals := oprs_vals hG h _ _ _ hc hv
  unfold foldInt at hr
  split at hr
  · rename_i k n vs'
    generalize hxs : c.args.toList.map a.eval = xs at hvals
    cases hvals with
    | cons _ x _ xs' h1 h2 =>
      have h0 := h1.lit_inv.1
      have hargs : (c.args.map a.eval).toList = Value.int k n :: xs' := by rw [Array.toList_map, hxs, h0]
      rcases hbf with ⟨rfl, rfl⟩ | ⟨rfl, rfl⟩
      · obtain ⟨z, hz, hvz⟩ := foldInt_val (P := P) (g := Builtin.min2) (fun k x k' y w => rfl) vs' xs' k n r h2 hr
        refine ⟨z, ?_, hvz⟩
        rw [run_call_builtin ho hb]
        simp only [builtin, Builtin.min_, hargs, Sem.run_bind, hz]; rfl
      · obtain ⟨z, hz, hvz⟩ := foldInt_val (P := P) (g := Builtin.max2) (fun k x k' y w => rfl) vs' xs' k n r h2 hr
        refine ⟨z, ?_, hvz⟩
        rw [run_call_builtin ho hb]
        simp only [builtin, Builtin.max_, hargs, Sem.run_bind, hz]; rfl
  · cases hr

end Go.AM

/- AM, part 11: changes of the store. -/
namespace Go.AM
open GV

def gputLeafs (e : GV) (k : Nat) (xs : List GV) : GV :=
  match e with
  | .agg cs => .agg (cs.take k ++ xs ++ cs.drop (k + xs.length))
  | e => match xs with
    | [x] => x
    | _ => e

/-- A ghost with the node at a path anew. -/
def gmodAt (f : GV → Option GV) : GV → List Stp → Option GV
  | t, [] => f t
  | .sl m fl sz es b off cap, (i, k, _) :: p => match es[i]? with
    | some e => match gleafAt e k with
      | some l => match gmodAt f l p with
        | some l' => some (.sl m fl sz (es.set i (gputLeafs e k [l'])) b off cap)
        | none => none
      | none => none
    | none => none
  | .pt own e b off, (_, k, _) :: p => match gleafAt e k with
    | some l => match gmodAt f l p with
      | some l' => some (.pt own (gputLeafs e k [l']) b off)
      | none => none
    | none => none
  | _, _ :: _ => none

def gmodIn (f : GV → Option GV) (ls : List GV) (k0 : Nat) (p : List Stp) : Option (List GV) :=
  match ls[k0]? with
  | some t => match gmodAt f t p with
    | some t' => some (ls.set k0 t')
    | none => none
  | none => none

theorem gputLeafs_era {e : GV} (k : Nat) (xs : List GV) (h : AM.leafs e.era = (GV.leafs e).map GV.era) (hr : ∀ a v, e ≠ .ref a v) : (gputLeafs e k xs).era = putLeafs e.era k (xs.map GV.era) := by
  cases e with
  | agg cs => simp [gputLeafs, putLeafs, GV.era, eraL_eq]
  | ref a v => exact absurd rfl (hr a v)
  | _ =>
    simp only [gputLeafs, putLeafs, GV.era]
    match xs with
    | [] => rfl
    | [x] => rfl
    | x :: y :: z => rfl

theorem HT.nref {w : World} {I : Nat → Prop} {K : Nat → Nat → Prop} {g : GV} (h : HT w I K g) : ∀ a v, g ≠ .ref a v := by
  cases h <;> simp

theorem gmodAt_era {w : World} {I : Nat → Prop} {K : Nat → Nat → Prop} {f : AV → Option AV} {gf : GV → Option GV} : ∀ (p : List Stp) (g : GV), HT w I K g →
    (∀ n, gnodeAt g p = some n → f n.era = (gf n).map GV.era) → modAt f g.era p = (gmodAt gf g p).map GV.era
  | [], g, _, hf => by simpa [modAt, gmodAt] using hf g rfl
  | (i, k, z) :: p, g, h, hf => by
    cases h with
    | sl m fl sz es b off cap h1 h2 h3 h4 h5 h6 h7 =>
      simp only [GV.era, modAt, gmodAt, eraL_eq, List.getElem?_map]
      cases he : es[i]? with
      | none => rfl
      | some e =>
        have hT := h3 e (List.mem_of_getElem? he)
        simp only [Option.map_some, leafAt, gleafAt, hT.leafs_era, List.getElem?_map]
        cases hl : (GV.leafs e)[k]? with
        | none => rfl
        | some l =>
          have ih := gmodAt_era p l (hT.leaf (List.mem_of_getElem? hl)) (fun n hn => hf n (by simp only [gnodeAt, he, gleafAt, hl]; exact hn))
          simp only [Option.map_some, ih]
          cases hm : gmodAt gf l p with
          | none => rfl
          | some l' => simp [GV.era, eraL_eq, List.map_set, gputLeafs_era k [l'] hT.leafs_era hT.nref]
    | pt o e b off h1 h2 h3 h4 =>
      simp only [GV.era, modAt, gmodAt, leafAt, gleafAt, h2.leafs_era, List.getElem?_map]
      cases hl : (GV.leafs e)[k]? with
      | none => rfl
      | some l =>
        have ih := gmodAt_era p l (h2.leaf (List.mem_of_getElem? hl)) (fun n hn => hf n (by simp only [gnodeAt, gleafAt, hl]; exact hn))
        simp only [Option.map_some, ih]
        cases hm : gmodAt gf l p with
        | none => rfl
        | some l' => simp [GV.era, gputLeafs_era k [l'] h2.leafs_era h2.nref]
    | _ => simp [GV.era, modAt, gmodAt]

theorem gmodIn_era {w : World} {I : Nat → Prop} {K : Nat → Nat → Prop} {f : AV → Option AV} {gf : GV → Option GV} {ls : List GV} (h : ∀ g ∈ ls, HT w I K g) (k0 : Nat) (p : List Stp)
    (hf : ∀ n, gnodeIn ls k0 p = some n → f n.era = (gf n).map GV.era) : modIn f (ls.map GV.era) k0 p = (gmodIn gf ls k0 p).map (List.map GV.era) := by
  unfold modIn gmodIn
  rw [List.getElem?_map]
  cases hk : ls[k0]? with
  | none => rfl
  | some t =>
    have := gmodAt_era (f := f) (gf := gf) p t (h t (List.mem_of_getElem? hk)) (fun n hn => hf n (by simp only [gnodeIn, hk]; exact hn))
    simp only [Option.map_some, this]
    cases gmodAt gf t p with
    | none => rfl
    | some t' => simp [List.map_set]

theorem ownL_append (l l' : List GV) : own.ownL (l ++ l') = own.ownL l ++ own.ownL l' := by
  simp [ownL_eq]

theorem ownL_take_drop {l : List GV} {k : Nat} {x : GV} (h : l[k]? = some x) : l = l.take k ++ x :: l.drop (k + 1) := by
  have hk : k < l.length := by
    rcases Nat.lt_or_ge k l.length with h' | h'
    · exact h'
    · rw [List.getElem?_eq_none h'] at h; cases h
  rw [List.getElem?_eq_getElem hk, Option.some.injEq] at h
  subst h
  rw [← List.drop_eq_getElem_cons hk, List.take_append_drop]

theorem ownL_set {l : List GV} {k : Nat} {x : GV} (h : l[k]? = some x) (y : GV) : ∃ rest, (own.ownL l).Perm (x.own ++ rest) ∧ (own.ownL (l.set k y)).Perm (y.own ++ rest) ∧
    ∀ j z, l[j]? = some z → j ≠ k → ∀ b ∈ z.own, b ∈ rest := by
  have hl := ownL_take_drop h
  have hk : k < l.length := by
    rcases Nat.lt_or_ge k l.length with h' | h'
    · exact h'
    · rw [List.getElem?_eq_none h'] at h; cases h
  refine ⟨own.ownL (l.take k) ++ own.ownL (l.drop (k + 1)), ?_, ?_, ?_⟩
  · conv => lhs; rw [hl]
    rw [ownL_append]
    simp only [GV.own.ownL]
    rw [← List.append_assoc, ← List.append_assoc]
    exact List.Perm.append_right _ List.perm_append_comm
  · rw [List.set_eq_take_append_cons_drop, if_pos hk, ownL_append]
    simp only [GV.own.ownL]
    rw [← List.append_assoc, ← List.append_assoc]
    exact List.Perm.append_right _ List.perm_append_comm
  · intro j z hj hjk b hb
    simp only [ownL_eq, List.mem_append, List.mem_flatMap]
    rcases Nat.lt_or_ge j k with h' | h'
    · refine .inl ⟨z, List.mem_of_getElem? (i := j) ?_, hb⟩
      rw [List.getElem?_take, if_pos h']; exact hj
    · refine .inr ⟨z, List.mem_of_getElem? (i := j - (k + 1)) ?_, hb⟩
      rw [List.getElem?_drop, show k + 1 + (j - (k + 1)) = j by omega]; exact hj

theorem leafs_gput {e : GV} {k : Nat} {l l' : GV} (h : gleafAt e k = some l) (hl' : l'.leafy = true) : GV.leafs (gputLeafs e k [l']) = (GV.leafs e).set k l' := by
  cases e with
  | agg cs =>
    simp only [gleafAt, GV.leafs] at h
    have hk : k < cs.length := by
      rcases Nat.lt_or_ge k cs.length with h' | h'
      · exact h'
      · rw [List.getElem?_eq_none h'] at h; cases h
    simp only [gputLeafs, GV.leafs, List.length_singleton]
    rw [List.set_eq_take_append_cons_drop, if_pos hk]
    simp
  | _ =>
    simp only [gleafAt, GV.leafs] at h
    have : k = 0 := by
      rcases k with _ | k
      · rfl
      · simp at h
    subst this
    simp only [gputLeafs, GV.leafs, List.set_cons_zero]
    cases l' <;> simp [GV.leafy] at hl' <;> rfl

theorem own_leafs (e : GV) (hr : ∀ vs, e ≠ .tup vs) : e.own = own.ownL (GV.leafs e) := by
  cases e <;> simp [GV.own, GV.leafs, GV.own.ownL]

theorem HT.ntup {w : World} {I : Nat → Prop} {K : Nat → Nat → Prop} {g : GV} (h : HT w I K g) : ∀ vs, g ≠ .tup vs := by
  cases h <;> simp

theorem HT.gput {w w' : World} {I I' : Nat → Prop} {K : Nat → Nat → Prop} {e l l' : GV} {k : Nat} (h : HT w I K e) (hl : gleafAt e k = some l) (hl' : l'.leafy = true) (hT' : HT w' I' K l')
    (ho : ∀ c ∈ GV.leafs e, ∀ j, (GV.leafs e)[j]? = some c → j ≠ k → HT w' I' K c) : HT w' I' K (gputLeafs e k [l']) := by
  cases e with
  | agg cs =>
    have hlf := leafs_gput hl hl'
    simp only [gputLeafs, List.length_singleton] at hlf ⊢
    simp only [GV.leafs] at hlf
    rw [hlf]
    refine .agg _ (fun c hc => ?_) (fun c hc => ?_)
    · obtain ⟨j, hj⟩ := List.mem_iff_getElem?.1 hc
      rw [List.getElem?_set] at hj
      split at hj
      · split at hj
        · simp only [Option.some.injEq] at hj; subst hj; exact hT'
        · cases hj
      · rename_i hjk
        exact ho c (List.mem_of_getElem? hj) j hj (fun e => hjk e.symm)
    · rcases List.mem_or_eq_of_mem_set hc with hc | rfl
      · exact h.leafy hc
      · exact hl'
  | _ => simp only [gputLeafs]; exact hT'



theorem cells_gput {w w' : World} {b off sz : Nat} {es : List GV} (h : Cells w b off sz es) {i k : Nat} {e l l' : GV} (he : es[i]? = some e) (hl : gleafAt e k = some l) (hl' : l'.leafy = true) (hcv : l'.cv = l.cv)
    (hb : w'.heap[b]? = w.heap[b]?) : Cells w' b off sz (es.set i (gputLeafs e k [l'])) := by
  have cell : ∀ o, w'.cell? ⟨b, o, none⟩ = w.cell? ⟨b, o, none⟩ := fun o => by simp only [World.cell?]; rw [hb]
  intro j x hj
  rw [List.getElem?_set] at hj
  split at hj
  · rename_i hij
    subst hij
    split at hj
    · simp only [Option.some.injEq] at hj; subst hj
      rw [leafs_gput hl hl']
      refine ⟨by rw [List.length_set]; exact (h i e he).1, fun q y hq => ?_⟩
      rw [List.getElem?_set] at hq
      rw [cell]
      split at hq
      · rename_i hkq
        subst hkq
        split at hq
        · simp only [Option.some.injEq] at hq; subst hq
          rw [hcv]; exact (h i e he).2 k l hl
        · cases hq
      · exact (h i e he).2 q y hq
    · cases hj
  · exact ⟨(h j x hj).1, fun q y hq => by rw [cell]; exact (h j x hj).2 q y hq⟩

/-- **A tree with one node anew**: what stands beside the node stays. -/
theorem gmod_main {w w' : World} {I I' : Nat → Prop} {K : Nat → Nat → Prop} {f : GV → Option GV} (hI : ∀ b, I b → I' b ∧ w'.heap[b]? = w.heap[b]?) : ∀ (p : List Stp) (g g' n n' : GV), HT w I K g →
    gnodeAt g p = some n → gmodAt f g p = some g' → f n = some n' → n'.cv = n.cv → n'.leafy = true → n.leafy = true → (n.own = [] → n'.own = []) →
    ∃ rest, g.own.Perm (n.own ++ rest) ∧ g'.own.Perm (n'.own ++ rest) ∧ g'.cv = g.cv ∧ g'.leafy = true ∧ ((∀ b ∈ rest, w'.heap[b]? = w.heap[b]?) → HT w' I' K n' → HT w' I' K g')
  | [], g, g', n, n', h, hn, hm, hf, hcv, hl', hl, ho => by
    simp only [gnodeAt, Option.some.injEq] at hn; subst hn
    simp only [gmodAt, hf, Option.some.injEq] at hm; subst hm
    exact ⟨[], by simp, by simp, hcv, hl', fun _ h => h⟩
  | (i, k, z) :: p, g, g', n, n', h, hn, hm, hf, hcv, hl', hl, ho => by
    cases h with
    | sl m fl sz es b off cap h1 h2 h3 h4 h5 h6 h7 =>
      simp only [gnodeAt] at hn
      simp only [gmodAt] at hm
      cases he : es[i]? with
      | none => simp [he] at hn
      | some e =>
        simp only [he] at hn hm
        cases hle : gleafAt e k with
        | none => simp [hle] at hn
        | some l =>
          simp only [hle] at hn hm
          cases hml : gmodAt f l p with
          | none => simp [hml] at hm
          | some l' =>
            simp only [hml, Option.some.injEq] at hm; subst hm
            have hTe := h3 e (List.mem_of_getElem? he)
            have hmeml : l ∈ GV.leafs e := List.mem_of_getElem? hle
            obtain ⟨r3, k1, k2, k3, k4, k5⟩ := gmod_main hI p l l' n n' (hTe.leaf hmeml) hn hml hf hcv hl' hl ho
            obtain ⟨r1, e1, e2, e3⟩ := ownL_set he (gputLeafs e k [l'])
            obtain ⟨r2, f1, f2, f3⟩ := ownL_set (l := GV.leafs e) hle l'
            have hoe : e.own = own.ownL (GV.leafs e) := own_leafs e hTe.ntup
            have hoe' : (gputLeafs e k [l']).own = own.ownL ((GV.leafs e).set k l') := by
              rw [← leafs_gput hle k4]
              refine own_leafs _ ?_
              cases e <;> simp only [gputLeafs] <;> intro vs hv <;> simp_all [GV.leafy]
            have P1 : (own.ownL es).Perm (n.own ++ (r3 ++ (r2 ++ r1))) := by
              refine e1.trans ?_
              rw [hoe]
              refine (f1.append_right r1).trans ?_
              refine ((k1.append_right r2).append_right r1).trans ?_
              simp [List.append_assoc]
            have P2 : (own.ownL (es.set i (gputLeafs e k [l']))).Perm (n'.own ++ (r3 ++ (r2 ++ r1))) := by
              refine e2.trans ?_
              rw [hoe']
              refine (f2.append_right r1).trans ?_
              refine ((k2.append_right r2).append_right r1).trans ?_
              simp [List.append_assoc]
            have build : ∀ rest : List Nat, (∀ b' ∈ r3 ++ (r2 ++ r1), b' ∈ rest) → (ownM m = true → b ∈ rest) → (∀ b' ∈ rest, w'.heap[b']? = w.heap[b']?) → HT w' I' K n' →
                HT w' I' K (.sl m fl sz (es.set i (gputLeafs e k [l'])) b off cap) := by
              intro rest hr hbr hh hT'
              have hb : w'.heap[b]? = w.heap[b]? := by
                cases hom : ownM m with
                | true => exact hh b (hbr hom)
                | false => exact (hI b (h4 hom).1).2
              have hmine : ∀ top, Mine w b top → Mine w' b top := fun top ⟨arr, T, ha, hs⟩ => ⟨arr, T, by rw [hb]; exact ha, hs⟩
              have hTl' : HT w' I' K l' := k5 (fun b' hb' => hh b' (hr b' (by simp [hb']))) hT'
              have hTe' : HT w' I' K (gputLeafs e k [l']) := hTe.gput hle k4 hTl' (fun c hc j hj hjk => (hTe.leaf hc).mono hI (fun _ _ _ h => h) (fun b' hb' => hh b' (hr b' (by simp [f3 j c hj hjk b' hb']))))
              refine .sl m fl sz _ b off cap (by rw [List.length_set]; exact h1) (cells_gput h2 he hle k4 k3 hb) (fun x hx => ?_) (fun hom => ⟨(hI b (h4 hom).1).1, ?_⟩) (fun hm => by rw [List.length_set]; exact h5 hm)
                (fun hm => ⟨hmine _ (h6 hm).1, (h6 hm).2⟩) (fun hm => by rw [List.length_set]; exact ⟨hmine _ (h7 hm).1, (h7 hm).2⟩)
              · obtain ⟨j, hj⟩ := List.mem_iff_getElem?.1 hx
                rw [List.getElem?_set] at hj
                split at hj
                · split at hj
                  · simp only [Option.some.injEq] at hj; subst hj; exact hTe'
                  · cases hj
                · rename_i hij
                  exact (h3 x (List.mem_of_getElem? hj)).mono hI (fun _ _ _ h => h) (fun b' hb' => hh b' (hr b' (by simp [e3 j x hj (fun e => hij e.symm) b' hb'])))
              · have hnil := (h4 hom).2
                have : n.own ++ (r3 ++ (r2 ++ r1)) = [] := List.Perm.eq_nil (hnil ▸ P1.symm)
                simp only [List.append_eq_nil_iff] at this
                have h' := ho this.1
                refine List.Perm.eq_nil (P2.trans ?_)
                simp [h', this.2]
            cases hom : ownM m with
            | true =>
              refine ⟨b :: (r3 ++ (r2 ++ r1)), ?_, ?_, ?_, rfl, fun hh hT' => build _ (fun b' hb' => by simp [hb']) (fun _ => by simp) hh hT'⟩
              · simp only [GV.own, hom, if_true]
                exact (P1.cons b).trans List.perm_middle.symm
              · simp only [GV.own, hom, if_true]
                exact (P2.cons b).trans List.perm_middle.symm
              · simp [GV.cv, lenL_eq]
            | false =>
              refine ⟨r3 ++ (r2 ++ r1), ?_, ?_, ?_, rfl, fun hh hT' => build _ (fun b' hb' => hb') (fun h => by rw [hom] at h; cases h) hh hT'⟩
              · simp only [GV.own, hom, Bool.false_eq_true, if_false]; exact P1
              · simp only [GV.own, hom, Bool.false_eq_true, if_false]; exact P2
              · simp [GV.cv, lenL_eq]
    | pt ow e b off h1 h2 h3 h4 =>
      simp only [gnodeAt] at hn
      simp only [gmodAt] at hm
      cases hle : gleafAt e k with
      | none => simp [hle] at hn
      | some l =>
        simp only [hle] at hn hm
        cases hml : gmodAt f l p with
        | none => simp [hml] at hm
        | some l' =>
          simp only [hml, Option.some.injEq] at hm; subst hm
          have hmeml : l ∈ GV.leafs e := List.mem_of_getElem? hle
          obtain ⟨r3, k1, k2, k3, k4, k5⟩ := gmod_main hI p l l' n n' (h2.leaf hmeml) hn hml hf hcv hl' hl ho
          obtain ⟨r2, f1, f2, f3⟩ := ownL_set (l := GV.leafs e) hle l'
          have hoe : e.own = own.ownL (GV.leafs e) := own_leafs e h2.ntup
          have hlg := leafs_gput hle k4
          have hoe' : (gputLeafs e k [l']).own = own.ownL ((GV.leafs e).set k l') := by
            rw [← hlg]
            refine own_leafs _ ?_
            cases e <;> simp only [gputLeafs] <;> intro vs hv <;> simp_all [GV.leafy]
          have P1 : e.own.Perm (n.own ++ (r3 ++ r2)) := by
            rw [hoe]
            refine f1.trans ((k1.append_right r2).trans ?_)
            simp [List.append_assoc]
          have P2 : (gputLeafs e k [l']).own.Perm (n'.own ++ (r3 ++ r2)) := by
            rw [hoe']
            refine f2.trans ((k2.append_right r2).trans ?_)
            simp [List.append_assoc]
          have build : ∀ rest : List Nat, (∀ b' ∈ r3 ++ r2, b' ∈ rest) → (ow = true → b ∈ rest) → (∀ b' ∈ rest, w'.heap[b']? = w.heap[b']?) → HT w' I' K n' → HT w' I' K (.pt ow (gputLeafs e k [l']) b off) := by
            intro rest hr hbr hh hT'
            have hb : w'.heap[b]? = w.heap[b]? := by
              cases hom : ow with
              | true => exact hh b (hbr hom)
              | false => exact (hI b (h3 hom).1).2
            have cell : ∀ o, w'.cell? ⟨b, o, none⟩ = w.cell? ⟨b, o, none⟩ := fun o => by simp only [World.cell?]; rw [hb]
            have hTl' : HT w' I' K l' := k5 (fun b' hb' => hh b' (hr b' (by simp [hb']))) hT'
            have hTe' : HT w' I' K (gputLeafs e k [l']) := h2.gput hle k4 hTl' (fun c hc j hj hjk => (h2.leaf hc).mono hI (fun _ _ _ h => h) (fun b' hb' => hh b' (hr b' (by simp [f3 j c hj hjk b' hb']))))
            refine .pt ow _ b off (fun q y hq => ?_) hTe' (fun hom => ⟨(hI b (h3 hom).1).1, ?_⟩) (fun hom => ?_)
            · rw [hlg, List.getElem?_set] at hq
              rw [cell]
              split at hq
              · rename_i hkq
                subst hkq
                split at hq
                · simp only [Option.some.injEq] at hq; subst hq
                  rw [k3]; exact h1 k l hle
                · cases hq
              · exact h1 q y hq
            · have hnil := (h3 hom).2
              have : n.own ++ (r3 ++ r2) = [] := List.Perm.eq_nil (hnil ▸ P1.symm)
              simp only [List.append_eq_nil_iff] at this
              have h' := ho this.1
              refine List.Perm.eq_nil (P2.trans ?_)
              simp [h', this.2]
            · obtain ⟨⟨arr, T, ha, hs⟩, hk⟩ := h4 hom
              rw [hlg, List.length_set]
              exact ⟨⟨arr, T, by rw [hb]; exact ha, hs⟩, hk⟩
          cases hom : ow with
          | true =>
            subst hom
            refine ⟨b :: (r3 ++ r2), ?_, ?_, rfl, rfl, fun hh hT' => build _ (fun b' hb' => by simp [hb']) (fun _ => by simp) hh hT'⟩
            · simp only [GV.own, if_true]
              exact (P1.cons b).trans List.perm_middle.symm
            · simp only [GV.own, if_true]
              exact (P2.cons b).trans List.perm_middle.symm
          | false =>
            subst hom
            refine ⟨r3 ++ r2, ?_, ?_, rfl, rfl, fun hh hT' => build _ (fun b' hb' => hb') (fun h => by cases h) hh hT'⟩
            · simp only [GV.own, Bool.false_eq_true, if_false]; exact P1
            · simp only [GV.own, Bool.false_eq_true, if_false]; exact P2
    | _ => simp [gnodeAt] at hn

end Go.AM

/- AM, part 12: the store, one change behind the other. -/
namespace Go.AM
open GV

def upd (gob : Nat → List GV) (o : Nat) (ls : List GV) : Nat → List GV := fun x => if x = o then ls else gob x

theorem upd_same (gob : Nat → List GV) (o : Nat) (ls : List GV) : upd gob o ls o = ls := by simp [upd]
theorem upd_other (gob : Nat → List GV) {o x : Nat} (ls : List GV) (h : x ≠ o) : upd gob o ls x = gob x := by simp [upd, h]

/-- **One object anew**, what stands nowhere anew, and the world with them. -/
theorem StoF.step {cx : Cx} {gob : Nat → List GV} {fl : List GV} {I : Nat → Prop} {w : World} (h : StoF cx gob fl I w) (o : Nat) (ls fl' : List GV) (I' : Nat → Prop) (w' : World)
    (hnod : (own.ownL ls ++ own.ownL fl').Nodup)
    (hsub : ∀ b ∈ own.ownL ls ++ own.ownL fl', b ∈ own.ownL (gob o) ++ own.ownL fl ∨ w.heap.size ≤ b)
    (hls : ∀ g ∈ ls, HT w' I' cx.K g) (hfl : ∀ g ∈ fl', HT w' I' cx.K g)
    (hI : ∀ b, I b → I' b ∧ w'.heap[b]? = w.heap[b]?)
    (hI' : ∀ b, I' b → I b ∨ ((b ∈ own.ownL (gob o) ++ own.ownL fl ∨ w.heap.size ≤ b) ∧ b < w'.heap.size ∧ b ∉ own.ownL ls ++ own.ownL fl'))
    (hh : ∀ b, b < w.heap.size → b ∉ own.ownL (gob o) ++ own.ownL fl → w'.heap[b]? = w.heap[b]?)
    (hk : ∀ b j, cx.K b j → w'.cell? ⟨b, j, none⟩ = w.cell? ⟨b, j, none⟩)
    (hos : w'.os = w.os) (htp : w'.tape = w.tape) (hout : w'.output = w.output) (hsz : w.heap.size ≤ w'.heap.size) : StoF cx (upd gob o ls) fl' I' w' := by
  have hlt : ∀ x b, b ∈ own.ownL (gob x) → b < w.heap.size := fun x b hb => by
    rw [ownL_eq] at hb
    obtain ⟨g, hg, hb⟩ := List.mem_flatMap.1 hb
    exact (h.hol x g hg).lt b hb
  have hflt : ∀ b, b ∈ own.ownL fl → b < w.heap.size := fun b hb => by
    rw [ownL_eq] at hb
    obtain ⟨g, hg, hb⟩ := List.mem_flatMap.1 hb
    exact (h.fhol g hg).lt b hb
  have hnew : ∀ b ∈ own.ownL ls ++ own.ownL fl', (b ∈ own.ownL (gob o) ∨ b ∈ own.ownL fl) ∨ w.heap.size ≤ b := fun b hb => by
    rcases hsub b hb with h' | h'
    · exact .inl (List.mem_append.1 h')
    · exact .inr h'
  have hout' : ∀ x, x ≠ o → ∀ b, b ∈ own.ownL (gob x) → b ∉ own.ownL ls ++ own.ownL fl' := fun x hx b hb hm => by
    rcases hnew b hm with (h' | h') | h'
    · exact h.dis x o b hx hb h'
    · exact h.fdis x b h' hb
    · have := hlt x b hb; omega
  have horg : ∀ b ∈ own.ownL ls ++ own.ownL fl', b ∈ cx.bs0 ∨ cx.w0.heap.size ≤ b := fun b hb => by
    rcases hnew b hb with (h' | h') | h'
    · exact h.org o b h'
    · exact h.forg b h'
    · exact .inr (Nat.le_trans h.size h')
  have hother : ∀ x, x ≠ o → ∀ b, b ∈ own.ownL (gob x) → w'.heap[b]? = w.heap[b]? := fun x hx b hb => hh b (hlt x b hb) (fun hm => by
    rcases List.mem_append.1 hm with h' | h'
    · exact h.dis x o b hx hb h'
    · exact h.fdis x b h' hb)
  have hnInew : ∀ b ∈ own.ownL ls ++ own.ownL fl', ¬ I' b := fun b hb hi => by
    rcases hI' b hi with h' | ⟨_, _, h'⟩
    · rcases hnew b hb with (k | k) | k
      · exact h.nI o b k h'
      · exact h.fnI b k h'
      · have := h.Ilt b h'; omega
    · exact h' hb
  have hnd := List.nodup_append.1 hnod
  refine ⟨fun x => ?_, fun x y b hxy hb hb' => ?_, fun x g hg => ?_, fun x b hb => ?_, hnd.2.1, fun x b hb hb' => ?_, hfl, fun b hb => hnInew b (by simp [hb]), fun b hb => horg b (by simp [hb]), fun b hb => ?_,
    fun x b hb => ?_, fun b hb => ?_, fun b hb => (hI b (h.I0I b hb)).1, fun b hb hb' => ?_, fun b j hkj => (hk b j hkj).trans (h.kpt b j hkj), h.Kold, fun b hb => (hI b (h.I0I b hb)).2.trans (h.I0h b hb),
    hos.trans h.os, htp.trans h.tape, hout.trans h.output, Nat.le_trans h.size hsz⟩
  · by_cases hx : x = o
    · subst hx; rw [upd_same]; exact hnd.1
    · rw [upd_other _ _ hx]; exact h.nod x
  · by_cases hx : x = o
    · subst hx
      rw [upd_same] at hb
      rw [upd_other _ _ (Ne.symm hxy)] at hb'
      exact hout' y (Ne.symm hxy) b hb' (by simp [hb])
    · rw [upd_other _ _ hx] at hb
      by_cases hy : y = o
      · subst hy
        rw [upd_same] at hb'
        exact hout' x hx b hb (by simp [hb'])
      · rw [upd_other _ _ hy] at hb'
        exact h.dis x y b hxy hb hb'
  · by_cases hx : x = o
    · subst hx; rw [upd_same] at hg; exact hls g hg
    · rw [upd_other _ _ hx] at hg
      have hmem : ∀ b ∈ g.own, b ∈ own.ownL (gob x) := fun b hb => by rw [ownL_eq]; exact List.mem_flatMap.2 ⟨g, hg, hb⟩
      exact (h.hol x g hg).mono hI (fun _ _ _ hk => hk) (fun b hb => hother x hx b (hmem b hb))
  · by_cases hx : x = o
    · subst hx; rw [upd_same] at hb; exact hnInew b (by simp [hb])
    · rw [upd_other _ _ hx] at hb
      intro hi
      rcases hI' b hi with h' | ⟨h' | h', _, _⟩
      · exact h.nI x b hb h'
      · rcases List.mem_append.1 h' with k | k
        · exact h.dis x o b hx hb k
        · exact h.fdis x b k hb
      · have := hlt x b hb; omega
  · by_cases hx : x = o
    · subst hx; rw [upd_same] at hb'; exact hnd.2.2 b hb' b hb rfl
    · rw [upd_other _ _ hx] at hb'
      exact hout' x hx b hb' (by simp [hb])
  · rcases hI' b hb with h' | ⟨_, h', _⟩
    · exact Nat.lt_of_lt_of_le (h.Ilt b h') hsz
    · exact h'
  · by_cases hx : x = o
    · subst hx; rw [upd_same] at hb; exact horg b (by simp [hb])
    · rw [upd_other _ _ hx] at hb; exact h.org x b hb
  · rcases hI' b hb with h' | ⟨h' | h', _, _⟩
    · exact h.Iorg b h'
    · rcases List.mem_append.1 h' with k | k
      · exact .inr (h.org o b k)
      · exact .inr (h.forg b k)
    · exact .inr (.inr (Nat.le_trans h.size h'))
  · refine (hh b (Nat.lt_of_lt_of_le hb h.size) (fun hm => ?_)).trans (h.frm b hb hb')
    rcases List.mem_append.1 hm with k | k
    · rcases h.org o b k with k' | k'
      · exact hb' k'
      · omega
    · rcases h.forg b k with k' | k'
      · exact hb' k'
      · omega

/-- Two nodes that stand at one place. -/
inductive Alike : GV → GV → Prop where
  | sl (m m' : Nat) (fl fl' : Bool) (sz : Nat) (es es' : List GV) (b off cap : Nat) : es'.length = es.length → Alike (.sl m fl sz es b off cap) (.sl m' fl' sz es' b off cap)
  | pt (o o' : Bool) (e e' : GV) (b off : Nat) : Alike (.pt o e b off) (.pt o' e' b off)

def isNode : GV → Bool
  | .sl .. | .pt .. => true
  | _ => false

theorem Alike.refl {g : GV} (h : isNode g = true) : Alike g g := by
  cases g <;> simp [isNode] at h
  · exact .sl _ _ _ _ _ _ _ _ _ _ rfl
  · exact .pt _ _ _ _ _ _

/-- Which references are still right. -/
def Pres (gob gob' : Nat → List GV) (kl : List Kl) : Prop :=
  ∀ o k0 p n, gnodeIn (gob o) k0 p = some n → isNode n = true → kl.any (·.hits o k0 p) = false → ∃ n', gnodeIn (gob' o) k0 p = some n' ∧ Alike n n'

theorem Pres.refl (gob : Nat → List GV) (kl : List Kl) : Pres gob gob kl := fun _ _ _ n h hn _ => ⟨n, h, Alike.refl hn⟩

theorem Alike.isNode {g g' : GV} (h : Alike g g') : AM.isNode g' = true := by cases h <;> rfl

theorem Alike.trans {a b c : GV} (h : Alike a b) (k : Alike b c) : Alike a c := by
  cases h with
  | sl _ _ _ _ _ _ _ _ _ _ h1 => cases k with
    | sl _ _ _ _ _ _ _ _ _ _ h2 => exact .sl _ _ _ _ _ _ _ _ _ _ (h2.trans h1)
  | pt => cases k; exact .pt _ _ _ _ _ _

theorem Pres.trans {g1 g2 g3 : Nat → List GV} {k1 k2 : List Kl} (h : Pres g1 g2 k1) (k : Pres g2 g3 k2) : Pres g1 g3 (k2 ++ k1) := by
  intro o k0 p n hn hnode hk
  simp only [List.any_append, Bool.or_eq_false_iff] at hk
  obtain ⟨n1, h1, a1⟩ := h o k0 p n hn hnode hk.2
  obtain ⟨n2, h2, a2⟩ := k o k0 p n1 h1 a1.isNode hk.1
  exact ⟨n2, h2, a1.trans a2⟩

theorem Pres.weaken {g1 g2 : Nat → List GV} {k1 k2 : List Kl} (h : Pres g1 g2 k1) (hk : ∀ x ∈ k1, x ∈ k2) : Pres g1 g2 k2 := by
  intro o k0 p n hn hnode hk2
  refine h o k0 p n hn hnode ?_
  rw [List.any_eq_false] at hk2 ⊢
  exact fun x hx => hk2 x (hk x hx)

theorem Pres.ref {gob gob' : Nat → List GV} {kl : List Kl} (h : Pres gob gob' kl) {a : AV} {v : Value} (hr : RefOK gob a v) (hk : ∀ r ∈ refs a, kl.any (·.hits r.o r.k0 r.p) = false) : RefOK gob' a v := by
  cases hr with
  | s o k0 p off n m fl sz es b off0 cap0 cap h1 h2 h3 h4 =>
    obtain ⟨n', hn', ha⟩ := h o k0 p _ h1 rfl (hk ⟨o, k0, p⟩ (by simp [refs]))
    cases ha with
    | sl _ m' _ fl' _ _ es' _ _ _ hl => exact .s o k0 p off n m' fl' sz es' b off0 cap0 cap hn' (by omega) h3 h4
  | ps o k0 p i k m fl sz es b off0 cap0 h1 h2 =>
    obtain ⟨n', hn', ha⟩ := h o k0 p _ h1 rfl (hk ⟨o, k0, p⟩ (by simp [refs]))
    cases ha with
    | sl _ m' _ fl' _ _ es' _ _ _ hl => exact .ps o k0 p i k m' fl' sz es' b off0 cap0 hn' (by omega)
  | pp o k0 p k ow e b off0 h1 =>
    obtain ⟨n', hn', ha⟩ := h o k0 p _ h1 rfl (hk ⟨o, k0, p⟩ (by simp [refs]))
    cases ha with
    | pt _ o' _ e' _ _ => exact .pp o k0 p k o' e' b off0 hn'

theorem Pres.upd {gob : Nat → List GV} {o : Nat} {ls : List GV} {kl : List Kl}
    (h : ∀ k0 p n, gnodeIn (gob o) k0 p = some n → isNode n = true → kl.any (·.hits o k0 p) = false → ∃ n', gnodeIn ls k0 p = some n' ∧ Alike n n') : Pres gob (AM.upd gob o ls) kl := by
  intro x k0 p n hn hnode hk
  by_cases hx : x = o
  · subst hx; rw [upd_same]; exact h k0 p n hn hnode hk
  · rw [upd_other _ _ hx]; exact ⟨n, hn, Alike.refl hnode⟩

/-- The changes say what the ghosts are. -/
def ChEra (gob0 : Nat → List GV) (c : Ch) (gob : Nat → List GV) : Prop := ∀ o, (c.get o).getD ((gob0 o).map GV.era) = (gob o).map GV.era

theorem ChEra.refl (gob : Nat → List GV) : ChEra gob [] gob := fun _ => rfl

theorem ChEra.cons {gob0 gob : Nat → List GV} {c : Ch} (h : ChEra gob0 c gob) (o : Nat) (ls : List GV) : ChEra gob0 ((o, ls.map GV.era) :: c) (upd gob o ls) := by
  intro x
  simp only [Ch.get]
  by_cases hx : x = o
  · subst hx; simp [upd_same]
  · have : (o == x) = false := by simp; omega
    simp only [this, Bool.false_eq_true, if_false, upd_other _ _ hx]
    exact h x

theorem run_askC {gob0 gob : Nat → List GV} {c : Ch} (h : ChEra gob0 c gob) {ob : Nat → List AV} (he : ∀ o, ob o = (gob0 o).map GV.era) (o : Nat) (r : List Nat) :
    ∃ r', (askC c o).run ob r = some ((gob o).map GV.era, r') := by
  have := h o
  unfold askC
  cases hc : c.get o with
  | some l =>
    simp only [hc, Option.getD_some] at this
    exact ⟨r, by simp [Lk.run, this]⟩
  | none =>
    simp only [hc, Option.getD_none] at this
    exact ⟨o :: r, by simp [Lk.run, he, this]⟩

/-- A change of the store under way. -/
structure Way (cx : Cx) (gob0 : Nat → List GV) (I0 : Nat → Prop) (w0 : World) (gob : Nat → List GV) (fl : List GV) (I : Nat → Prop) (w : World) (c : Ch) (kl : List Kl) : Prop where
  sto : StoF cx gob fl I w
  era : ChEra gob0 c gob
  pre : Pres gob0 gob kl
  imm : ∀ b, I0 b → I b ∧ w.heap[b]? = w0.heap[b]?
  size : w0.heap.size ≤ w.heap.size

theorem Way.start {cx : Cx} {gob : Nat → List GV} {I : Nat → Prop} {w : World} (h : Sto cx gob I w) : Way cx gob I w gob [] I w [] [] :=
  ⟨h, ChEra.refl _, Pres.refl _ _, fun _ hb => ⟨hb, rfl⟩, Nat.le_refl _⟩

/-- What a change has come to, if nothing stands nowhere. -/
theorem Way.post {cx : Cx} {gob0 gob : Nat → List GV} {I0 I : Nat → Prop} {w0 w : World} {c : Ch} {kl : List Kl} (h : Way cx gob0 I0 w0 gob [] I w c kl) {v : AV} {x : Value} (hv : Val cx gob I w v x) :
    OpPost cx gob0 I0 w0 { v := v, ch := c, kl := kl } x w gob I :=
  ⟨h.era, h.sto, h.imm, fun _ _ hr hk => h.pre.ref hr hk, hv⟩

/-- Values from before a change, where none of their references died. -/
theorem Way.val {cx : Cx} {gob0 gob : Nat → List GV} {I0 I : Nat → Prop} {w0 w : World} {fl : List GV} {c : Ch} {kl : List Kl} (h : Way cx gob0 I0 w0 gob fl I w c kl) {v : AV} {x : Value} (hv : Val cx gob0 I0 w0 v x)
    (hk : AM.kill kl v = v) : Val cx gob I w v x := by
  have := hv.kill kl h.imm (fun _ _ hr hk => h.pre.ref hr hk)
  rwa [hk] at this

end Go.AM

/- AM, part 13: what is frozen, and what is told without references. -/
namespace Go.AM
open GV

def gfrz : GV → GV
  | .agg cs => .agg (gfrzL cs)
  | .tup cs => .tup (gfrzL cs)
  | .fn f a b => .fn f (gfrzL a) (gfrzL b)
  | .sl m fl sz es b off cap => .sl (if m == 2 then 2 else 0) fl sz (gfrzL es) b off cap
  | .nl m fl sz => .nl (if m == 2 then 2 else 0) fl sz
  | .pt _ e b off => .pt false (gfrz e) b off
  | e => e
  where gfrzL : List GV → List GV
  | [] => []
  | e :: es => gfrz e :: gfrzL es

theorem gfrzL_eq (l : List GV) : gfrz.gfrzL l = l.map gfrz := by
  induction l with
  | nil => rfl
  | cons a l ih => simp [gfrz.gfrzL, ih]

theorem frzL_eq (l : List AV) : frz.frzL l = l.map frz := by
  induction l with
  | nil => rfl
  | cons a l ih => simp [frz.frzL, ih]

theorem HT.frz_era {w : World} {I : Nat → Prop} {K : Nat → Nat → Prop} {g : GV} (h : HT w I K g) : (gfrz g).era = frz g.era := by
  induction h with
  | agg cs _ _ ih =>
    simp only [gfrz, GV.era, frz, gfrzL_eq, frzL_eq, eraL_eq, List.map_map]
    congr 1
    exact List.map_congr_left fun c hc => ih c hc
  | fn f a b _ _ _ _ iha ihb =>
    simp only [gfrz, GV.era, frz, gfrzL_eq, frzL_eq, eraL_eq, List.map_map]
    congr 1
    · exact List.map_congr_left fun c hc => iha c hc
    · exact List.map_congr_left fun c hc => ihb c hc
  | sl m fl sz es b off cap _ _ _ _ _ _ _ ih =>
    simp only [gfrz, GV.era, frz, gfrzL_eq, frzL_eq, eraL_eq, List.map_map]
    congr 1
    exact List.map_congr_left fun c hc => ih c hc
  | nl m fl sz _ => simp [gfrz, GV.era, frz, frz.frzL]
  | pt o e b off _ _ _ _ ih => simp only [gfrz, GV.era, frz, ih]
  | _ => simp [gfrz, GV.era, frz]

theorem HT.frz_cv {w : World} {I : Nat → Prop} {K : Nat → Nat → Prop} {g : GV} (h : HT w I K g) : (gfrz g).cv = g.cv := by
  induction h with
  | agg cs _ _ ih =>
    simp only [gfrz, GV.cv, gfrzL_eq, cvL_eq, List.map_map]
    congr 2
    exact List.map_congr_left fun c hc => ih c hc
  | fn f a b _ _ _ _ iha ihb =>
    simp only [gfrz, GV.cv, gfrzL_eq, cvL_eq, List.map_map]
    congr 2
    · exact List.map_congr_left fun c hc => iha c hc
    · exact List.map_congr_left fun c hc => ihb c hc
  | sl m fl sz es b off cap _ _ _ _ _ _ _ ih => simp [gfrz, GV.cv, gfrzL_eq, lenL_eq]
  | _ => simp [gfrz, GV.cv]

theorem HT.frz_own {w : World} {I : Nat → Prop} {K : Nat → Nat → Prop} {g : GV} (h : HT w I K g) : (gfrz g).own = [] := by
  induction h with
  | agg cs _ _ ih => simp only [gfrz, GV.own, gfrzL_eq, ownL_eq, List.flatMap_map, List.flatMap_eq_nil_iff]; exact ih
  | fn f a b _ _ _ _ iha ihb =>
    simp only [gfrz, GV.own, gfrzL_eq, ownL_eq, List.flatMap_map, List.append_eq_nil_iff, List.flatMap_eq_nil_iff]
    exact ⟨iha, ihb⟩
  | sl m fl sz es b off cap _ _ _ _ _ _ _ ih =>
    have : ownM (if m == 2 then 2 else 0) = false := by split <;> rfl
    simp only [gfrz, GV.own, this, Bool.false_eq_true, if_false, gfrzL_eq, ownL_eq, List.flatMap_map, List.flatMap_eq_nil_iff]
    exact ih
  | pt o e b off _ _ _ _ ih => simp only [gfrz, GV.own, Bool.false_eq_true, if_false]; exact ih
  | _ => simp [gfrz, GV.own]

theorem gfrz_leafs (e : GV) : GV.leafs (gfrz e) = (GV.leafs e).map gfrz := by
  cases e <;> simp [gfrz, GV.leafs, gfrzL_eq]

theorem gfrz_leafy {e : GV} (h : e.leafy = true) : (gfrz e).leafy = true := by
  cases e <;> simp [gfrz, GV.leafy] at h ⊢

theorem gfrz_isNode (e : GV) : isNode (gfrz e) = isNode e := by
  cases e <;> simp [gfrz, isNode]

/-- What is frozen stands in memory, its blocks being never written again. -/
theorem HT.frz {w : World} {I I' : Nat → Prop} {K : Nat → Nat → Prop} {g : GV} (h : HT w I K g) (hI : ∀ b, I b → I' b) (ho : ∀ b ∈ g.own, I' b) : HT w I' K (gfrz g) := by
  induction h with
  | dead v => exact .dead v
  | lit v h => exact .lit v h
  | agg cs hc hl ih =>
    simp only [gfrz, gfrzL_eq]
    simp only [GV.own, ownL_eq, List.mem_flatMap] at ho
    refine .agg _ (fun c hc' => ?_) (fun c hc' => ?_)
    · obtain ⟨d, hd, rfl⟩ := List.mem_map.1 hc'
      exact ih d hd (fun b hb => ho b ⟨d, hd, hb⟩)
    · obtain ⟨d, hd, rfl⟩ := List.mem_map.1 hc'
      exact gfrz_leafy (hl d hd)
  | fn f a b ha hb h1 h2 iha ihb =>
    simp only [gfrz, gfrzL_eq]
    have na : ∀ l : List GV, own.ownL l = [] → ∀ c ∈ l, c.own = [] := fun l hl c hc => by
      rw [ownL_eq, List.flatMap_eq_nil_iff] at hl; exact hl c hc
    refine .fn _ _ _ (fun c hc' => ?_) (fun c hc' => ?_) ?_ ?_
    · obtain ⟨d, hd, rfl⟩ := List.mem_map.1 hc'
      exact iha d hd (fun b hb => by rw [na a h1 d hd] at hb; cases hb)
    · obtain ⟨d, hd, rfl⟩ := List.mem_map.1 hc'
      exact ihb d hd (fun b' hb' => by rw [na b h2 d hd] at hb'; cases hb')
    · rw [ownL_eq, List.flatMap_map, List.flatMap_eq_nil_iff]; exact fun c hc => (ha c hc).frz_own
    · rw [ownL_eq, List.flatMap_map, List.flatMap_eq_nil_iff]; exact fun c hc => (hb c hc).frz_own
  | sl m fl sz es b off cap h1 h2 h3 h4 h5 h6 h7 ih =>
    simp only [gfrz, gfrzL_eq]
    have hb : I' b := by
      cases hom : ownM m with
      | true => exact ho b (by simp [GV.own, hom])
      | false => exact hI b (h4 hom).1
    have hsub : ∀ e ∈ es, ∀ b' ∈ e.own, I' b' := fun e he b' hb' => ho b' (by
      simp only [GV.own, ownL_eq]
      split <;> simp only [List.mem_cons, List.mem_flatMap] <;> first | exact .inr ⟨e, he, hb'⟩ | exact ⟨e, he, hb'⟩)
    refine .sl _ fl sz _ b off cap (by simpa using h1) (fun i x hx => ?_) (fun x hx => ?_) (fun _ => ⟨hb, ?_⟩) (fun h => ?_) (fun h => ?_) (fun h => ?_)
    · rw [List.getElem?_map] at hx
      obtain ⟨y, hy, rfl⟩ := map_some_inv hx
      refine ⟨by rw [gfrz_leafs, List.length_map]; exact (h2 i y hy).1, fun k l hl => ?_⟩
      rw [gfrz_leafs, List.getElem?_map] at hl
      obtain ⟨q, hq, rfl⟩ := map_some_inv hl
      rw [((h3 y (List.mem_of_getElem? hy)).leaf (List.mem_of_getElem? hq)).frz_cv]
      exact (h2 i y hy).2 k q hq
    · obtain ⟨y, hy, rfl⟩ := List.mem_map.1 hx
      exact ih y hy (hsub y hy)
    · rw [ownL_eq, List.flatMap_map, List.flatMap_eq_nil_iff]; exact fun c hc => (h3 c hc).frz_own
    · rw [List.length_map]
      by_cases hm : m = 2
      · exact h5 hm
      · simp [hm] at h
    · by_cases hm : m = 2 <;> simp [hm] at h
    · by_cases hm : m = 2 <;> simp [hm] at h
  | nl m fl sz h => exact .nl _ fl sz (by split <;> rfl)
  | pt o e b off h1 h2 h3 h4 ih =>
    simp only [gfrz]
    have hb : I' b := by
      cases o with
      | true => exact ho b (by simp [GV.own])
      | false => exact hI b (h3 rfl).1
    refine .pt _ _ b off (fun k l hl => ?_) (ih (fun b' hb' => ho b' (by simp only [GV.own]; split <;> simp [hb']))) (fun _ => ⟨hb, h2.frz_own⟩) (fun h => by cases h)
    rw [gfrz_leafs, List.getElem?_map] at hl
    obtain ⟨q, hq, rfl⟩ := map_some_inv hl
    rw [(h2.leaf (List.mem_of_getElem? hq)).frz_cv]
    exact h1 k q hq

/-- At every path a node stands where it stood. -/
def Sim (g g' : GV) : Prop := ∀ q m, gnodeAt g q = some m → isNode m = true → ∃ m', gnodeAt g' q = some m' ∧ Alike m m'

theorem Sim.refl (g : GV) : Sim g g := fun _ m h hn => ⟨m, h, Alike.refl hn⟩

theorem sim_gfrz : ∀ (q : List Stp) (g m : GV), gnodeAt g q = some m → isNode m = true → ∃ m', gnodeAt (gfrz g) q = some m' ∧ Alike m m'
  | [], g, m, h, hn => by
    simp only [gnodeAt, Option.some.injEq] at h; subst h
    refine ⟨_, rfl, ?_⟩
    cases g <;> simp [isNode] at hn
    · simp only [gfrz]; exact .sl _ _ _ _ _ _ _ _ _ _ (by simp [gfrzL_eq])
    · simp only [gfrz]; exact .pt _ _ _ _ _ _
  | (i, k, z) :: q, g, m, h, hn => by
    cases g <;> simp only [gnodeAt] at h <;> try (cases h; done)
    · rename_i mm fl sz es b off cap
      simp only [gfrz, gfrzL_eq, gnodeAt, List.getElem?_map]
      cases he : es[i]? with
      | none => simp [he] at h
      | some e =>
        simp only [he, gleafAt] at h
        simp only [Option.map_some, gleafAt, gfrz_leafs, List.getElem?_map]
        cases hl : (GV.leafs e)[k]? with
        | none => simp [hl] at h
        | some l => simp only [hl] at h; exact sim_gfrz q l m h hn
    · rename_i o e b off
      simp only [gfrz, gnodeAt, gleafAt, gfrz_leafs, List.getElem?_map]
      simp only [gleafAt] at h
      cases hl : (GV.leafs e)[k]? with
      | none => simp [hl] at h
      | some l => simp only [hl] at h; exact sim_gfrz q l m h hn

theorem sim_gmod {f : GV → Option GV} : ∀ (p : List Stp) (g g' n n' : GV), gnodeAt g p = some n → gmodAt f g p = some g' → f n = some n' → n'.leafy = true → Sim n n' → Sim g g' ∧ (p ≠ [] → g'.leafy = true)
  | [], g, g', n, n', hn, hm, hf, hl', hs => by
    simp only [gnodeAt, Option.some.injEq] at hn; subst hn
    simp only [gmodAt, hf, Option.some.injEq] at hm; subst hm
    exact ⟨hs, fun h => absurd rfl h⟩
  | (i, k, z) :: p, g, g', n, n', hn, hm, hf, hl', hs => by
    cases g <;> simp only [gnodeAt] at hn <;> try (cases hn; done)
    · rename_i mm fl sz es b off cap
      simp only [gmodAt] at hm
      cases he : es[i]? with
      | none => simp [he] at hn
      | some e =>
        simp only [he] at hn hm
        cases hle : gleafAt e k with
        | none => simp [hle] at hn
        | some l =>
          simp only [hle] at hn hm
          cases hml : gmodAt f l p with
          | none => simp [hml] at hm
          | some l' =>
            simp only [hml, Option.some.injEq] at hm; subst hm
            have ih := sim_gmod p l l' n n' hn hml hf hl' hs
            have hll : l'.leafy = true := by
              cases p with
              | nil => simp only [gnodeAt, Option.some.injEq] at hn; subst hn; simp only [gmodAt, hf, Option.some.injEq] at hml; subst hml; exact hl'
              | cons x p => exact ih.2 (by simp)
            refine ⟨fun q m hq hnode => ?_, fun _ => rfl⟩
            cases q with
            | nil =>
              simp only [gnodeAt, Option.some.injEq] at hq; subst hq
              exact ⟨_, rfl, .sl _ _ _ _ _ _ _ _ _ _ (by simp)⟩
            | cons x q =>
              obtain ⟨i', k', z'⟩ := x
              simp only [gnodeAt, List.getElem?_set] at hq ⊢
              by_cases hii : i = i'
              · subst hii
                have hilt : i < es.length := by
                  rcases Nat.lt_or_ge i es.length with h | h
                  · exact h
                  · rw [List.getElem?_eq_none h] at he; cases he
                simp only [he] at hq
                simp only [if_true, hilt, gleafAt, leafs_gput hle hll, List.getElem?_set]
                by_cases hkk : k = k'
                · subst hkk
                  rw [hle] at hq
                  simp only at hq
                  have hklt : k < (GV.leafs e).length := by
                    unfold gleafAt at hle
                    rcases Nat.lt_or_ge k (GV.leafs e).length with h | h
                    · exact h
                    · rw [List.getElem?_eq_none h] at hle; cases hle
                  simp only [if_true, hklt]
                  exact ih.1 q m hq hnode
                · simp only [hkk, if_false]
                  unfold gleafAt at hq
                  cases hlk : (GV.leafs e)[k']? with
                  | none => simp [hlk] at hq
                  | some y => simp only [hlk] at hq ⊢; exact ⟨m, hq, Alike.refl hnode⟩
              · simp only [hii, if_false]
                cases hx : es[i']? with
                | none => simp [hx] at hq
                | some y =>
                  simp only [hx] at hq ⊢
                  exact ⟨m, hq, Alike.refl hnode⟩
    · rename_i o e b off
      simp only [gmodAt] at hm
      cases hle : gleafAt e k with
      | none => simp [hle] at hn
      | some l =>
        simp only [hle] at hn hm
        cases hml : gmodAt f l p with
        | none => simp [hml] at hm
        | some l' =>
          simp only [hml, Option.some.injEq] at hm; subst hm
          have ih := sim_gmod p l l' n n' hn hml hf hl' hs
          have hll : l'.leafy = true := by
            cases p with
            | nil => simp only [gnodeAt, Option.some.injEq] at hn; subst hn; simp only [gmodAt, hf, Option.some.injEq] at hml; subst hml; exact hl'
            | cons x p => exact ih.2 (by simp)
          refine ⟨fun q m hq hnode => ?_, fun _ => rfl⟩
          cases q with
          | nil =>
            simp only [gnodeAt, Option.some.injEq] at hq; subst hq
            exact ⟨_, rfl, .pt _ _ _ _ _ _⟩
          | cons x q =>
            obtain ⟨i', k', z'⟩ := x
            simp only [gnodeAt, gleafAt, leafs_gput hle hll, List.getElem?_set] at hq ⊢
            by_cases hkk : k = k'
            · subst hkk
              unfold gleafAt at hle
              rw [hle] at hq
              simp only at hq
              have hklt : k < (GV.leafs e).length := by
                rcases Nat.lt_or_ge k (GV.leafs e).length with h | h
                · exact h
                · rw [List.getElem?_eq_none h] at hle; cases hle
              simp only [if_true, hklt]
              exact ih.1 q m hq hnode
            · simp only [hkk, if_false]
              cases hlk : (GV.leafs e)[k']? with
              | none => simp [hlk] at hq
              | some y => simp only [hlk] at hq ⊢; exact ⟨m, hq, Alike.refl hnode⟩

end Go.AM

/- AM, part 14: freezing and moving, on the way of a change. -/
namespace Go.AM
open GV

/-- A value without references. -/
def Pv (w : World) (I : Nat → Prop) (K : Nat → Nat → Prop) (v : AV) (x : Value) : Prop :=
  ∃ g, g.era = v ∧ g.cv = x ∧ HV w I K (fun _ _ => False) g ∧ g.own = []

theorem HT.view {w : World} {I : Nat → Prop} {K : Nat → Nat → Prop} {m : Nat} {fl : Bool} {sz : Nat} {es : List GV} {b off0 cap0 : Nat} (h : HT w I K (.sl m fl sz es b off0 cap0)) (hm : ownM m = false)
    {off n cap : Nat} (hc : n ≤ cap) : HT w I K (.sl 0 fl sz ((es.drop off).take n) b (off0 + off * sz) cap) ∧ (GV.sl 0 fl sz ((es.drop off).take n) b (off0 + off * sz) cap).own = [] := by
  cases h with
  | sl _ _ _ _ _ _ _ h1 h2 h3 h4 h5 h6 h7 =>
    have hsub : ∀ e ∈ (es.drop off).take n, e ∈ es := fun e he => List.mem_of_mem_drop (List.mem_of_mem_take he)
    have hown : own.ownL ((es.drop off).take n) = [] := by
      have := (h4 hm).2
      rw [ownL_eq, List.flatMap_eq_nil_iff] at this ⊢
      exact fun e he => this e (hsub e he)
    refine ⟨.sl _ _ _ _ _ _ _ (by simp; omega) (fun i e he => ?_) (fun e he => h3 e (hsub e he)) (fun _ => ⟨(h4 hm).1, hown⟩) (fun h => by cases h) (fun h => by cases h) (fun h => by cases h), by simp [GV.own, ownM, hown]⟩
    have := h2 _ e (get_drop_take he)
    refine ⟨this.1, fun k l hl => ?_⟩
    have := this.2 k l hl
    rw [Nat.add_mul] at this
    rwa [show off0 + off * sz + i * sz = off0 + (off * sz + i * sz) by omega]

theorem HV.tree_of {w : World} {I : Nat → Prop} {K : Nat → Nat → Prop} {g : GV} (h : HV w I K (fun _ _ => False) g) (ho : g.own = []) (ht : treeA g.era = true) : HT w I K g := by
  have list : ∀ l : List GV, (∀ c ∈ l, c.own = [] → treeA c.era = true → HT w I K c) → own.ownL l = [] → treeA.treeL (era.eraL l) = true → ∀ c ∈ l, HT w I K c := by
    intro l
    induction l with
    | nil => intro _ _ _ c hc; cases hc
    | cons a l ih =>
      intro h1 h2 h3 c hc
      simp only [GV.own.ownL, List.append_eq_nil_iff] at h2
      simp only [GV.era.eraL, treeA.treeL, Bool.and_eq_true] at h3
      rcases List.mem_cons.1 hc with rfl | hc
      · exact h1 c (by simp) h2.1 h3.1
      · exact ih (fun c hc => h1 c (by simp [hc])) h2.2 h3.2 c hc
  induction h with
  | tree _ h => exact h
  | ref _ _ h => exact h.elim
  | agg cs _ hl ih =>
    simp only [GV.own] at ho
    simp only [GV.era, treeA] at ht
    exact .agg cs (list cs ih ho ht) hl
  | tup cs _ _ => simp [GV.era, treeA] at ht
  | fn f a b _ _ iha ihb =>
    simp only [GV.own, List.append_eq_nil_iff] at ho
    simp only [GV.era, treeA, Bool.and_eq_true] at ht
    exact .fn f a b (list a iha ho.1 ht.1) (list b ihb ho.2 ht.2) ho.1 ho.2

theorem HV.mono' {w w' : World} {I I' : Nat → Prop} {K : Nat → Nat → Prop} {R R' : AV → Value → Prop} {g : GV} (h : HV w I K R g) (ho : g.own = []) (hI : ∀ b, I b → I' b ∧ w'.heap[b]? = w.heap[b]?) (hR : ∀ a v, R a v → R' a v) : HV w' I' K R' g := by
  induction h with
  | tree g h => exact .tree g (h.mono hI (fun b o hb => by rw [ho] at hb; cases hb) (fun b hb => by rw [ho] at hb; cases hb))
  | ref a v h => exact .ref a v (hR a v h)
  | agg cs _ hl ih =>
    simp only [GV.own, ownL_eq, List.flatMap_eq_nil_iff] at ho
    exact .agg cs (fun c hc => ih c hc (ho c hc)) hl
  | tup cs _ ih =>
    simp only [GV.own, ownL_eq, List.flatMap_eq_nil_iff] at ho
    exact .tup cs (fun c hc => ih c hc (ho c hc))
  | fn f a b _ _ iha ihb =>
    simp only [GV.own, ownL_eq, List.append_eq_nil_iff, List.flatMap_eq_nil_iff] at ho
    exact .fn f a b (fun c hc => iha c hc (ho.1 c hc)) (fun c hc => ihb c hc (ho.2 c hc))

theorem Pv.val {cx : Cx} {gob : Nat → List GV} {I : Nat → Prop} {w : World} {v : AV} {x : Value} (h : Pv w I cx.K v x) : Val cx gob I w v x := by
  obtain ⟨g, h1, h2, h3, h4⟩ := h
  exact ⟨g, h1, h2, h3.mono' h4 (fun _ hb => ⟨hb, rfl⟩) (fun _ _ h => h.elim), h4⟩

theorem Pv.mono {w w' : World} {I I' : Nat → Prop} {K : Nat → Nat → Prop} {v : AV} {x : Value} (h : Pv w I K v x) (hI : ∀ b, I b → I' b ∧ w'.heap[b]? = w.heap[b]?) : Pv w' I' K v x := by
  obtain ⟨g, h1, h2, h3, h4⟩ := h
  exact ⟨g, h1, h2, h3.mono' h4 hI (fun _ _ h => h), h4⟩

section
variable {cx : Cx} {gob0 gob : Nat → List GV} {I0 I : Nat → Prop} {w0 w : World} {fl : List GV} {c : Ch} {kl : List Kl}

/-- References that died lead to no node: what they led to has moved. -/
def Ded (kl : List Kl) (gob : Nat → List GV) : Prop := ∀ k ∈ kl, ∃ k0 v, k.k0 = some k0 ∧ (gob k.o)[k0]? = some (.dead v)

theorem Ded.no {kl : List Kl} {gob : Nat → List GV} (h : Ded kl gob) {o k0 : Nat} {p : List Stp} {n : GV} (hn : gnodeIn (gob o) k0 p = some n) (hnode : isNode n = true) : kl.any (·.hits o k0 p) = false := by
  rw [List.any_eq_false]
  intro k hk hh
  obtain ⟨k0', v, h1, h2⟩ := h k hk
  simp only [Kl.hits, h1, Bool.and_eq_true, beq_iff_eq] at hh
  obtain ⟨⟨rfl, rfl⟩, _⟩ := hh
  unfold gnodeIn at hn
  rw [h2] at hn
  simp only at hn
  cases p with
  | nil => simp only [gnodeAt, Option.some.injEq] at hn; subst hn; simp [isNode] at hnode
  | cons x p => simp [gnodeAt] at hn

theorem Ded.upd {kl : List Kl} {gob : Nat → List GV} (h : Ded kl gob) {o k0 : Nat} {g : GV} (hk : (gob o)[k0]? = some g) (hg : ∀ v, g ≠ .dead v) (g' : GV) : Ded kl (upd gob o ((gob o).set k0 g')) := by
  intro k hk'
  obtain ⟨k1, v, h1, h2⟩ := h k hk'
  refine ⟨k1, v, h1, ?_⟩
  by_cases ho : k.o = o
  · rw [ho, upd_same]
    rw [ho] at h2
    rw [List.getElem?_set]
    by_cases hkk : k0 = k1
    · subst hkk; rw [hk] at h2; simp only [Option.some.injEq] at h2; exact absurd h2 (hg v)
    · simp only [hkk, if_false]; exact h2
  · rw [upd_other _ _ ho]; exact h2

theorem nodup_perm_append {α : Type} {a b c d : List α} (h : a.Perm (b ++ c)) (hn : (a ++ d).Nodup) : (c ++ d).Nodup ∧ (∀ x ∈ b, x ∉ c ++ d) := by
  have h1 : (a ++ d).Perm (b ++ (c ++ d)) := by rw [← List.append_assoc]; exact h.append_right d
  have h2 := (h1.nodup_iff).1 hn
  have h3 := List.nodup_append.1 h2
  exact ⟨h3.2.1, fun x hx hx' => h3.2.2 x hx x hx' rfl⟩

theorem StoF.nodAll (h : StoF cx gob fl I w) (o : Nat) : (own.ownL (gob o) ++ own.ownL fl).Nodup :=
  List.nodup_append.2 ⟨h.nod o, h.fnod, fun _ ha b hb hab => h.fdis o b hb (hab ▸ ha)⟩

/-- A node of an object is frozen. -/
theorem Way.freezeNode (h : Way cx gob0 I0 w0 gob fl I w c kl) {o k0 : Nat} {p : List Stp} {n : GV} (hn : gnodeIn (gob o) k0 p = some n) (hnode : isNode n = true) :
    ∃ ls' I', gmodIn (fun t => some (gfrz t)) (gob o) k0 p = some ls' ∧ Way cx gob0 I0 w0 (upd gob o ls') fl I' w ((o, ls'.map GV.era) :: c) kl ∧ (∀ b, I b → I' b) ∧ (∀ b ∈ n.own, I' b) ∧
      Pres gob (upd gob o ls') [] ∧ (∀ kl', Ded kl' gob → Ded kl' (upd gob o ls')) := by
  have hTn := h.sto.node hn
  have hlf : n.leafy = true := by cases n <;> simp [isNode] at hnode <;> rfl
  have hnd0 : ∀ g, (gob o)[k0]? = some g → ∀ v, g ≠ .dead v := fun g hg v e => by
    subst e
    unfold gnodeIn at hn
    rw [hg] at hn
    cases p with
    | nil => simp only [gnodeAt, Option.some.injEq] at hn; subst hn; simp [isNode] at hnode
    | cons x p => simp [gnodeAt] at hn
  unfold gnodeIn at hn
  cases hk : (gob o)[k0]? with
  | none => simp [hk] at hn
  | some g =>
    simp only [hk] at hn
    have hTg := h.sto.hol o g (List.mem_of_getElem? hk)
    have hmod : ∃ g', gmodAt (fun t => some (gfrz t)) g p = some g' := by
      clear hTg hk
      induction p generalizing g with
      | nil => exact ⟨_, rfl⟩
      | cons x p ih =>
        obtain ⟨i, k, z⟩ := x
        cases g <;> simp only [gnodeAt] at hn <;> try (cases hn; done)
        · simp only [gmodAt]
          split at hn
          · rename_i e he
            split at hn
            · rename_i l hl
              obtain ⟨l', hl'⟩ := ih l hn
              simp [he, hl, hl']
            · cases hn
          · cases hn
        · simp only [gmodAt]
          split at hn
          · rename_i l hl
            obtain ⟨l', hl'⟩ := ih l hn
            simp [hl, hl']
          · cases hn
    obtain ⟨g', hg'⟩ := hmod
    let I' : Nat → Prop := fun b => I b ∨ b ∈ n.own
    have hI : ∀ b, I b → I' b ∧ w.heap[b]? = w.heap[b]? := fun b hb => ⟨.inl hb, rfl⟩
    obtain ⟨rest, P1, P2, _, _, hT'⟩ := gmod_main (K := cx.K) hI p g g' n (gfrz n) hTg hn hg' rfl hTn.frz_cv (gfrz_leafy hlf) hlf (fun _ => hTn.frz_own)
    have hT := hT' (fun _ _ => rfl) (hTn.frz (fun b hb => .inl hb) (fun b hb => .inr hb))
    rw [hTn.frz_own, List.nil_append] at P2
    obtain ⟨r0, Q1, Q2, _⟩ := ownL_set hk g'
    have Q3 : (own.ownL (gob o)).Perm (n.own ++ (rest ++ r0)) := (Q1.trans (P1.append_right r0)).trans (by rw [List.append_assoc])
    have Q4 : (own.ownL ((gob o).set k0 g')).Perm (rest ++ r0) := Q2.trans (P2.append_right r0)
    have hnd := nodup_perm_append Q3 (h.sto.nodAll o)
    have hnodeLe : ∀ x, x ∈ own.ownL ((gob o).set k0 g') ++ own.ownL fl ↔ x ∈ (rest ++ r0) ++ own.ownL fl := fun x => by
      simp only [List.mem_append (s := own.ownL ((gob o).set k0 g')), List.mem_append (s := rest ++ r0), Q4.mem_iff]
    have hsim := sim_gmod p g g' n (gfrz n) hn hg' rfl (gfrz_leafy hlf) (fun q m hq hm => sim_gfrz q n m hq hm)
    refine ⟨(gob o).set k0 g', I', by simp [gmodIn, hk, hg'], ⟨?_, h.era.cons o _, ?_, fun b hb => ⟨.inl (h.imm b hb).1, (h.imm b hb).2⟩, h.size⟩, fun b hb => .inl hb, fun b hb => .inr hb, ?_, ?_⟩
    · refine h.sto.step o _ fl I' w ?_ ?_ ?_ ?_ hI ?_ (fun _ _ _ => rfl) (fun _ _ _ => rfl) rfl rfl rfl (Nat.le_refl _)
      · exact ((Q4.append_right _).nodup_iff).2 hnd.1
      · intro b hb
        rw [hnodeLe] at hb
        rcases List.mem_append.1 hb with hb | hb
        · exact .inl (List.mem_append.2 (.inl (Q3.mem_iff.2 (by simp at hb ⊢; exact .inr hb))))
        · exact .inl (List.mem_append.2 (.inr hb))
      · intro x hx
        rcases List.mem_or_eq_of_mem_set hx with hx | rfl
        · exact (h.sto.hol o x hx).mono hI (fun _ _ _ h => h) (fun _ _ => rfl)
        · exact hT
      · exact fun x hx => (h.sto.fhol x hx).mono hI (fun _ _ _ h => h) (fun _ _ => rfl)
      · intro b hb
        rcases hb with hb | hb
        · exact .inl hb
        · refine .inr ⟨.inl (List.mem_append.2 (.inl (Q3.mem_iff.2 (by simp [hb])))), hTn.lt b hb, ?_⟩
          rw [hnodeLe]
          exact hnd.2 b hb
    · refine (h.pre.trans (k2 := []) (Pres.upd (fun k p' m hm hnode _ => ?_))).weaken (by simp)
      unfold gnodeIn at hm ⊢
      rw [List.getElem?_set]
      by_cases hkk : k0 = k
      · subst hkk
        rw [hk] at hm
        simp only at hm
        have : k0 < (gob o).length := by
          rcases Nat.lt_or_ge k0 (gob o).length with h | h
          · exact h
          · rw [List.getElem?_eq_none h] at hk; cases hk
        simp only [if_true, this]
        exact hsim.1 p' m hm hnode
      · simp only [hkk, if_false]
        exact ⟨m, hm, Alike.refl hnode⟩
    · refine Pres.upd (fun k p' m hm hnode _ => ?_)
      unfold gnodeIn at hm ⊢
      rw [List.getElem?_set]
      by_cases hkk : k0 = k
      · subst hkk
        rw [hk] at hm
        simp only at hm
        have : k0 < (gob o).length := by
          rcases Nat.lt_or_ge k0 (gob o).length with h | h
          · exact h
          · rw [List.getElem?_eq_none h] at hk; cases hk
        simp only [if_true, this]
        exact hsim.1 p' m hm hnode
      · simp only [hkk, if_false]
        exact ⟨m, hm, Alike.refl hnode⟩
    · exact fun kl' hd => hd.upd hk (hnd0 g hk) g'

end
end Go.AM
