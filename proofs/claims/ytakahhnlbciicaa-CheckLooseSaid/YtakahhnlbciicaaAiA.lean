/-
  The evaluator, and that its order of operations does not matter where the program leaves it open. By an AI agent; no person has read it.
-/
import GoSem.Dispatch
noncomputable section
/- The evaluator: values, memory by names, a compact code, and how it runs. No program and no model's machine in sight. -/
namespace Go.Proofs.Ytakahhnlbciicaa.Ai
open Go

/-- A value. `sl`: a slice whose elements will never change, by value. `ref`: a slice into a row of the memory (first place, length, cells of an element, capacity where it is known). `vptr`: a pointer to cells that will never change. -/
inductive V where
  | int (k : IntKind) (n : Int)
  | bool (b : Bool)
  | str (s : List Nat)
  | agg (cs : List V)
  | tup (vs : List V)
  | nil
  | ptr (id i off : Nat)
  | vptr (cs : List V)
  | sl (full : Bool) (l : List V)
  | ref (id lo len e : Nat) (cap : Option Nat)
  | fn (f : Nat) (fst caps : List V)
  | nfn
  | iface (t : Nat) (v : V)
  | nifc
  | und
  deriving Inhabited

mutual
def V.beq : V → V → Bool
  | .int k n, .int k' n' => (k == k') && (n == n')
  | .bool a, .bool b => a == b
  | .str s, .str t => s == t
  | .agg a, .agg b => V.beqs a b
  | .tup a, .tup b => V.beqs a b
  | .nil, .nil => true
  | .ptr a b c, .ptr a' b' c' => (a == a') && ((b == b') && (c == c'))
  | .vptr a, .vptr b => V.beqs a b
  | .sl f a, .sl g b => (f == g) && V.beqs a b
  | .ref a b c e d, .ref a' b' c' e' d' => (a == a') && ((b == b') && ((c == c') && ((e == e') && (d == d'))))
  | .fn f a b, .fn g c d => (f == g) && (V.beqs a c && V.beqs b d)
  | .nfn, .nfn => true
  | .iface t v, .iface u w => (t == u) && V.beq v w
  | .nifc, .nifc => true
  | .und, .und => true
  | _, _ => false
def V.beqs : List V → List V → Bool
  | [], [] => true
  | a :: l, b :: m => V.beq a b && V.beqs l m
  | _, _ => false
end

def V.cells : V → List V
  | .agg cs => cs
  | v => [v]

/-- What may be done with a row: write its places; also grow it (there may be room behind it); only read it. -/
inductive Kind where
  | rw | slk | ro
  deriving DecidableEq, Inhabited

inductive Blk where
  | row (es : List V) (esz : Nat) (k : Kind)
  | iter (s : List Nat) (pos : Nat)
  | dead
  deriving Inhabited

def Blk.beq : Blk → Blk → Bool
  | .row a n k, .row b m j => V.beqs a b && ((n == m) && (k == j))
  | .iter s p, .iter t q => (s == t) && (p == q)
  | .dead, .dead => true
  | _, _ => false

def obeq : Option Blk → Option Blk → Bool
  | none, none => true
  | some a, some b => a.beq b
  | _, _ => false

inductive Tr where
  | nil
  | node (v : Option Blk) (l r : Tr)
  deriving Inhabited


noncomputable def Tr.get (t : Tr) (n : Nat) : Option Blk :=
  @Tr.rec (fun _ => Nat → Option Blk) (fun _ => none) (fun v _ _ l r n => @Bool.rec (fun _ => Option Blk) (@Bool.rec (fun _ => Option Blk) (r (Nat.sub (Nat.div n 2) 1)) (l (Nat.div n 2)) (Nat.beq (Nat.mod n 2) 1)) v (Nat.beq n 0)) t n
noncomputable def Tr.sing (b : Blk) (f n : Nat) : Tr :=
  @Nat.rec (fun _ => Nat → Tr) (fun _ => .nil) (fun _ ih n => @Bool.rec (fun _ => Tr) (@Bool.rec (fun _ => Tr) (.node none .nil (ih (Nat.sub (Nat.div n 2) 1))) (.node none (ih (Nat.div n 2)) .nil) (Nat.beq (Nat.mod n 2) 1)) (.node (some b) .nil .nil) (Nat.beq n 0)) f n
noncomputable def Tr.put (t : Tr) (n : Nat) (b : Blk) : Tr :=
  @Tr.rec (fun _ => Nat → Tr) (fun n => Tr.sing b (Nat.succ n) n) (fun v l r ihl ihr n => @Bool.rec (fun _ => Tr) (@Bool.rec (fun _ => Tr) (.node v l (ihr (Nat.sub (Nat.div n 2) 1))) (.node v (ihl (Nat.div n 2)) r) (Nat.beq (Nat.mod n 2) 1)) (.node (some b) l r) (Nat.beq n 0)) t n

structure H where
  nx : Nat
  t : Tr
  deriving Inhabited

def H.get (h : H) (id : Nat) : Option Blk := h.t.get id
def H.set (h : H) (id : Nat) (b : Blk) : H := ⟨h.nx, h.t.put id b⟩

abbrev Fr := List (Nat × V)

noncomputable def Fr.get (fr : Fr) (n : Nat) : Option V := @List.rec (Nat × V) (fun _ => Option V) none (fun p _ ih => @Bool.rec (fun _ => Option V) ih (some p.2) (Nat.beq n p.1)) fr
def Fr.set (fr : Fr) (n : Nat) (x : V) : Fr := (n, x) :: fr
/-- Only the places whose bit stands are kept, each once. -/
noncomputable def Fr.keep (m : Nat) (fr : Fr) : Fr :=
  @List.rec (Nat × V) (fun _ => Nat → Fr) (fun _ => []) (fun p _ ih m => @Bool.rec (fun _ => Fr) (p :: ih (Nat.xor m (Nat.pow 2 p.1))) (ih m) (Nat.beq (Nat.land 1 (Nat.shiftRight m p.1)) 0)) fr m

inductive O where
  | t (n : Nat)
  | c (v : V)
  deriving Inhabited

def O.ev (fr : Fr) : O → Option V
  | .t n => Fr.get fr n
  | .c v => some v

def evs (fr : Fr) : List O → Option (List V)
  | [] => some []
  | o :: l => match o.ev fr, evs fr l with
    | some v, some vs => some (v :: vs)
    | _, _ => none

inductive Sc where
  | int | bool | str
  deriving DecidableEq, Inhabited
inductive Nk where
  | ptr | fn | ifc
  deriving DecidableEq, Inhabited

/-- An operation. -/
inductive I where
  | mv (x : O)
  | pick (c a b : O)
  | alloc (z : V)
  | box (x : O) (n : Nat)
  | build (z : List V) (parts : List (Nat × Nat × O))
  | bsl (esz : Nat) (z : V) (n : Nat) (parts : List (Nat × O))
  | bslF (esz : Nat) (z : V) (n : Nat) (parts : List (Nat × O))
  | fz (x : O)
  | ld (n : Nat) (ag : Bool) (a : O)
  | st (n : Nat) (a x : O)
  | nck (x : O)
  | bin (b : BinOp) (x y : O)
  | eqv (ne ag : Bool) (ks : List Sc) (x y : O)
  | isnil (k : Nk) (ne : Bool) (x : O)
  | un (u : UnOp) (x : O)
  | cvt (k : IntKind) (x : O)
  | cvS (x : O)
  | cvB (x : O)
  | mkf (f : Nat) (fst caps : List O)
  | msl (esz : Nat) (z : V) (l c : O)
  | slc (esz : Nat) (x : O) (lo hi : Option O)
  | fad (x : O) (off : Nat)
  | fld (x : O) (off n : Nat) (ag : Bool)
  | iad (esz : Nat) (x i : O)
  | iadA (len esz : Nat) (x i : O)
  | idx (x i : O)
  | idxA (len esz : Nat) (ag : Bool) (x i : O)
  | ext (x : O) (i : Nat)
  | len (s : Bool) (x : O)
  | mx (xs : List O)
  | mn (xs : List O)
  | app (esz : Nat) (s x : O)
  | appz (esz : Nat) (s x : O)
  | cpy (d s : O)
  | rng (x : O)
  | nxt (x : O)
  | mkI (t : Nat) (x : O)
  | call (f : Nat) (xs : List O)
  | callv (x : O) (xs : List O)
  | ixb (x c : O)
  | bad
  deriving Inhabited

def uses : I → List O
  | .mv x | .fz x | .box x _ | .nck x | .isnil _ _ x | .un _ x | .cvt _ x | .cvS x | .cvB x | .fad x _ | .fld x _ _ _ | .ext x _ | .len _ x | .rng x | .nxt x | .mkI _ x | .ld _ _ x => [x]
  | .pick a b c => [a, b, c]
  | .build _ ps => ps.map (·.2.2)
  | .bsl _ _ _ ps | .bslF _ _ _ ps => ps.map (·.2)
  | .st _ a b | .bin _ a b | .eqv _ _ _ a b | .msl _ _ a b | .iad _ a b | .iadA _ _ a b | .idx a b | .idxA _ _ _ a b | .app _ a b | .appz _ a b | .cpy a b | .ixb a b => [a, b]
  | .slc _ x l u => x :: (l.toList ++ u.toList)
  | .mx l | .mn l | .call _ l => l
  | .callv x l => x :: l
  | .mkf _ a b => a ++ b
  | .alloc _ | .bad => []

/-- An operation at its place: `ix` its number in the region, `dst` where its value goes, `g` its guard. -/
structure Op1 where
  ix : Nat
  dst : Option Nat
  op : I
  g : Option (Nat × Bool)
  deriving Inhabited

inductive IC where
  | skip
  /-- `al`: it may take new names; `chk`: what must not change between two operations; `out`: what is kept behind it. -/
  | reg (id : Nat) (al : Bool) (ops : List Op1) (chk : List (Bool × Nat × Nat)) (out : Option Nat)
  | seq (a b : IC)
  | cond (c : O) (a b : IC)
  | block (id : Nat) (b : IC)
  | loop (b : IC)
  | exit (id : Nat)
  | ret
  deriving Inhabited

inductive RV where
  | tmp (t : Nat)
  | cell (t n : Nat) (ag : Bool)
  deriving Inhabited

structure Fun where
  res : List RV
  fz : Bool
  body : IC
  deriving Inhabited

inductive X where
  | norm | brk (id : Nat) | ret
  deriving DecidableEq, Inhabited

def X.isBrk : X → Bool
  | .brk _ => true
  | _ => false

def wrp (k : IntKind) (n : Int) : Int := k.wrap n

/-- The cells of an element from a place on. -/
def cut (cs : List V) (off n : Nat) : Option (List V) := if off + n ≤ cs.length then some ((cs.drop off).take n) else none
def mk (ag : Bool) (cs : List V) : Option V := if ag then some (.agg cs) else match cs with | [v] => some v | _ => none
def splice (e : V) (off : Nat) (xs : List V) : Option V :=
  match e with
  | .agg cs => if off + xs.length ≤ cs.length then some (.agg (cs.take off ++ xs ++ cs.drop (off + xs.length))) else none
  | _ => if off = 0 ∧ xs.length = 1 then xs[0]? else none

def ldv (h : H) (n : Nat) (ag : Bool) : V → Option V
  | .ptr id i off => match h.get id with
    | some (.row es _ _) => match es[i]? with
      | some e => match cut e.cells off n with
        | some cs => mk ag cs
        | none => none
      | none => none
    | _ => none
  | .vptr cs => match cut cs 0 n with
    | some cs => mk ag cs
    | none => none
  | _ => none

def one : V → Bool
  | .agg _ | .tup _ | .und => false
  | _ => true

def stv (h : H) (n : Nat) (a x : V) : Option H :=
  match a with
  | .ptr id i off => match h.get id with
    | some (.row es esz k) => if k = .ro then none else match es[i]? with
      | some e => if x.cells.length = n ∧ x.cells.all one = true then match splice e off x.cells with
        | some e' => some (h.set id (.row (es.set i e') esz k))
        | none => none else none
      | none => none
    | _ => none
  | _ => none

def frz1 (h : H) : V → Option (V × H)
  | .ref id lo len e cap => match h.get id with
    | some (.row es esz _) =>
      if lo + len ≤ es.length ∧ e = esz then some (.sl (cap == some len) ((es.drop lo).take len), h.set id (.row es esz .ro)) else none
    | _ => none
  | v => some (v, h)
def frzL (h : H) : List V → Option (List V × H)
  | [] => some ([], h)
  | v :: l => match frz1 h v with
    | some (v', h1) => match frzL h1 l with
      | some (l', h2) => some (v' :: l', h2)
      | none => none
    | none => none
def frz (h : H) : V → Option (V × H)
  | .agg cs => match frzL h cs with
    | some (cs', h') => some (.agg cs', h')
    | none => none
  | v => frz1 h v
def frzR (h : H) : List V → Option (List V × H)
  | [] => some ([], h)
  | v :: l => match frz h v with
    | some (v', h1) => match frzR h1 l with
      | some (l', h2) => some (v' :: l', h2)
      | none => none
    | none => none

def fill (cs : List V) : List (Nat × Nat × V) → Option (List V)
  | [] => some cs
  | (off, n, v) :: r => if v.cells.length = n ∧ off + n ≤ cs.length then fill (cs.take off ++ v.cells ++ cs.drop (off + n)) r else none
def fillE (esz : Nat) (es : List V) : List (Nat × V) → Option (List V)
  | [] => some es
  | (i, v) :: r => if v.cells.length = esz ∧ i < es.length then fillE esz (es.set i v) r else none

def less : List Nat → List Nat → Bool
  | _, [] => false
  | [], _ :: _ => true
  | a :: x, b :: y => decide (a < b) || (decide (a = b) && less x y)

def binv (b : BinOp) (x y : V) : Option V :=
  match x, y with
  | .int k m, .int k' n =>
    match b with
    | .shl => if n < 0 then none else some (.int k (wrp k (m * 2 ^ min n.toNat k.bits)))
    | .shr => if n < 0 then none else some (.int k (m / 2 ^ min n.toNat k.bits))
    | _ => if k = k' then
      match b with
      | .add => some (.int k (wrp k (m + n)))
      | .sub => some (.int k (wrp k (m - n)))
      | .mul => some (.int k (wrp k (m * n)))
      | .quo => if n = 0 then none else some (.int k (wrp k (m.tdiv n)))
      | .rem => if n = 0 then none else some (.int k (m.tmod n))
      | .eql => some (.bool (decide (m = n)))
      | .neq => some (.bool (!decide (m = n)))
      | .lss => some (.bool (decide (m < n)))
      | .leq => some (.bool (decide (m ≤ n)))
      | .gtr => some (.bool (decide (m > n)))
      | .geq => some (.bool (decide (m ≥ n)))
      | _ => none
      else none
  | .str s, .str t =>
    match b with
    | .add => if s.length + t.length < 2 ^ 62 then some (.str (s ++ t)) else none
    | .eql => some (.bool (s == t))
    | .neq => some (.bool (!(s == t)))
    | .lss => some (.bool (less s t))
    | .leq => some (.bool (less s t || s == t))
    | .gtr => some (.bool (!(less s t || s == t)))
    | .geq => some (.bool (!less s t))
    | _ => none
  | _, _ => none

/-- Equality of scalars and of structs of scalars. -/
def eq1 : Sc → V → V → Option Bool
  | .int, .int k m, .int k' n => if k = k' then some (decide (m = n)) else none
  | .str, .str s, .str t => some (s == t)
  | .bool, .bool p, .bool q => some (p == q)
  | _, _, _ => none
def eqs : List Sc → List V → List V → Option Bool
  | [], [], [] => some true
  | k :: ks, a :: l, b :: m => match eq1 k a b, eqs ks l m with
    | some p, some q => some (p && q)
    | _, _ => none
  | _, _, _ => none
/-- Of scalars (false) or structs of scalars (true). -/
def eqv (ag : Bool) (ks : List Sc) (x y : V) : Option Bool :=
  if ag then (match x, y with | .agg l, .agg m => eqs ks l m | _, _ => none) else (match ks with | [k] => eq1 k x y | _ => none)

def nilv : V → Option (Nk × Bool)
  | .nil => some (.ptr, true)
  | .nfn => some (.fn, true)
  | .nifc => some (.ifc, true)
  | .ptr .. | .vptr .. => some (.ptr, false)
  | .fn .. => some (.fn, false)
  | .iface .. => some (.ifc, false)
  | _ => none
def nilk (k : Nk) (v : V) : Option Bool := match nilv v with
  | some (j, b) => if j = k then some b else none
  | none => none

def intv : V → Option Int
  | .int _ n => some n
  | _ => none

def mxv : V → V → Option V
  | .int k x, .int _ y => some (.int k (if y > x then y else x))
  | _, _ => none
def mnv : V → V → Option V
  | .int k x, .int _ y => some (.int k (if y < x then y else x))
  | _, _ => none
def foldv (f : V → V → Option V) : V → List V → Option V
  | a, [] => some a
  | a, b :: l => match f a b with
    | some c => foldv f c l
    | none => none

def bound : Nat := 2 ^ 31

/-- The elements of what is appended. -/
def elems (h : H) : V → Option (List V)
  | .sl _ l => some l
  | .str s => some (s.map fun (c : Nat) => V.int .u8 (c : Int))
  | .ref id lo len _ _ => match h.get id with
    | some (.row es _ _) => if lo + len ≤ es.length then some ((es.drop lo).take len) else none
    | _ => none
  | _ => none

def isSl : V → Bool
  | .sl .. | .ref .. => true
  | _ => false
def cellsOk (esz : Nat) (v : V) : Bool := v.cells.length == esz && v.cells.all one

def appv (esz : Nat) (h : H) (nid : Nat) (s x : V) : Option (V × H) :=
  match elems h x with
  | none => none
  | some [] => if isSl s then some (s, h) else none
  | some xs => if esz = 0 ∨ xs.all (cellsOk esz) = false then none else
    match s with
    | .sl full l =>
      if full = false then none else
      if l.all (fun v => v.cells.length == esz) = false then none else
      if l.length + xs.length < bound then some (.ref nid 0 (l.length + xs.length) esz none, h.set nid (.row (l ++ xs) esz .slk)) else none
    | .ref id lo len e' cap => match h.get id with
      | some (.row es e k) => if e = esz ∧ e' = esz ∧ lo + len ≤ es.length ∧ len + xs.length < bound then
          match cap with
          | some c => if len + xs.length ≤ c then
              (if k = .ro ∨ es.length < lo + c then none else some (.ref id lo (len + xs.length) esz (some c), h.set id (.row (es.take (lo + len) ++ xs ++ es.drop (lo + len + xs.length)) e k)))
            else some (.ref nid 0 (len + xs.length) esz none, h.set nid (.row ((es.drop lo).take len ++ xs) e .slk))
          | none => if k = .slk then some (.ref nid 0 (len + xs.length) esz none, (h.set id .dead).set nid (.row ((es.drop lo).take len ++ xs) e .slk)) else none
        else none
      | _ => none
    | _ => none

/-- An append whose result will never change. -/
def appzv (esz : Nat) (h : H) (nid : Nat) (s x : V) : Option (V × H) :=
  match appv esz h nid s x with
  | some (r, h1) => frz1 h1 r
  | none => none

def headB (esz : Nat) : List V → Bool
  | [] => true
  | e :: _ => e.cells.length == esz

def slcv (esz : Nat) (x : V) (lo hi : Option Int) : Option V :=
  match x with
  | .str s =>
    let u := hi.getD s.length
    let l := lo.getD 0
    if esz = 0 ∧ 0 ≤ l ∧ l ≤ u ∧ u ≤ s.length then some (.str ((s.drop l.toNat).take (u - l).toNat)) else none
  | .sl full es =>
    let u := hi.getD es.length
    let l := lo.getD 0
    if 0 < esz ∧ 0 ≤ l ∧ l ≤ u ∧ u ≤ es.length ∧ headB esz es = true then some (.sl (full && decide (u = es.length)) ((es.drop l.toNat).take (u - l).toNat)) else none
  | .ref id a len e cap =>
    let u := hi.getD len
    let l := lo.getD 0
    if 0 < esz ∧ 0 ≤ l ∧ l ≤ u ∧ u ≤ len ∧ e = esz then
      (if 0 < l ∧ l = u then some (.sl false []) else some (.ref id (a + l.toNat) (u - l).toNat e (cap.map (· - l.toNat))))
    else none
  | _ => none

def iadv (esz : Nat) (x : V) (i : Int) : Option V :=
  match x with
  | .sl _ l => if 0 ≤ i then match l[i.toNat]? with
    | some e => if e.cells.length = esz then some (.vptr e.cells) else none
    | none => none else none
  | .ref id lo len e _ => if 0 ≤ i ∧ i < len ∧ e = esz then some (.ptr id (lo + i.toNat) 0) else none
  | _ => none

/-- The next rune of a string (only ASCII is read). -/
def nxtv (h : H) (x : V) : Option (V × H) :=
  match x with
  | .ptr id 0 0 => match h.get id with
    | some (.iter s pos) => match s[pos]? with
      | none => some (.tup [.bool false], h)
      | some c => if c < 128 then some (.tup [.bool true, .int .i64 pos, .int .i32 c], h.set id (.iter s (pos + 1))) else none
    | _ => none
  | _ => none

def pairs (fr : Fr) : List (Nat × O) → Option (List (Nat × V))
  | [] => some []
  | (i, o) :: l => match o.ev fr, pairs fr l with
    | some v, some vs => some ((i, v) :: vs)
    | _, _ => none
def trips (fr : Fr) : List (Nat × Nat × O) → Option (List (Nat × Nat × V))
  | [] => some []
  | (i, n, o) :: l => match o.ev fr, trips fr l with
    | some v, some vs => some ((i, n, v) :: vs)
    | _, _ => none

def oint (fr : Fr) : Option O → Option (Option Int)
  | none => some none
  | some o => match o.ev fr with
    | some (.int _ n) => some (some n)
    | _ => none

/-- The index of the first byte that is n, or -1. -/
def ixb : List Nat → Int → Nat → Int
  | [], _, _ => -1
  | c :: r, n, k => if (c : Int) = n then (k : Int) else ixb r n (k + 1)

/-- What an operation computes that neither reads nor writes memory. -/
def stepP (fr : Fr) : I → Option V
  | .mv x => x.ev fr
  | .pick c a b => match c.ev fr with
    | some (.bool true) => a.ev fr
    | some (.bool false) => b.ev fr
    | _ => none
  | .build z ps => match trips fr ps with
    | some l => (fill z l).map .agg
    | none => none
  | .bslF esz z n ps => match pairs fr ps with
    | some l => match fillE esz (List.replicate n z) l with
      | some es => if z.cells.length = esz ∧ 0 < esz then some (.sl true es) else none
      | none => none
    | none => none
  | .nck x => match x.ev fr with
    | some v => match nilv v with
      | some (_, false) => some v
      | _ => none
    | none => none
  | .bin b x y => match x.ev fr, y.ev fr with
    | some v, some w => binv b v w
    | _, _ => none
  | .eqv ne ag ks x y => match x.ev fr, y.ev fr with
    | some v, some w => (eqv ag ks v w).map fun b => .bool (b != ne)
    | _, _ => none
  | .isnil k ne x => match x.ev fr with
    | some v => (nilk k v).map fun b => .bool (b != ne)
    | none => none
  | .un u x => match u, x.ev fr with
    | .not, some (.bool b) => some (.bool !b)
    | .neg, some (.int k n) => some (.int k (wrp k (0 - n)))
    | _, _ => none
  | .cvt k x => match x.ev fr with
    | some (.int _ n) => some (.int k (wrp k n))
    | _ => none
  | .cvS x => match x.ev fr with
    | some (.str s) => some (.str s)
    | _ => none
  | .mkf f a b => match evs fr a, evs fr b with
    | some x, some y => some (.fn f x y)
    | _, _ => none
  | .slc esz x lo hi => match x.ev fr, oint fr lo, oint fr hi with
    | some v, some l, some u => slcv esz v l u
    | _, _, _ => none
  | .fad x off => match x.ev fr with
    | some (.ptr id i o) => some (.ptr id i (o + off))
    | some (.vptr cs) => if off < cs.length then some (.vptr (cs.drop off)) else none
    | _ => none
  | .fld x off n ag => match x.ev fr with
    | some (.agg cs) => match cut cs off n with
      | some l => mk ag l
      | none => none
    | _ => none
  | .iad esz x i => match x.ev fr, i.ev fr with
    | some v, some (.int _ n) => iadv esz v n
    | _, _ => none
  | .iadA len esz x i => match x.ev fr, i.ev fr with
    | some (.ptr id j o), some (.int _ n) => if 0 ≤ n ∧ n < len then some (.ptr id j (o + n.toNat * esz)) else none
    | _, _ => none
  | .idx x i => match x.ev fr, i.ev fr with
    | some (.str s), some (.int _ n) => if 0 ≤ n then match s[n.toNat]? with
      | some c => some (.int .u8 c)
      | none => none else none
    | _, _ => none
  | .idxA len esz ag x i => match x.ev fr, i.ev fr with
    | some (.agg cs), some (.int _ n) => if 0 ≤ n ∧ n < len then match cut cs (n.toNat * esz) esz with
      | some l => mk ag l
      | none => none else none
    | _, _ => none
  | .ext x i => match x.ev fr with
    | some (.tup vs) => vs[i]?
    | _ => none
  | .len k x => match k, x.ev fr with
    | true, some (.str s) => some (.int .i64 s.length)
    | false, some (.sl _ l) => some (.int .i64 l.length)
    | false, some (.ref _ _ n _ _) => some (.int .i64 n)
    | _, _ => none
  | .mx xs => match evs fr xs with
    | some (v :: l) => foldv mxv v l
    | _ => none
  | .mn xs => match evs fr xs with
    | some (v :: l) => foldv mnv v l
    | _ => none
  | .mkI t x => (x.ev fr).map (.iface t ·)
  | .ixb x c => match x.ev fr, c.ev fr with
    | some (.str s), some (.int .u8 n) => if 0 ≤ n ∧ n < 256 then some (.int .i64 (ixb s n 0)) else none
    | _, _ => none
  | _ => none

/-- What an operation makes that takes a new name: its value, and the new block. -/
def stepE (fr : Fr) (nid : Nat) : I → Option (V × Blk)
  | .alloc z => if 0 < z.cells.length then some (.ptr nid 0 0, .row [z] z.cells.length .rw) else none
  | .box x n => match x.ev fr with
    | some v => if v.cells.length = n ∧ 0 < n then some (.ptr nid 0 0, .row [v] n .rw) else none
    | none => none
  | .cvB x => match x.ev fr with
    | some (.str s) => if s.length < bound then some (.ref nid 0 s.length 1 none, .row (s.map fun (c : Nat) => V.int .u8 (c : Int)) 1 .rw) else none
    | _ => none
  | .rng x => match x.ev fr with
    | some (.str s) => some (.ptr nid 0 0, .iter s 0)
    | _ => none
  | .bsl esz z n ps => match pairs fr ps with
    | some l => match fillE esz (List.replicate n z) l with
      | some es => if z.cells.length = esz ∧ 0 < esz ∧ 0 < n then some (.ref nid 0 n esz (some n), .row es esz .rw) else none
      | none => none
    | none => none
  | _ => none

/-- The sorts of operations: pure; a load; one that takes a new name; a store; all that acts in another way. -/
inductive Sort5 where
  | p | r | e | w | c
  deriving DecidableEq, Inhabited

def I.sort : I → Sort5
  | .ld .. => .r
  | .st .. => .w
  | .alloc .. | .box .. | .bsl .. | .cvB .. | .msl .. | .rng .. => .e
  | .call .. | .callv .. | .app .. | .appz .. | .nxt .. | .fz .. | .cpy .. => .c
  | _ => .p

abbrev CallF := Nat → List V → H → Option (V × H)

/-- It may take a new name. -/
def I.takes (o : I) : Bool := match o with
  | .app .. => true
  | .appz .. => true
  | o => o.sort == .e

/-- What was seen while a region ran: of each act the memory before and behind it; of each load and store the name. -/
structure Log where
  cs : List (Nat × H × H)
  ls : List (Nat × Nat)
  deriving Inhabited

def Log.push (lg : Log) (ix : Nat) (h h' : H) (a : Option Nat) : Log :=
  { cs := (ix, h, h') :: lg.cs, ls := match a with | some id => (ix, id) :: lg.ls | none => lg.ls }

def addrOf (fr : Fr) (nid : Nat) : I → Option Nat
  | .ld _ _ a | .st _ a _ => match a.ev fr with
    | some (.ptr id _ _) => some id
    | _ => none
  | .alloc .. | .box .. | .bsl .. | .cvB .. | .msl .. | .rng .. => some nid
  | _ => none

def wantedv (fr : Fr) : Option (Nat × Bool) → Option Bool
  | none => some true
  | some (t, b) => match Fr.get fr t with
    | some (.bool c) => some (c == b)
    | some .und => some false
    | _ => none

def putv (fr : Fr) : Option Nat → V → Fr
  | none, _ => fr
  | some d, v => Fr.set fr d v

/-- An act: a call, an append, a step of an iterator, a slice that is made by value. -/
def stepC (cf : CallF) (fr : Fr) (h : H) (nid : Nat) : I → Option (V × H)
  | .call f xs => match evs fr xs with
    | some vs => cf f vs h
    | none => none
  | .callv x xs => match x.ev fr, evs fr xs with
    | some (.fn f a b), some vs => cf f (a ++ vs ++ b) h
    | _, _ => none
  | .app esz s x => match s.ev fr, x.ev fr with
    | some v, some w => appv esz h nid v w
    | _, _ => none
  | .appz esz s x => match s.ev fr, x.ev fr with
    | some v, some w => appzv esz h nid v w
    | _, _ => none
  | .nxt x => match x.ev fr with
    | some v => nxtv h v
    | none => none
  | .fz x => match x.ev fr with
    | some v => frz h v
    | none => none
  | _ => none

def stepc (cf : CallF) (fr : Fr) (h : H) (nid : Nat) (i : I) : Option (V × H) :=
  match i.sort with
  | .p => (stepP fr i).map (·, h)
  | .r => match i with
    | .ld n ag a => match a.ev fr with
      | some p => (ldv h n ag p).map (·, h)
      | none => none
    | _ => none
  | .e => (stepE fr nid i).map fun (v, b) => (v, h.set nid b)
  | .w => match i with
    | .st n a x => match a.ev fr, x.ev fr with
      | some p, some v => (stv h n p v).map (V.tup [], ·)
      | _, _ => none
    | _ => none
  | .c => stepC cf fr h nid i

/-- The value undef is written where an operation is passed by. -/
def runOps (cf : CallF) (tick : Nat) (logged : Bool) : List Op1 → Fr → H → Log → Option (Fr × H × Log)
  | [], fr, h, lg => some (fr, h, lg)
  | o :: r, fr, h, lg =>
    match wantedv fr o.g with
    | none => none
    | some false => runOps cf tick logged r (putv fr o.dst .und) h lg
    | some true =>
      match stepc cf fr h (tick * 256 + o.ix) o.op with
      | none => none
      | some (v, h') =>
        runOps cf tick logged r (putv fr o.dst v) h'
          (if logged then lg.push o.ix h h' (addrOf fr (tick * 256 + o.ix) o.op) else lg)

def findL {α : Type} (n : Nat) : List (Nat × α) → Option α
  | [] => none
  | (k, v) :: r => if n = k then some v else findL n r

/-- `(false, c, l)`: what load l reads is not changed by act c. `(true, a, b)`: the two stores a and b go to different blocks. -/
def chkOk (lg : Log) : List (Bool × Nat × Nat) → Bool
  | [] => true
  | (w, c, l) :: r =>
    (if w then (match findL c lg.ls, findL l lg.ls with
      | some a, some b => !(a == b)
      | _, _ => true)
    else match findL c lg.cs, findL l lg.ls with
      | some (a, b), some id => obeq (a.get id) (b.get id)
      | _, _ => true) && chkOk lg r

def loopN (b : Fr → H → Option (X × Fr × H)) : Nat → Fr → H → Option (X × Fr × H)
  | 0, _, _ => none
  | n + 1, fr, h => match b fr h with
    | some (.norm, fr', h') => loopN b n fr' h'
    | r => r

def exec (cf : CallF) (k : Nat) : IC → Fr → H → Option (X × Fr × H)
  | .skip, fr, h => some (.norm, fr, h)
  | .reg _ al ops chk out, fr, h =>
    let h0 := if al then { h with nx := h.nx + 1 } else h
    match runOps cf h.nx (!chk.isEmpty) ops fr h0 ⟨[], []⟩ with
    | some (fr', h', lg) => if chkOk lg chk then some (.norm, (match out with | some l => Fr.keep l fr' | none => fr'), h') else none
    | none => none
  | .seq a b, fr, h => match exec cf k a fr h with
    | some (.norm, fr', h') => exec cf k b fr' h'
    | r => r
  | .cond c a b, fr, h => match c.ev fr with
    | some (.bool true) => exec cf k a fr h
    | some (.bool false) => exec cf k b fr h
    | _ => none
  | .block id b, fr, h => match exec cf k b fr h with
    | some (.brk j, fr', h') => if j = id then some (.norm, fr', h') else some (.brk j, fr', h')
    | r => r
  | .loop b, fr, h => loopN (exec cf k b) k fr h
  | .exit id, fr, h => some (.brk id, fr, h)
  | .ret, fr, h => some (.ret, fr, h)

def rv (fr : Fr) (h : H) : RV → Option V
  | .tmp t => Fr.get fr t
  | .cell t n ag => match Fr.get fr t with
    | some p => ldv h n ag p
    | none => none
def rvs (fr : Fr) (h : H) : List RV → Option (List V)
  | [] => some []
  | r :: l => match rv fr h r, rvs fr h l with
    | some v, some vs => some (v :: vs)
    | _, _ => none
def pack : List V → V
  | [v] => v
  | vs => .tup vs

def enter : Nat → List V → Fr
  | _, [] => []
  | n, v :: l => (n, v) :: enter (n + 1) l

def call (fns : Nat → Option Fun) : Nat → CallF
  | 0, _, _, _ => none
  | n + 1, f, args, h =>
    match fns f with
    | none => none
    | some fn =>
      match exec (call fns n) n fn.body (enter 0 args) h with
      | some (x, fr, h') => if x.isBrk then none else match rvs fr h' fn.res with
        | some vs => if fn.fz then (frzR h' vs).map fun (vs', h2) => (pack vs', h2) else some (pack vs, h')
        | none => none
      | none => none

end Go.Proofs.Ytakahhnlbciicaa.Ai

namespace Go.Proofs.Ytakahhnlbciicaa.Ai
open Go

/-! ### The memory -/
theorem Tr.get_nil (n : Nat) : Tr.get .nil n = none := rfl
theorem brec_ite {α : Type} (a b : Nat) (x y : α) : @Bool.rec (fun _ => α) y x (Nat.beq a b) = if a = b then x else y := by
  by_cases h : a = b
  · have hb : Nat.beq a b = true := by rw [Nat.beq_eq]; exact h
    rw [if_pos h, hb]
  · rw [if_neg h]
    have : Nat.beq a b = false := by
      cases hb : Nat.beq a b
      · rfl
      · rw [Nat.beq_eq] at hb; exact absurd hb h
    rw [this]
theorem Tr.get_node (v : Option Blk) (l r : Tr) (n : Nat) : Tr.get (.node v l r) n = if n = 0 then v else if n % 2 = 1 then l.get (n / 2) else r.get (n / 2 - 1) :=
  (brec_ite n 0 _ _).trans (by rw [brec_ite]; rfl)
theorem Tr.sing_succ (b : Blk) (f n : Nat) : Tr.sing b (f + 1) n = if n = 0 then .node (some b) .nil .nil else if n % 2 = 1 then .node none (Tr.sing b f (n / 2)) .nil else .node none .nil (Tr.sing b f (n / 2 - 1)) :=
  (brec_ite n 0 _ _).trans (by rw [brec_ite]; rfl)
theorem Tr.put_nil (n : Nat) (b : Blk) : Tr.put .nil n b = Tr.sing b (n + 1) n := rfl
theorem Tr.put_node (n : Nat) (b : Blk) (v : Option Blk) (l r : Tr) : Tr.put (.node v l r) n b = if n = 0 then .node (some b) l r else if n % 2 = 1 then .node v (Tr.put l (n / 2) b) r else .node v l (Tr.put r (n / 2 - 1) b) :=
  (brec_ite n 0 _ _).trans (by rw [brec_ite]; rfl)
theorem Tr.get_sing (b : Blk) : ∀ (f n m : Nat), n < f → (Tr.sing b f n).get m = if m = n then some b else none
  | 0, _, _, h => absurd h (Nat.not_lt_zero _)
  | f + 1, n, m, h => by
    rw [Tr.sing_succ]
    split
    · subst n; rw [Tr.get_node]; split
      · rfl
      · split <;> rfl
    · split
      · rw [Tr.get_node]
        by_cases hm : m = 0
        · simp [hm]; omega
        · simp only [hm, if_false]
          by_cases hm1 : m % 2 = 1
          · simp only [hm1, if_true]
            rw [Tr.get_sing b f (n / 2) (m / 2) (by omega)]
            by_cases e : m = n
            · simp [e]
            · rw [if_neg (by omega), if_neg e]
          · simp only [hm1, if_false]; rw [if_neg (by omega)]; rfl
      · rw [Tr.get_node]
        by_cases hm : m = 0
        · simp [hm]; omega
        · simp only [hm, if_false]
          by_cases hm1 : m % 2 = 1
          · simp only [hm1, if_true]; rw [if_neg (by omega)]; rfl
          · simp only [hm1, if_false]
            rw [Tr.get_sing b f (n / 2 - 1) (m / 2 - 1) (by omega)]
            by_cases e : m = n
            · simp [e]
            · rw [if_neg (by omega), if_neg e]
theorem Tr.get_put : ∀ (t : Tr) (n : Nat) (b : Blk) (m : Nat), (t.put n b).get m = if m = n then some b else t.get m
  | .nil, n, b, m => by rw [Tr.put_nil, Tr.get_sing b (n + 1) n m (Nat.lt_succ_self _)]; rfl
  | .node v l r, n, b, m => by
    rw [Tr.put_node]
    split
    · subst n; simp only [Tr.get_node]; split <;> rfl
    · split
      · simp only [Tr.get_node]
        by_cases hm : m = 0
        · simp [hm]; omega
        · simp only [hm, if_false]
          by_cases hm1 : m % 2 = 1
          · simp only [hm1, if_true]
            rw [Tr.get_put l (n / 2) b (m / 2)]
            by_cases e : m = n
            · simp [e]
            · rw [if_neg (by omega), if_neg e]
          · simp only [hm1, if_false]; rw [if_neg (by omega)]
      · simp only [Tr.get_node]
        by_cases hm : m = 0
        · simp [hm]; omega
        · simp only [hm, if_false]
          by_cases hm1 : m % 2 = 1
          · simp only [hm1, if_true]; rw [if_neg (by omega)]
          · simp only [hm1, if_false]
            rw [Tr.get_put r (n / 2 - 1) b (m / 2 - 1)]
            by_cases e : m = n
            · simp [e]
            · rw [if_neg (by omega), if_neg e]

theorem H.get_set (h : H) (id : Nat) (b : Blk) (m : Nat) : (h.set id b).get m = if m = id then some b else h.get m :=
  Tr.get_put _ _ _ _
@[simp] theorem H.nx_set (h : H) (id : Nat) (b : Blk) : (h.set id b).nx = h.nx := rfl
@[simp] theorem H.get_nx (h : H) (n m : Nat) : H.get { h with nx := n } m = h.get m := rfl

/-! ### Equality by program -/
mutual
theorem V.beq_eq : ∀ (a b : V), V.beq a b = true → a = b
  | .int k n, b, h => by cases b <;> simp_all [V.beq]
  | .bool k, b, h => by cases b <;> simp_all [V.beq]
  | .str k, b, h => by cases b <;> simp_all [V.beq]
  | .agg k, b, h => by
    cases b <;> simp [V.beq] at h
    exact congrArg _ (V.beqs_eq _ _ h)
  | .tup k, b, h => by
    cases b <;> simp [V.beq] at h
    exact congrArg _ (V.beqs_eq _ _ h)
  | .nil, b, h => by cases b <;> simp_all [V.beq]
  | .ptr _ _ _, b, h => by cases b <;> simp_all [V.beq]
  | .vptr k, b, h => by
    cases b <;> simp [V.beq] at h
    exact congrArg _ (V.beqs_eq _ _ h)
  | .sl f k, b, h => by
    cases b <;> simp [V.beq] at h
    rw [h.1, V.beqs_eq _ _ h.2]
  | .ref _ _ _ _ _, b, h => by cases b <;> simp_all [V.beq]
  | .fn f x y, b, h => by
    cases b <;> simp [V.beq] at h
    rw [h.1, V.beqs_eq _ _ h.2.1, V.beqs_eq _ _ h.2.2]
  | .nfn, b, h => by cases b <;> simp_all [V.beq]
  | .iface t v, b, h => by
    cases b <;> simp [V.beq] at h
    rw [h.1, V.beq_eq _ _ h.2]
  | .nifc, b, h => by cases b <;> simp_all [V.beq]
  | .und, b, h => by cases b <;> simp_all [V.beq]
theorem V.beqs_eq : ∀ (a b : List V), V.beqs a b = true → a = b
  | [], b, h => by cases b <;> simp_all [V.beqs]
  | x :: l, b, h => by
    cases b <;> simp [V.beqs] at h
    rw [V.beq_eq _ _ h.1, V.beqs_eq _ _ h.2]
end
mutual
theorem V.beq_refl : ∀ (a : V), V.beq a a = true
  | .int k n => by simp [V.beq]
  | .bool k => by simp [V.beq]
  | .str k => by simp [V.beq]
  | .agg k => by simp [V.beq, V.beqs_refl]
  | .tup k => by simp [V.beq, V.beqs_refl]
  | .nil => rfl
  | .ptr _ _ _ => by simp [V.beq]
  | .vptr k => by simp [V.beq, V.beqs_refl]
  | .sl f k => by simp [V.beq, V.beqs_refl]
  | .ref _ _ _ _ _ => by simp [V.beq]
  | .fn f x y => by simp [V.beq, V.beqs_refl]
  | .nfn => rfl
  | .iface t v => by simp [V.beq, V.beq_refl]
  | .nifc => rfl
  | .und => rfl
theorem V.beqs_refl : ∀ (a : List V), V.beqs a a = true
  | [] => rfl
  | x :: l => by simp [V.beqs, V.beq_refl, V.beqs_refl]
end
theorem Blk.beq_eq (a b : Blk) (h : a.beq b = true) : a = b := by
  cases a <;> cases b <;> simp [Blk.beq] at h
  · rw [V.beqs_eq _ _ h.1, h.2.1, h.2.2]
  · rw [h.1, h.2]
  · rfl
theorem Blk.beq_refl (a : Blk) : a.beq a = true := by cases a <;> simp [Blk.beq, V.beqs_refl]
theorem obeq_eq (a b : Option Blk) (h : obeq a b = true) : a = b := by
  cases a <;> cases b <;> simp [obeq] at h
  · rfl
  · rw [Blk.beq_eq _ _ h]
theorem obeq_refl (a : Option Blk) : obeq a a = true := by cases a <;> simp [obeq, Blk.beq_refl]
theorem obeq_iff (a b : Option Blk) : obeq a b = true ↔ a = b := ⟨obeq_eq a b, fun h => h ▸ obeq_refl a⟩

/-! ### Frames -/
theorem Fr.get_cons (k : Nat) (v : V) (r : Fr) (n : Nat) : Fr.get ((k, v) :: r) n = if n = k then some v else Fr.get r n := brec_ite n k _ _
theorem Fr.get_nil (n : Nat) : Fr.get [] n = none := rfl
theorem Fr.get_set (fr : Fr) (n : Nat) (x : V) (m : Nat) : (Fr.set fr n x).get m = if m = n then some x else fr.get m := Fr.get_cons n x fr m
theorem bit_eq (m k : Nat) : Nat.beq (Nat.land 1 (Nat.shiftRight m k)) 0 = !m.testBit k := by
  have : m.testBit k = !(Nat.beq (Nat.land 1 (Nat.shiftRight m k)) 0) := by
    simp only [Nat.testBit, bne]
    congr 1
    rw [Bool.eq_iff_iff, beq_iff_eq, Nat.beq_eq]; rfl
  rw [this, Bool.not_not]
theorem Fr.keep_cons (m k : Nat) (v : V) (r : Fr) : Fr.keep m ((k, v) :: r) = if m.testBit k then (k, v) :: Fr.keep (m ^^^ 2 ^ k) r else Fr.keep m r := by
  show @Bool.rec (fun _ => Fr) ((k, v) :: Fr.keep (Nat.xor m (Nat.pow 2 k)) r) (Fr.keep m r) (Nat.beq (Nat.land 1 (Nat.shiftRight m k)) 0) = _
  rw [bit_eq]
  cases m.testBit k <;> rfl
theorem Fr.get_keep : ∀ (fr : Fr) (out m : Nat), (Fr.keep out fr).get m = if out.testBit m then fr.get m else none
  | [], out, m => by show none = _; rw [Fr.get_nil]; split <;> rfl
  | (k, v) :: r, out, m => by
    rw [Fr.keep_cons]
    cases hb : out.testBit k
    · simp only [Bool.false_eq_true, if_false]
      rw [Fr.get_keep r out m, Fr.get_cons]
      by_cases e : m = k
      · subst e; simp [hb]
      · simp [e]
    · simp only [if_true]
      rw [Fr.get_cons, Fr.get_cons, Fr.get_keep]
      by_cases e : m = k
      · subst e; simp [hb]
      · rw [Nat.testBit_xor, Nat.testBit_two_pow]
        simp [e, Ne.symm e]

/-- Two frames that hold the same. -/
def FEq (a b : Fr) : Prop := ∀ t, a.get t = b.get t
theorem FEq.refl (a : Fr) : FEq a a := fun _ => rfl
theorem FEq.symm {a b : Fr} (h : FEq a b) : FEq b a := fun t => (h t).symm
theorem FEq.trans {a b c : Fr} (h : FEq a b) (k : FEq b c) : FEq a c := fun t => (h t).trans (k t)
theorem FEq.set {a b : Fr} (h : FEq a b) (n : Nat) (x : V) : FEq (a.set n x) (b.set n x) := fun t => by rw [Fr.get_set, Fr.get_set, h t]
theorem FEq.putv {a b : Fr} (h : FEq a b) (d : Option Nat) (x : V) : FEq (putv a d x) (putv b d x) := by
  cases d
  · exact h
  · exact h.set _ _
theorem FEq.keep {a b : Fr} (h : FEq a b) (l : Nat) : FEq (Fr.keep l a) (Fr.keep l b) := fun t => by rw [Fr.get_keep, Fr.get_keep, h t]
theorem putv_comm (fr : Fr) (d e : Option Nat) (x y : V) (h : ∀ n, d = some n → e ≠ some n) : FEq (putv (putv fr d x) e y) (putv (putv fr e y) d x) := by
  intro t
  cases d with
  | none => rfl
  | some d => cases e with
    | none => rfl
    | some e =>
      have : d ≠ e := fun he => h d rfl (he ▸ rfl)
      simp only [putv, Fr.get_set]
      by_cases h1 : t = d <;> by_cases h2 : t = e <;> simp [h1, h2] <;> omega
theorem get_putv (fr : Fr) (d : Option Nat) (x : V) (t : Nat) : (putv fr d x).get t = if d = some t then some x else fr.get t := by
  cases d with
  | none => simp [putv]
  | some d => simp only [putv, Fr.get_set, Option.some.injEq]; by_cases h : t = d <;> simp [h, eq_comm]

/-! ### An operation looks at its operands alone -/
/-- The two frames hold the same at these operands. -/
def Agree (a b : Fr) (l : List O) : Prop := ∀ o ∈ l, o.ev a = o.ev b
theorem Agree.of_feq {a b : Fr} (h : FEq a b) (l : List O) : Agree a b l := fun o _ => by cases o <;> simp [O.ev, h _]
theorem evs_agree {a b : Fr} : ∀ (l : List O), Agree a b l → evs a l = evs b l
  | [], _ => rfl
  | o :: l, h => by simp only [evs]; rw [h o (by simp), evs_agree l (fun x hx => h x (by simp [hx]))]
theorem pairs_agree {a b : Fr} : ∀ (l : List (Nat × O)), Agree a b (l.map (·.2)) → pairs a l = pairs b l
  | [], _ => rfl
  | (i, o) :: l, h => by simp only [pairs]; rw [h o (by simp), pairs_agree l (fun x hx => h x (by simp at hx ⊢; right; exact hx))]
theorem trips_agree {a b : Fr} : ∀ (l : List (Nat × Nat × O)), Agree a b (l.map (·.2.2)) → trips a l = trips b l
  | [], _ => rfl
  | (i, n, o) :: l, h => by simp only [trips]; rw [h o (by simp), trips_agree l (fun x hx => h x (by simp at hx ⊢; right; exact hx))]
theorem oint_agree {a b : Fr} (o : Option O) (h : Agree a b o.toList) : oint a o = oint b o := by
  cases o with
  | none => rfl
  | some o => simp only [oint]; rw [h o (by simp)]

theorem stepP_agree {a b : Fr} (i : I) (h : Agree a b (uses i)) : stepP a i = stepP b i := by
  have h0 : ∀ o, o ∈ uses i → o.ev a = o.ev b := h
  cases i <;> simp only [uses] at h h0 <;> simp only [stepP]
  case build z ps => rw [trips_agree _ h]
  case bslF e z n ps => rw [pairs_agree _ h]
  case mkf f x y => rw [evs_agree x (fun o ho => h o (by simp [ho])), evs_agree y (fun o ho => h o (by simp [ho]))]
  case slc e x lo hi => rw [h0 x (by simp), oint_agree lo (fun o ho => h o (by simp [ho])), oint_agree hi (fun o ho => h o (by simp [ho]))]
  case mx xs => rw [evs_agree _ h]
  case mn xs => rw [evs_agree _ h]
  case pick c x y => rw [h0 c (by simp), h0 x (by simp), h0 y (by simp)]
  all_goals first
    | rfl
    | (rename_i x y; rw [h0 x (by simp), h0 y (by simp)])
    | (rename_i x; rw [h0 x (by simp)])
    | (rename_i _ x; rw [h0 x (by simp)])
    | (rename_i x _; rw [h0 x (by simp)])
    | (rename_i x _ _ _; rw [h0 x (by simp)])
    | (rename_i _ _ x y; rw [h0 x (by simp), h0 y (by simp)])
    | (rename_i _ _ x; rw [h0 x (by simp)])
theorem stepE_agree {a b : Fr} (n : Nat) (i : I) (h : Agree a b (uses i)) : stepE a n i = stepE b n i := by
  have h0 : ∀ o, o ∈ uses i → o.ev a = o.ev b := h
  cases i <;> simp only [uses] at h h0 <;> simp only [stepE]
  case box x n => rw [h0 x (by simp)]
  case cvB x => rw [h0 x (by simp)]
  case rng x => rw [h0 x (by simp)]
  case bsl e z n ps => rw [pairs_agree _ h]
theorem stepC_agree {a b : Fr} (cf : CallF) (m : H) (n : Nat) (i : I) (h : Agree a b (uses i)) : stepC cf a m n i = stepC cf b m n i := by
  have h0 : ∀ o, o ∈ uses i → o.ev a = o.ev b := h
  cases i <;> simp only [uses] at h h0 <;> simp only [stepC]
  case call f xs => rw [evs_agree _ h]
  case callv x xs => rw [h0 x (by simp), evs_agree xs (fun o ho => h o (by simp [ho]))]
  case app e x y => rw [h0 x (by simp), h0 y (by simp)]
  case appz e x y => rw [h0 x (by simp), h0 y (by simp)]
  case nxt x => rw [h0 x (by simp)]
  case fz x => rw [h0 x (by simp)]
theorem stepc_agree {a b : Fr} (cf : CallF) (m : H) (n : Nat) (i : I) (h : Agree a b (uses i)) : stepc cf a m n i = stepc cf b m n i := by
  have h0 : ∀ o, o ∈ uses i → o.ev a = o.ev b := h
  unfold stepc
  rw [stepP_agree i h, stepE_agree n i h, stepC_agree cf m n i h]
  split
  · rfl
  · cases i <;> simp only [uses] at h0 <;> simp only []
    case ld n ag x _ => rw [h0 x (by simp)]
  · rfl
  · cases i <;> simp only [uses] at h0 <;> simp only []
    case st n x y _ => rw [h0 x (by simp), h0 y (by simp)]
  · rfl
theorem addrOf_agree {a b : Fr} (n : Nat) (i : I) (h : Agree a b (uses i)) : addrOf a n i = addrOf b n i := by
  have h0 : ∀ o, o ∈ uses i → o.ev a = o.ev b := h
  cases i <;> simp only [uses] at h0 <;> simp only [addrOf]
  · rename_i x; rw [h0 x (by simp)]
  · rename_i x y; rw [h0 x (by simp)]
theorem wantedv_agree {a b : Fr} (g : Option (Nat × Bool)) (h : ∀ t c, g = some (t, c) → a.get t = b.get t) : wantedv a g = wantedv b g := by
  cases g with
  | none => rfl
  | some p => obtain ⟨t, c⟩ := p; simp only [wantedv]; rw [h t c rfl]

end Go.Proofs.Ytakahhnlbciicaa.Ai

namespace Go.Proofs.Ytakahhnlbciicaa.Ai
open Go

/-- k is h with blocks of X more. -/
def Ext (X : Nat → Option Blk) (h k : H) : Prop := k.nx = h.nx ∧ ∀ id, k.get id = (h.get id).or (X id)
theorem Ext.some {X : Nat → Option Blk} {h k : H} (e : Ext X h k) {id : Nat} {b : Blk} (hb : h.get id = some b) : k.get id = some b := by
  rw [e.2, hb]; rfl
theorem Ext.set {X : Nat → Option Blk} {h k : H} (e : Ext X h k) (id : Nat) (b : Blk) : Ext X (h.set id b) (k.set id b) := by
  refine ⟨e.1, fun m => ?_⟩
  rw [H.get_set, H.get_set, e.2 m]
  by_cases hm : m = id <;> simp [hm]
theorem Ext.refl (h : H) : Ext (fun _ => none) h h := ⟨rfl, fun id => by simp⟩

theorem ldv_ext {X : Nat → Option Blk} {h k : H} (e : Ext X h k) {n : Nat} {ag : Bool} {v r : V} (hr : ldv h n ag v = some r) : ldv k n ag v = some r := by
  cases v <;> simp only [ldv] at hr ⊢
  case ptr id i off =>
    cases hb : h.get id with
    | none => rw [hb] at hr; simp at hr
    | some b => rw [e.some hb]; rw [hb] at hr; exact hr
  all_goals first | exact hr | simp at hr
theorem stv_ext {X : Nat → Option Blk} {h k : H} (e : Ext X h k) {n : Nat} {a x : V} {h' : H} (hr : stv h n a x = some h') :
    ∃ k', stv k n a x = some k' ∧ Ext X h' k' := by
  cases a <;> simp only [stv] at hr <;> try (simp at hr; done)
  case ptr id i off =>
    cases hb : h.get id with
    | none => rw [hb] at hr; simp at hr
    | some b =>
      rw [hb] at hr
      cases b with
      | row es esz kd =>
        simp only at hr
        split at hr
        · simp at hr
        · rename_i hk
          split at hr
          · rename_i el hel
            split at hr
            · rename_i hc
              split at hr
              · rename_i e' he'
                simp only [Option.some.injEq] at hr
                subst hr
                refine ⟨_, ?_, e.set _ _⟩
                simp only [stv]
                rw [e.some hb]
                simp only [hk, if_false, hel]
                rw [if_pos hc, he']
              · simp at hr
            · simp at hr
          · simp at hr
      | iter => simp at hr
      | dead => simp at hr
theorem elems_ext {X : Nat → Option Blk} {h k : H} (e : Ext X h k) {v : V} {l : List V} (hr : elems h v = some l) : elems k v = some l := by
  cases v <;> simp only [elems] at hr ⊢ <;> try (first | exact hr | simp at hr; done)
  case ref id lo len es cap =>
    cases hb : h.get id with
    | none => rw [hb] at hr; simp at hr
    | some b => rw [e.some hb]; rw [hb] at hr; exact hr
theorem appv_ext {X : Nat → Option Blk} {h k : H} (e : Ext X h k) {esz nid : Nat} {s x v : V} {h' : H} (hr : appv esz h nid s x = some (v, h')) :
    ∃ k', appv esz k nid s x = some (v, k') ∧ Ext X h' k' := by
  unfold appv at hr ⊢
  cases hx : elems h x with
  | none => rw [hx] at hr; simp at hr
  | some l =>
    rw [hx] at hr; rw [elems_ext e hx]
    cases l with
    | nil =>
      simp only at hr ⊢
      split at hr
      · rename_i h1; rw [if_pos h1]; simp only [Option.some.injEq, Prod.mk.injEq] at hr ⊢; exact ⟨k, ⟨hr.1, rfl⟩, hr.2 ▸ e⟩
      · simp at hr
    | cons a l =>
      simp only at hr ⊢
      split at hr
      · simp at hr
      · rename_i h1
        rw [if_neg h1]
        cases s <;> simp only at hr ⊢ <;> try (simp at hr; done)
        case sl full l' =>
          split at hr
          · simp at hr
          · rename_i h2
            rw [if_neg h2]
            split at hr
            · simp at hr
            · rename_i h3
              rw [if_neg h3]
              split at hr
              · rename_i h4
                rw [if_pos h4]
                simp only [Option.some.injEq, Prod.mk.injEq] at hr ⊢
                exact ⟨_, ⟨hr.1, rfl⟩, hr.2 ▸ e.set _ _⟩
              · simp at hr
        case ref id lo len e' cap =>
          cases hb : h.get id with
          | none => rw [hb] at hr; simp at hr
          | some b =>
            rw [hb] at hr; rw [e.some hb]
            cases b with
            | iter => simp at hr
            | dead => simp at hr
            | row es ez kd =>
              simp only at hr ⊢
              split at hr
              · rename_i h2
                rw [if_pos h2]
                cases cap with
                | none =>
                  simp only at hr ⊢
                  split at hr
                  · rename_i h3
                    rw [if_pos h3]
                    simp only [Option.some.injEq, Prod.mk.injEq] at hr ⊢
                    exact ⟨_, ⟨hr.1, rfl⟩, hr.2 ▸ (e.set _ _).set _ _⟩
                  · simp at hr
                | some c =>
                  simp only at hr ⊢
                  split at hr
                  · rename_i h3
                    rw [if_pos h3]
                    split at hr
                    · simp at hr
                    · rename_i h4
                      rw [if_neg h4]
                      simp only [Option.some.injEq, Prod.mk.injEq] at hr ⊢
                      exact ⟨_, ⟨hr.1, rfl⟩, hr.2 ▸ e.set _ _⟩
                  · rename_i h3
                    rw [if_neg h3]
                    simp only [Option.some.injEq, Prod.mk.injEq] at hr ⊢
                    exact ⟨_, ⟨hr.1, rfl⟩, hr.2 ▸ e.set _ _⟩
              · simp at hr
theorem nxtv_ext {X : Nat → Option Blk} {h k : H} (e : Ext X h k) {x v : V} {h' : H} (hr : nxtv h x = some (v, h')) :
    ∃ k', nxtv k x = some (v, k') ∧ Ext X h' k' := by
  unfold nxtv at hr ⊢
  split at hr
  · rename_i id
    cases hb : h.get id with
    | none => rw [hb] at hr; simp at hr
    | some b =>
      rw [hb] at hr; rw [e.some hb]
      cases b with
      | row => simp at hr
      | dead => simp at hr
      | iter s pos =>
        simp only at hr ⊢
        split at hr
        · simp only [Option.some.injEq, Prod.mk.injEq] at hr ⊢; exact ⟨k, ⟨hr.1, rfl⟩, hr.2 ▸ e⟩
        · split at hr
          · rename_i h2
            rw [if_pos h2]
            simp only [Option.some.injEq, Prod.mk.injEq] at hr ⊢
            exact ⟨_, ⟨hr.1, rfl⟩, hr.2 ▸ e.set _ _⟩
          · simp at hr
  · simp at hr
theorem frz1_ext {X : Nat → Option Blk} {h k : H} (e : Ext X h k) {x v : V} {h' : H} (hr : frz1 h x = some (v, h')) :
    ∃ k', frz1 k x = some (v, k') ∧ Ext X h' k' := by
  cases x <;> simp only [frz1] at hr ⊢ <;> try (simp only [Option.some.injEq, Prod.mk.injEq] at hr ⊢; exact ⟨k, ⟨hr.1, rfl⟩, hr.2 ▸ e⟩)
  case ref id lo len es cap =>
    cases hb : h.get id with
    | none => rw [hb] at hr; simp at hr
    | some b =>
      rw [hb] at hr; rw [e.some hb]
      cases b with
      | iter => simp at hr
      | dead => simp at hr
      | row l ez kd =>
        simp only at hr ⊢
        split at hr
        · rename_i h2
          rw [if_pos h2]
          simp only [Option.some.injEq, Prod.mk.injEq] at hr ⊢
          exact ⟨_, ⟨hr.1, rfl⟩, hr.2 ▸ e.set _ _⟩
        · simp at hr
theorem frzL_ext {X : Nat → Option Blk} : ∀ {l : List V} {h k : H} (_ : Ext X h k) {v : List V} {h' : H} (_ : frzL h l = some (v, h')),
    ∃ k', frzL k l = some (v, k') ∧ Ext X h' k'
  | [], h, k, e, v, h', hr => by
    simp only [frzL, Option.some.injEq, Prod.mk.injEq] at hr ⊢
    exact ⟨k, ⟨hr.1, rfl⟩, hr.2 ▸ e⟩
  | x :: l, h, k, e, v, h', hr => by
    simp only [frzL] at hr ⊢
    cases h1 : frz1 h x with
    | none => rw [h1] at hr; simp at hr
    | some p =>
      obtain ⟨v1, m1⟩ := p
      obtain ⟨k1, hk1, e1⟩ := frz1_ext e h1
      rw [h1] at hr; rw [hk1]
      simp only at hr ⊢
      cases h2 : frzL m1 l with
      | none => rw [h2] at hr; simp at hr
      | some q =>
        obtain ⟨v2, m2⟩ := q
        obtain ⟨k2, hk2, e2⟩ := frzL_ext e1 h2
        rw [h2] at hr; rw [hk2]
        simp only [Option.some.injEq, Prod.mk.injEq] at hr ⊢
        exact ⟨_, ⟨hr.1, rfl⟩, hr.2 ▸ e2⟩
theorem frz_ext {X : Nat → Option Blk} {h k : H} (e : Ext X h k) {x v : V} {h' : H} (hr : frz h x = some (v, h')) :
    ∃ k', frz k x = some (v, k') ∧ Ext X h' k' := by
  unfold frz at hr ⊢
  cases x <;> simp only at hr ⊢ <;> try exact frz1_ext e hr
  case agg cs =>
    cases h1 : frzL h cs with
    | none => rw [h1] at hr; simp at hr
    | some p =>
      obtain ⟨v1, m1⟩ := p
      obtain ⟨k1, hk1, e1⟩ := frzL_ext e h1
      rw [h1] at hr; rw [hk1]
      simp only [Option.some.injEq, Prod.mk.injEq] at hr ⊢
      exact ⟨_, ⟨hr.1, rfl⟩, hr.2 ▸ e1⟩
theorem frzR_ext {X : Nat → Option Blk} : ∀ {l : List V} {h k : H} (_ : Ext X h k) {v : List V} {h' : H} (_ : frzR h l = some (v, h')),
    ∃ k', frzR k l = some (v, k') ∧ Ext X h' k'
  | [], h, k, e, v, h', hr => by
    simp only [frzR, Option.some.injEq, Prod.mk.injEq] at hr ⊢
    exact ⟨k, ⟨hr.1, rfl⟩, hr.2 ▸ e⟩
  | x :: l, h, k, e, v, h', hr => by
    simp only [frzR] at hr ⊢
    cases h1 : frz h x with
    | none => rw [h1] at hr; simp at hr
    | some p =>
      obtain ⟨v1, m1⟩ := p
      obtain ⟨k1, hk1, e1⟩ := frz_ext e h1
      rw [h1] at hr; rw [hk1]
      simp only at hr ⊢
      cases h2 : frzR m1 l with
      | none => rw [h2] at hr; simp at hr
      | some q =>
        obtain ⟨v2, m2⟩ := q
        obtain ⟨k2, hk2, e2⟩ := frzR_ext e1 h2
        rw [h2] at hr; rw [hk2]
        simp only [Option.some.injEq, Prod.mk.injEq] at hr ⊢
        exact ⟨_, ⟨hr.1, rfl⟩, hr.2 ▸ e2⟩

/-- A callee answers the same where there is more memory. -/
def CExt (cf : CallF) : Prop := ∀ X f vs h k r h', Ext X h k → cf f vs h = some (r, h') → ∃ k', cf f vs k = some (r, k') ∧ Ext X h' k'

theorem appzv_ext {X : Nat → Option Blk} {h k : H} (e : Ext X h k) {esz nid : Nat} {s x v : V} {h' : H} (hr : appzv esz h nid s x = some (v, h')) : ∃ k', appzv esz k nid s x = some (v, k') ∧ Ext X h' k' := by
  unfold appzv at hr ⊢
  cases h1 : appv esz h nid s x with
  | none => rw [h1] at hr; cases hr
  | some p =>
    rw [h1] at hr
    obtain ⟨k1, hk1, e1⟩ := appv_ext e (v := p.1) (h' := p.2) h1
    rw [hk1]
    exact frz1_ext e1 hr

theorem stepC_ext {cf : CallF} (hcf : CExt cf) {X : Nat → Option Blk} {fr : Fr} {h k : H} (e : Ext X h k) {nid : Nat} {i : I} {v : V} {h' : H}
    (hr : stepC cf fr h nid i = some (v, h')) : ∃ k', stepC cf fr k nid i = some (v, k') ∧ Ext X h' k' := by
  cases i <;> simp only [stepC] at hr ⊢ <;> try (simp at hr; done)
  case call f xs =>
    cases hx : evs fr xs with
    | none => rw [hx] at hr; simp at hr
    | some vs => rw [hx] at hr; exact hcf _ _ _ _ _ _ _ e hr
  case callv x xs =>
    cases hx : x.ev fr with
    | none => rw [hx] at hr; simp at hr
    | some f =>
      rw [hx] at hr
      cases hy : evs fr xs with
      | none => rw [hy] at hr; cases f <;> simp at hr
      | some vs =>
        rw [hy] at hr
        cases f <;> simp only at hr ⊢ <;> try (simp at hr; done)
        exact hcf _ _ _ _ _ _ _ e hr
  case app ez s x =>
    cases hx : s.ev fr with
    | none => rw [hx] at hr; simp at hr
    | some f =>
      rw [hx] at hr
      cases hy : x.ev fr with
      | none => rw [hy] at hr; simp at hr
      | some vs => rw [hy] at hr; exact appv_ext e hr
  case appz ez s x =>
    cases hx : s.ev fr with
    | none => rw [hx] at hr; simp at hr
    | some f =>
      rw [hx] at hr
      cases hy : x.ev fr with
      | none => rw [hy] at hr; simp at hr
      | some vs => rw [hy] at hr; exact appzv_ext e hr
  case nxt x =>
    cases hx : x.ev fr with
    | none => rw [hx] at hr; simp at hr
    | some f => rw [hx] at hr; exact nxtv_ext e hr
  case fz x =>
    cases hx : x.ev fr with
    | none => rw [hx] at hr; simp at hr
    | some f => rw [hx] at hr; exact frz_ext e hr


theorem stepc_ext {cf : CallF} (hcf : CExt cf) {X : Nat → Option Blk} {fr : Fr} {h k : H} (e : Ext X h k) {nid : Nat} {i : I} {v : V} {h' : H}
    (hr : stepc cf fr h nid i = some (v, h')) : ∃ k', stepc cf fr k nid i = some (v, k') ∧ Ext X h' k' := by
  unfold stepc at hr ⊢
  split at hr
  · simp only [Option.map_eq_some_iff] at hr ⊢
    obtain ⟨w, hw, hr⟩ := hr
    simp only [Prod.mk.injEq] at hr
    exact ⟨k, ⟨w, hw, by simp [hr.1]⟩, hr.2 ▸ e⟩
  · split at hr
    · rename_i n ag a _
      cases ha : a.ev fr with
      | none => rw [ha] at hr; simp at hr
      | some p =>
        rw [ha] at hr
        simp only [Option.map_eq_some_iff] at hr ⊢
        obtain ⟨w, hw, hr⟩ := hr
        simp only [Prod.mk.injEq] at hr
        exact ⟨k, ⟨w, ldv_ext e hw, by simp [hr.1]⟩, hr.2 ▸ e⟩
    · simp at hr
  · simp only [Option.map_eq_some_iff] at hr ⊢
    obtain ⟨⟨w, b⟩, hw, hr⟩ := hr
    simp only [Prod.mk.injEq] at hr
    exact ⟨k.set nid b, ⟨(w, b), hw, by simp [hr.1]⟩, hr.2 ▸ e.set _ _⟩
  · split at hr
    · rename_i n a x _
      cases ha : a.ev fr with
      | none => rw [ha] at hr; simp at hr
      | some p => cases hx : x.ev fr with
        | none => rw [ha, hx] at hr; simp at hr
        | some y =>
          rw [ha, hx] at hr
          simp only [Option.map_eq_some_iff] at hr ⊢
          obtain ⟨w, hw, hr⟩ := hr
          simp only [Prod.mk.injEq] at hr
          obtain ⟨k', hk', e'⟩ := stv_ext e hw
          exact ⟨k', ⟨k', hk', by simp [hr.1]⟩, hr.2 ▸ e'⟩
    · simp at hr
  · exact stepC_ext hcf e hr

/-- Two logs of which the second saw no change where the first saw none. -/
def LRel (a b : Log) : Prop :=
  (∀ c, findL c b.ls = findL c a.ls) ∧ ∀ c, match findL c a.cs, findL c b.cs with
    | none, none => True
    | some (h, h'), some (k, k') => ∀ id, h.get id = h'.get id → k.get id = k'.get id
    | _, _ => False
theorem LRel.refl (a : Log) : LRel a a := ⟨fun _ => rfl, fun c => by cases h : findL c a.cs <;> simp⟩
theorem LRel.trans {a b c : Log} (h : LRel a b) (k : LRel b c) : LRel a c := by
  refine ⟨fun x => (k.1 x).trans (h.1 x), fun x => ?_⟩
  have h1 := h.2 x
  have h2 := k.2 x
  cases ha : findL x a.cs <;> cases hb : findL x b.cs <;> cases hc : findL x c.cs <;> simp only [ha, hb, hc] at h1 h2 ⊢
  exact fun id hi => h2 id (h1 id hi)
theorem LRel.chk {a b : Log} (h : LRel a b) : ∀ (l : List (Bool × Nat × Nat)), chkOk a l = true → chkOk b l = true
  | [], _ => rfl
  | (w, c, x) :: r, hc => by
    simp only [chkOk, Bool.and_eq_true] at hc ⊢
    refine ⟨?_, h.chk r hc.2⟩
    have h1 := hc.1
    cases w
    · simp only [Bool.false_eq_true, if_false] at h1 ⊢
      have h2 := h.2 c
      rw [h.1]
      cases ha : findL c a.cs <;> cases hb : findL c b.cs <;> simp only [ha, hb] at h1 h2 ⊢
      cases hx : findL x a.ls <;> simp only [hx] at h1 ⊢
      rw [obeq_iff] at h1 ⊢
      exact h2 _ h1
    · simp only [if_true] at h1 ⊢
      rw [h.1, h.1]; exact h1
theorem LRel.push {X : Nat → Option Blk} {a b : Log} (h : LRel a b) (ix : Nat) {m m' k k' : H} (e : Ext X m k) (e' : Ext X m' k') (o : Option Nat) :
    LRel (a.push ix m m' o) (b.push ix k k' o) := by
  refine ⟨fun c => by cases o <;> simp only [Log.push, findL, h.1], fun c => ?_⟩
  simp only [Log.push, findL]
  by_cases hc : c = ix
  · simp only [hc, if_true]
    intro id hi
    rw [e.2, e'.2, hi]
  · simp only [hc, if_false]; exact h.2 c

theorem runOps_ext {cf : CallF} (hcf : CExt cf) {X : Nat → Option Blk} (tick : Nat) (lgd : Bool) : ∀ (l : List Op1) {fr : Fr} {h k : H} {lg lg2 : Log} (_ : Ext X h k) (_ : LRel lg lg2)
    {fr' : Fr} {h' : H} {lg' : Log} (_ : runOps cf tick lgd l fr h lg = some (fr', h', lg')),
    ∃ k' lg2', runOps cf tick lgd l fr k lg2 = some (fr', k', lg2') ∧ Ext X h' k' ∧ LRel lg' lg2'
  | [], fr, h, k, lg, lg2, e, hl, fr', h', lg', hr => by
    simp only [runOps, Option.some.injEq, Prod.mk.injEq] at hr ⊢
    obtain ⟨rfl, rfl, rfl⟩ := hr
    exact ⟨k, lg2, ⟨rfl, rfl, rfl⟩, e, hl⟩
  | o :: l, fr, h, k, lg, lg2, e, hl, fr', h', lg', hr => by
    simp only [runOps] at hr ⊢
    split at hr
    · simp at hr
    · exact runOps_ext hcf tick lgd l e hl hr
    · cases hs : stepc cf fr h (tick * 256 + o.ix) o.op with
      | none => rw [hs] at hr; simp at hr
      | some p =>
        obtain ⟨v, m⟩ := p
        obtain ⟨k1, hk1, e1⟩ := stepc_ext hcf e hs
        rw [hs] at hr; rw [hk1]
        simp only at hr ⊢
        cases lgd
        · exact runOps_ext hcf tick false l e1 hl hr
        · exact runOps_ext hcf tick true l e1 (hl.push _ e e1 _) hr


theorem exec_ext {cf : CallF} (hcf : CExt cf) {Y : Nat → Option Blk} (n : Nat) : ∀ (c : IC) {fr : Fr} {h k : H} (_ : Ext Y h k) {x : X} {fr' : Fr} {h' : H}
    (_ : exec cf n c fr h = some (x, fr', h')), ∃ k', exec cf n c fr k = some (x, fr', k') ∧ Ext Y h' k'
  | .skip, fr, h, k, e, x, fr', h', hr => by
    simp only [exec, Option.some.injEq, Prod.mk.injEq] at hr ⊢
    obtain ⟨rfl, rfl, rfl⟩ := hr; exact ⟨k, ⟨rfl, rfl, rfl⟩, e⟩
  | .exit _, fr, h, k, e, x, fr', h', hr => by
    simp only [exec, Option.some.injEq, Prod.mk.injEq] at hr ⊢
    obtain ⟨rfl, rfl, rfl⟩ := hr; exact ⟨k, ⟨rfl, rfl, rfl⟩, e⟩
  | .ret, fr, h, k, e, x, fr', h', hr => by
    simp only [exec, Option.some.injEq, Prod.mk.injEq] at hr ⊢
    obtain ⟨rfl, rfl, rfl⟩ := hr; exact ⟨k, ⟨rfl, rfl, rfl⟩, e⟩
  | .reg _ al ops chk out, fr, h, k, e, x, fr', h', hr => by
    simp only [exec] at hr ⊢
    have e0 : Ext Y (if al then { h with nx := h.nx + 1 } else h) (if al then { k with nx := k.nx + 1 } else k) := by
      cases al
      · exact e
      · exact ⟨by simp [e.1], e.2⟩
    rw [e.1]
    cases hs : runOps cf h.nx (!chk.isEmpty) ops fr (if al then { h with nx := h.nx + 1 } else h) ⟨[], []⟩ with
    | none => rw [hs] at hr; simp at hr
    | some p =>
      obtain ⟨f1, h1, l1⟩ := p
      obtain ⟨k1, l2, hk1, e1, hl⟩ := runOps_ext hcf h.nx (!chk.isEmpty) ops e0 (LRel.refl _) hs
      rw [hs] at hr
      simp only [← e.1] at hk1 ⊢
      rw [hk1]
      simp only at hr ⊢
      split at hr
      · rename_i hc
        simp only [Option.some.injEq, Prod.mk.injEq] at hr
        obtain ⟨rfl, rfl, rfl⟩ := hr
        rw [if_pos (hl.chk _ hc)]
        exact ⟨k1, rfl, e1⟩
      · simp at hr
  | .seq a b, fr, h, k, e, x, fr', h', hr => by
    simp only [exec] at hr ⊢
    cases hs : exec cf n a fr h with
    | none => rw [hs] at hr; simp at hr
    | some p =>
      obtain ⟨x1, f1, h1⟩ := p
      obtain ⟨k1, hk1, e1⟩ := exec_ext hcf n a e hs
      rw [hs] at hr; rw [hk1]
      cases x1 with
      | norm => exact exec_ext hcf n b e1 hr
      | brk j => simp only [Option.some.injEq, Prod.mk.injEq] at hr ⊢; obtain ⟨rfl, rfl, rfl⟩ := hr; exact ⟨k1, ⟨rfl, rfl, rfl⟩, e1⟩
      | ret => simp only [Option.some.injEq, Prod.mk.injEq] at hr ⊢; obtain ⟨rfl, rfl, rfl⟩ := hr; exact ⟨k1, ⟨rfl, rfl, rfl⟩, e1⟩
  | .cond c a b, fr, h, k, e, x, fr', h', hr => by
    simp only [exec] at hr ⊢
    split at hr
    · exact exec_ext hcf n a e hr
    · exact exec_ext hcf n b e hr
    · simp at hr
  | .block id b, fr, h, k, e, x, fr', h', hr => by
    simp only [exec] at hr ⊢
    cases hs : exec cf n b fr h with
    | none => rw [hs] at hr; simp at hr
    | some p =>
      obtain ⟨x1, f1, h1⟩ := p
      obtain ⟨k1, hk1, e1⟩ := exec_ext hcf n b e hs
      rw [hs] at hr; rw [hk1]
      cases x1 with
      | norm => simp only [Option.some.injEq, Prod.mk.injEq] at hr ⊢; obtain ⟨rfl, rfl, rfl⟩ := hr; exact ⟨k1, ⟨rfl, rfl, rfl⟩, e1⟩
      | ret => simp only [Option.some.injEq, Prod.mk.injEq] at hr ⊢; obtain ⟨rfl, rfl, rfl⟩ := hr; exact ⟨k1, ⟨rfl, rfl, rfl⟩, e1⟩
      | brk j =>
        simp only at hr ⊢
        split at hr
        · rename_i hj; rw [if_pos hj]; simp only [Option.some.injEq, Prod.mk.injEq] at hr ⊢; obtain ⟨rfl, rfl, rfl⟩ := hr; exact ⟨k1, ⟨rfl, rfl, rfl⟩, e1⟩
        · rename_i hj; rw [if_neg hj]; simp only [Option.some.injEq, Prod.mk.injEq] at hr ⊢; obtain ⟨rfl, rfl, rfl⟩ := hr; exact ⟨k1, ⟨rfl, rfl, rfl⟩, e1⟩
  | .loop b, fr, h, k, e, x, fr', h', hr => by
    simp only [exec] at hr ⊢
    have key : ∀ (m : Nat) (fr : Fr) (h k : H), Ext Y h k → ∀ (x : X) (fr' : Fr) (h' : H), loopN (exec cf n b) m fr h = some (x, fr', h') →
        ∃ k', loopN (exec cf n b) m fr k = some (x, fr', k') ∧ Ext Y h' k' := by
      intro m
      induction m with
      | zero => intro fr h k _ x fr' h' hr; simp [loopN] at hr
      | succ m ih =>
        intro fr h k e x fr' h' hr
        simp only [loopN] at hr ⊢
        cases hs : exec cf n b fr h with
        | none => rw [hs] at hr; simp at hr
        | some p =>
          obtain ⟨x1, f1, h1⟩ := p
          obtain ⟨k1, hk1, e1⟩ := exec_ext hcf n b e hs
          rw [hs] at hr; rw [hk1]
          cases x1 with
          | norm => exact ih _ _ _ e1 _ _ _ hr
          | brk j => simp only [Option.some.injEq, Prod.mk.injEq] at hr ⊢; obtain ⟨rfl, rfl, rfl⟩ := hr; exact ⟨k1, ⟨rfl, rfl, rfl⟩, e1⟩
          | ret => simp only [Option.some.injEq, Prod.mk.injEq] at hr ⊢; obtain ⟨rfl, rfl, rfl⟩ := hr; exact ⟨k1, ⟨rfl, rfl, rfl⟩, e1⟩
    exact key n fr h k e x fr' h' hr

theorem rvs_ext {X : Nat → Option Blk} {fr : Fr} {h k : H} (e : Ext X h k) : ∀ {l : List RV} {vs : List V} (_ : rvs fr h l = some vs), rvs fr k l = some vs
  | [], vs, hr => hr
  | r :: l, vs, hr => by
    simp only [rvs] at hr ⊢
    cases h1 : rv fr h r with
    | none => rw [h1] at hr; simp at hr
    | some v =>
      have : rv fr k r = some v := by
        cases r with
        | tmp t => exact h1
        | cell t n ag =>
          simp only [rv] at h1 ⊢
          cases hp : Fr.get fr t with
          | none => rw [hp] at h1; simp at h1
          | some p => rw [hp] at h1; exact ldv_ext e h1
      rw [h1] at hr; rw [this]
      cases h2 : rvs fr h l with
      | none => rw [h2] at hr; simp at hr
      | some ws => rw [h2] at hr; rw [rvs_ext e h2]; exact hr

theorem call_ext (fns : Nat → Option Fun) : ∀ n, CExt (call fns n)
  | 0 => fun X f vs h k r h' _ hr => by simp [call] at hr
  | n + 1 => fun X f vs h k r h' e hr => by
    simp only [call] at hr ⊢
    cases hf : fns f with
    | none => rw [hf] at hr; simp at hr
    | some fn =>
      rw [hf] at hr
      simp only at hr ⊢
      cases hs : exec (call fns n) n fn.body (enter 0 vs) h with
      | none => rw [hs] at hr; simp at hr
      | some p =>
        obtain ⟨x, fr, m⟩ := p
        obtain ⟨k1, hk1, e1⟩ := exec_ext (call_ext fns n) n fn.body e hs
        rw [hs] at hr; rw [hk1]
        simp only at hr ⊢
        cases bx : x.isBrk
        case true => rw [bx] at hr; simp at hr
        case false =>
          rw [bx] at hr
          simp only [Bool.false_eq_true, if_false] at hr ⊢
          cases h2 : rvs fr m fn.res with
          | none => rw [h2] at hr; simp at hr
          | some ws =>
            rw [h2] at hr; rw [rvs_ext e1 h2]
            simp only at hr ⊢
            split at hr
            · rename_i hz
              simp only [Option.map_eq_some_iff] at hr
              obtain ⟨⟨vs', h2⟩, hq, hr⟩ := hr
              simp only [Prod.mk.injEq] at hr
              obtain ⟨k2, hk2, e2⟩ := frzR_ext e1 hq
              simp only [hz, if_true, Option.map_eq_some_iff]
              exact ⟨k2, ⟨_, hk2, by simp [hr.1]⟩, hr.2 ▸ e2⟩
            · rename_i hz
              simp only [Option.some.injEq, Prod.mk.injEq] at hr
              simp only [hz]
              exact ⟨k1, by simp [hr.1], hr.2 ▸ e1⟩

end Go.Proofs.Ytakahhnlbciicaa.Ai

namespace Go.Proofs.Ytakahhnlbciicaa.Ai
open Go

/-! ### What a step can name -/
/-- No name below the counter is taken anew but nid. -/
def Dom (nid : Nat) (h h' : H) : Prop := h.nx ≤ h'.nx ∧ ∀ id, id < h.nx * 256 → id ≠ nid → h.get id = none → h'.get id = none
theorem Dom.refl (nid : Nat) (h : H) : Dom nid h h := ⟨Nat.le_refl _, fun _ _ _ e => e⟩
theorem Dom.trans {nid : Nat} {a b c : H} (h : Dom nid a b) (k : Dom nid b c) : Dom nid a c :=
  ⟨Nat.le_trans h.1 k.1, fun id hi hn e => k.2 id (Nat.lt_of_lt_of_le hi (Nat.mul_le_mul_right _ h.1)) hn (h.2 id hi hn e)⟩
theorem Dom.set_old {nid : Nat} {h : H} {id : Nat} {b c : Blk} (e : h.get id = some c) : Dom nid h (h.set id b) :=
  ⟨Nat.le_refl _, fun m _ _ hm => by rw [H.get_set, if_neg (fun he => by rw [he, e] at hm; cases hm)]; exact hm⟩
theorem Dom.set_new (h : H) (nid : Nat) (b : Blk) : Dom nid h (h.set nid b) :=
  ⟨Nat.le_refl _, fun m _ hn hm => by rw [H.get_set, if_neg hn]; exact hm⟩

theorem stv_local {h : H} {n : Nat} {a x : V} {h' : H} (hr : stv h n a x = some h') :
    ∃ id i off b b', a = .ptr id i off ∧ h.get id = some b ∧ h' = h.set id b' ∧ ∀ k : H, k.get id = some b → stv k n a x = some (k.set id b') := by
  cases a <;> simp only [stv] at hr <;> try (simp at hr; done)
  case ptr id i off =>
    cases hb : h.get id with
    | none => rw [hb] at hr; simp at hr
    | some b =>
      rw [hb] at hr
      cases b with
      | row es esz kd =>
        simp only at hr
        split at hr
        · simp at hr
        · rename_i hk
          split at hr
          · rename_i el hel
            split at hr
            · rename_i hc
              split at hr
              · rename_i e' he'
                simp only [Option.some.injEq] at hr
                refine ⟨id, i, off, _, _, rfl, hb, hr.symm, fun k hk' => ?_⟩
                simp only [stv]
                rw [hk']
                simp only [hk, if_false, hel]
                rw [if_pos hc, he']
              · simp at hr
            · simp at hr
          · simp at hr
      | iter => simp at hr
      | dead => simp at hr
theorem ldv_local {h : H} {n : Nat} {ag : Bool} {p r : V} (hr : ldv h n ag p = some r) :
    (∃ id i off b, p = .ptr id i off ∧ h.get id = some b ∧ ∀ k : H, k.get id = some b → ldv k n ag p = some r) ∨
    ((∀ id i off, p ≠ .ptr id i off) ∧ ∀ k : H, ldv k n ag p = some r) := by
  cases p <;> simp only [ldv] at hr <;> try (simp at hr; done)
  case ptr id i off =>
    refine .inl ⟨id, i, off, ?_⟩
    cases hb : h.get id with
    | none => rw [hb] at hr; simp at hr
    | some b => rw [hb] at hr; exact ⟨b, rfl, rfl, fun k hk => by simp only [ldv]; rw [hk]; exact hr⟩
  case vptr cs => exact .inr ⟨by simp, fun k => by simp only [ldv]; exact hr⟩

theorem frz1_dom {nid : Nat} {h h' : H} {x v : V} (hr : frz1 h x = some (v, h')) : Dom nid h h' := by
  cases x <;> simp only [frz1] at hr <;> try (simp only [Option.some.injEq, Prod.mk.injEq] at hr; rw [← hr.2]; exact Dom.refl _ _)
  case ref id lo len es cap =>
    cases hb : h.get id with
    | none => rw [hb] at hr; simp at hr
    | some b =>
      rw [hb] at hr
      cases b <;> simp only at hr <;> try (simp at hr; done)
      split at hr
      · simp only [Option.some.injEq, Prod.mk.injEq] at hr; rw [← hr.2]; exact Dom.set_old hb
      · simp at hr
theorem frzL_dom {nid : Nat} : ∀ {l : List V} {h h' : H} {v : List V} (_ : frzL h l = some (v, h')), Dom nid h h'
  | [], h, h', v, hr => by simp only [frzL, Option.some.injEq, Prod.mk.injEq] at hr; rw [← hr.2]; exact Dom.refl _ _
  | x :: l, h, h', v, hr => by
    simp only [frzL] at hr
    cases h1 : frz1 h x with
    | none => rw [h1] at hr; simp at hr
    | some p =>
      rw [h1] at hr; simp only at hr
      cases h2 : frzL p.2 l with
      | none => rw [h2] at hr; simp at hr
      | some q =>
        rw [h2] at hr; simp only [Option.some.injEq, Prod.mk.injEq] at hr
        rw [← hr.2]
        exact (frz1_dom (v := p.1) (h' := p.2) h1).trans (frzL_dom (v := q.1) (h' := q.2) h2)
theorem frz_dom {nid : Nat} {h h' : H} {x v : V} (hr : frz h x = some (v, h')) : Dom nid h h' := by
  unfold frz at hr
  cases x <;> simp only at hr <;> try exact frz1_dom hr
  case agg cs =>
    cases h1 : frzL h cs with
    | none => rw [h1] at hr; simp at hr
    | some p => rw [h1] at hr; simp only [Option.some.injEq, Prod.mk.injEq] at hr; rw [← hr.2]; exact frzL_dom (v := p.1) (h' := p.2) h1
theorem frzR_dom {nid : Nat} : ∀ {l : List V} {h h' : H} {v : List V} (_ : frzR h l = some (v, h')), Dom nid h h'
  | [], h, h', v, hr => by simp only [frzR, Option.some.injEq, Prod.mk.injEq] at hr; rw [← hr.2]; exact Dom.refl _ _
  | x :: l, h, h', v, hr => by
    simp only [frzR] at hr
    cases h1 : frz h x with
    | none => rw [h1] at hr; simp at hr
    | some p =>
      rw [h1] at hr; simp only at hr
      cases h2 : frzR p.2 l with
      | none => rw [h2] at hr; simp at hr
      | some q =>
        rw [h2] at hr; simp only [Option.some.injEq, Prod.mk.injEq] at hr
        rw [← hr.2]
        exact (frz_dom (v := p.1) (h' := p.2) h1).trans (frzR_dom (v := q.1) (h' := q.2) h2)
theorem appv_dom {h h' : H} {esz nid : Nat} {s x v : V} (hr : appv esz h nid s x = some (v, h')) : Dom nid h h' := by
  unfold appv at hr
  split at hr
  · simp at hr
  · split at hr
    · simp only [Option.some.injEq, Prod.mk.injEq] at hr; rw [← hr.2]; exact Dom.refl _ _
    · simp at hr
  · split at hr
    · simp at hr
    · split at hr
      · split at hr
        · simp at hr
        · split at hr
          · simp at hr
          · split at hr
            · simp only [Option.some.injEq, Prod.mk.injEq] at hr; rw [← hr.2]; exact Dom.set_new _ _ _
            · simp at hr
      · split at hr
        · rename_i hb
          split at hr
          · split at hr
            · split at hr
              · split at hr
                · simp at hr
                · simp only [Option.some.injEq, Prod.mk.injEq] at hr; rw [← hr.2]; exact Dom.set_old hb
              · simp only [Option.some.injEq, Prod.mk.injEq] at hr; rw [← hr.2]; exact Dom.set_new _ _ _
            · split at hr
              · simp only [Option.some.injEq, Prod.mk.injEq] at hr; rw [← hr.2]; exact (Dom.set_old hb).trans (Dom.set_new _ _ _)
              · simp at hr
          · simp at hr
        · simp at hr
      · simp at hr
theorem nxtv_dom {nid : Nat} {h h' : H} {x v : V} (hr : nxtv h x = some (v, h')) : Dom nid h h' := by
  unfold nxtv at hr
  split at hr
  · split at hr
    · rename_i hb
      split at hr
      · simp only [Option.some.injEq, Prod.mk.injEq] at hr; rw [← hr.2]; exact Dom.refl _ _
      · split at hr
        · simp only [Option.some.injEq, Prod.mk.injEq] at hr; rw [← hr.2]; exact Dom.set_old hb
        · simp at hr
    · simp at hr
  · simp at hr

theorem appzv_dom {h h' : H} {esz nid : Nat} {s x v : V} (hr : appzv esz h nid s x = some (v, h')) : Dom nid h h' := by
  unfold appzv at hr
  cases h1 : appv esz h nid s x with
  | none => rw [h1] at hr; cases hr
  | some p =>
    rw [h1] at hr
    exact (appv_dom (v := p.1) (h' := p.2) h1).trans (frz1_dom hr)
/-- A callee takes names from the counter on. -/
def CDom (cf : CallF) : Prop := ∀ f vs h r h', cf f vs h = some (r, h') → ∀ nid, Dom nid h h'
theorem stepC_dom {cf : CallF} (hcf : CDom cf) {fr : Fr} {h : H} {nid : Nat} {i : I} {v : V} {h' : H} (hr : stepC cf fr h nid i = some (v, h')) : Dom nid h h' := by
  cases i <;> simp only [stepC] at hr <;> try (simp at hr; done)
  case call f xs => (split at hr; exact hcf _ _ _ _ _ hr _; simp at hr)
  case callv x xs => (split at hr; exact hcf _ _ _ _ _ hr _; simp at hr)
  case app e s x => (split at hr; exact appv_dom hr; simp at hr)
  case appz e s x => (split at hr; exact appzv_dom hr; simp at hr)
  case nxt x => (split at hr; exact nxtv_dom hr; simp at hr)
  case fz x => (split at hr; exact frz_dom hr; simp at hr)
theorem stepc_dom {cf : CallF} (hcf : CDom cf) {fr : Fr} {h : H} {nid : Nat} {i : I} {v : V} {h' : H} (hr : stepc cf fr h nid i = some (v, h')) : Dom nid h h' := by
  unfold stepc at hr
  split at hr
  · simp only [Option.map_eq_some_iff] at hr; obtain ⟨_, _, hr⟩ := hr; simp only [Prod.mk.injEq] at hr; rw [← hr.2]; exact Dom.refl _ _
  · split at hr
    · split at hr
      · simp only [Option.map_eq_some_iff] at hr; obtain ⟨_, _, hr⟩ := hr; simp only [Prod.mk.injEq] at hr; rw [← hr.2]; exact Dom.refl _ _
      · simp at hr
    · simp at hr
  · simp only [Option.map_eq_some_iff] at hr; obtain ⟨_, _, hr⟩ := hr; simp only [Prod.mk.injEq] at hr; rw [← hr.2]; exact Dom.set_new _ _ _
  · split at hr
    · split at hr
      · simp only [Option.map_eq_some_iff] at hr; obtain ⟨_, hs, hr⟩ := hr; simp only [Prod.mk.injEq] at hr; rw [← hr.2]
        obtain ⟨_, _, _, _, _, _, hb, rfl, _⟩ := stv_local hs
        exact Dom.set_old hb
      · simp at hr
    · simp at hr
  · exact stepC_dom hcf hr

/-! ### One operation of a region -/
/-- Its value, the memory behind it, and whether it ran. -/
def opv (cf : CallF) (tick : Nat) (fr : Fr) (h : H) (o : Op1) : Option (V × H × Bool) :=
  match wantedv fr o.g with
  | none => none
  | some false => some (.und, h, false)
  | some true => (stepc cf fr h (tick * 256 + o.ix) o.op).map fun (v, h') => (v, h', true)
def logp (tick : Nat) (lgd : Bool) (o : Op1) (fr : Fr) (h h' : H) (ran : Bool) (lg : Log) : Log :=
  if lgd && ran then lg.push o.ix h h' (addrOf fr (tick * 256 + o.ix) o.op) else lg
theorem runOps_cons (cf : CallF) (tick : Nat) (lgd : Bool) (o : Op1) (r : List Op1) (fr : Fr) (h : H) (lg : Log) :
    runOps cf tick lgd (o :: r) fr h lg = match opv cf tick fr h o with
      | none => none
      | some (v, h', ran) => runOps cf tick lgd r (putv fr o.dst v) h' (logp tick lgd o fr h h' ran lg) := by
  simp only [runOps, opv]
  cases hw : wantedv fr o.g with
  | none => rfl
  | some b =>
    cases b
    · simp [logp]
    · cases hs : stepc cf fr h (tick * 256 + o.ix) o.op with
      | none => simp
      | some p =>
        cases lgd <;> simp [logp]

/-- The temporaries that an operation looks at. -/
def Op1.looks (o : Op1) : List Nat := ((uses o.op).filterMap fun | .t n => some n | .c _ => none) ++ (match o.g with | some (t, _) => [t] | none => [])
def apart (a b : Op1) : Bool :=
  (match a.dst with | some d => !(b.looks.contains d) && (b.dst != some d) | none => true) && (match b.dst with | some d => !(a.looks.contains d) | none => true)
theorem apart_spec {a b : Op1} (h : apart a b = true) : (∀ d, a.dst = some d → d ∉ b.looks) ∧ (∀ d, a.dst = some d → b.dst ≠ some d) ∧ (∀ d, b.dst = some d → d ∉ a.looks) := by
  unfold apart at h
  simp only [Bool.and_eq_true] at h
  refine ⟨fun d hd => ?_, fun d hd => ?_, fun d hd => ?_⟩
  · have := h.1; simp only [hd, Bool.and_eq_true, Bool.not_eq_true', List.contains_eq_mem, decide_eq_false_iff_not] at this; exact this.1
  · have := h.1; simp only [hd, Bool.and_eq_true, bne_iff_ne, ne_eq] at this; exact this.2
  · have := h.2; simp only [hd, Bool.not_eq_true', List.contains_eq_mem, decide_eq_false_iff_not] at this; exact this
theorem agree_putv {fr : Fr} {o : Op1} {d : Option Nat} {x : V} (h : ∀ n, d = some n → n ∉ o.looks) : Agree fr (putv fr d x) (uses o.op) := by
  intro p hp
  cases p with
  | c v => rfl
  | t n =>
    simp only [O.ev, get_putv]
    rw [if_neg]
    intro hd
    apply h n hd
    simp only [Op1.looks, List.mem_append, List.mem_filterMap]
    exact .inl ⟨_, hp, rfl⟩
theorem wanted_putv {fr : Fr} {o : Op1} {d : Option Nat} {x : V} (h : ∀ n, d = some n → n ∉ o.looks) : wantedv (putv fr d x) o.g = wantedv fr o.g := by
  apply wantedv_agree
  intro t c hg
  rw [get_putv, if_neg]
  intro hd
  apply h t hd
  simp [Op1.looks, hg]
theorem opv_putv {cf : CallF} {tick : Nat} {fr : Fr} {h : H} {o : Op1} {d : Option Nat} {x : V} (hd : ∀ n, d = some n → n ∉ o.looks) :
    opv cf tick (putv fr d x) h o = opv cf tick fr h o := by
  unfold opv
  rw [wanted_putv hd, ← stepc_agree cf h _ o.op (agree_putv hd)]
theorem addrOf_putv {fr : Fr} {o : Op1} {n : Nat} {d : Option Nat} {x : V} (hd : ∀ n, d = some n → n ∉ o.looks) :
    addrOf (putv fr d x) n o.op = addrOf fr n o.op := (addrOf_agree n o.op (agree_putv hd)).symm

def sortsOk (chk : List (Bool × Nat × Nat)) (a b : Op1) : Bool :=
  match a.op.sort, b.op.sort with
  | .p, _ | _, .p => true
  | .r, .r | .r, .e | .e, .e | .w, .e | .c, .e => true
  | .e, .r | .e, .w => chk.contains (true, a.ix, b.ix)
  | .r, .w | .r, .c => chk.contains (false, b.ix, a.ix)
  | .w, .r | .c, .r => chk.contains (false, a.ix, b.ix)
  | .w, .w => chk.contains (true, a.ix, b.ix)
  | _, _ => false

end Go.Proofs.Ytakahhnlbciicaa.Ai

namespace Go.Proofs.Ytakahhnlbciicaa.Ai
open Go

def HEq (h k : H) : Prop := k.nx = h.nx ∧ ∀ id, k.get id = h.get id
theorem HEq.refl (h : H) : HEq h h := ⟨rfl, fun _ => rfl⟩
theorem HEq.trans {a b c : H} (h : HEq a b) (k : HEq b c) : HEq a c := ⟨k.1.trans h.1, fun i => (k.2 i).trans (h.2 i)⟩
theorem HEq.ext {h k : H} (e : HEq h k) : Ext (fun _ => none) h k := ⟨e.1, fun id => by rw [e.2]; simp⟩
theorem HEq.of_ext {h k : H} (e : Ext (fun _ => none) h k) : HEq h k := ⟨e.1, fun id => by rw [e.2]; simp⟩

section sorts
variable {cf : CallF} {fr : Fr} {h h' : H} {nid : Nat} {o : I} {v : V}
theorem stepc_p (hs : o.sort = .p) (hr : stepc cf fr h nid o = some (v, h')) : h' = h ∧ ∀ k, stepc cf fr k nid o = some (v, k) := by
  unfold stepc at hr ⊢
  rw [hs] at hr ⊢
  simp only [Option.map_eq_some_iff, Prod.mk.injEq] at hr
  obtain ⟨w, hw, rfl, rfl⟩ := hr
  exact ⟨rfl, fun k => by simp [hw]⟩
theorem stepc_r (hs : o.sort = .r) (hr : stepc cf fr h nid o = some (v, h')) : h' = h ∧
    ((∃ id b, addrOf fr nid o = some id ∧ h.get id = some b ∧ ∀ k : H, k.get id = some b → stepc cf fr k nid o = some (v, k)) ∨ ∀ k, stepc cf fr k nid o = some (v, k)) := by
  cases o <;> simp only [I.sort] at hs <;> try (cases hs; done)
  case ld n ag a =>
    simp only [stepc, I.sort] at hr ⊢
    cases ha : a.ev fr with
    | none => rw [ha] at hr; simp at hr
    | some p =>
      rw [ha] at hr
      simp only [Option.map_eq_some_iff, Prod.mk.injEq] at hr
      obtain ⟨w, hw, rfl, rfl⟩ := hr
      refine ⟨rfl, ?_⟩
      rcases ldv_local hw with ⟨id, i, off, b, rfl, hb, hk⟩ | ⟨_, hk⟩
      · exact .inl ⟨id, b, by simp [addrOf, ha], hb, fun k hk' => by simp [hk k hk']⟩
      · exact .inr fun k => by simp [hk k]
theorem stepc_e (hs : o.sort = .e) (hr : stepc cf fr h nid o = some (v, h')) :
    addrOf fr nid o = some nid ∧ ∃ b, h' = h.set nid b ∧ ∀ k : H, stepc cf fr k nid o = some (v, k.set nid b) := by
  refine ⟨by cases o <;> simp only [I.sort] at hs <;> first | rfl | (cases hs; done), ?_⟩
  unfold stepc at hr ⊢
  rw [hs] at hr ⊢
  simp only [Option.map_eq_some_iff] at hr
  obtain ⟨⟨w, b⟩, hw, hr⟩ := hr
  simp only [Prod.mk.injEq] at hr
  obtain ⟨rfl, rfl⟩ := hr
  exact ⟨b, rfl, fun k => by simp [hw]⟩
theorem stepc_w (hs : o.sort = .w) (hr : stepc cf fr h nid o = some (v, h')) :
    ∃ id b b', addrOf fr nid o = some id ∧ h.get id = some b ∧ h' = h.set id b' ∧ ∀ k : H, k.get id = some b → stepc cf fr k nid o = some (v, k.set id b') := by
  cases o <;> simp only [I.sort] at hs <;> try (cases hs; done)
  case st n a x =>
    simp only [stepc, I.sort] at hr ⊢
    cases ha : a.ev fr with
    | none => rw [ha] at hr; simp at hr
    | some p => cases hx : x.ev fr with
      | none => rw [ha, hx] at hr; simp at hr
      | some y =>
        rw [ha, hx] at hr
        simp only [Option.map_eq_some_iff, Prod.mk.injEq] at hr
        obtain ⟨w, hw, rfl, rfl⟩ := hr
        obtain ⟨id, i, off, b, b', rfl, hb, rfl, hk⟩ := stv_local hw
        exact ⟨id, b, b', by simp [addrOf, ha], hb, rfl, fun k hk' => by simp [hk k hk']⟩
end sorts

/-- What was seen of two operations that stand next to each other. -/
structure Seen (fr : Fr) (nj ni : Nat) (oj oi : I) (h h1 h2 : H) : Prop where
  rw : oj.sort = .r → (oi.sort = .w ∨ oi.sort = .c) → ∀ id, addrOf fr nj oj = some id → h1.get id = h2.get id
  wr : (oj.sort = .w ∨ oj.sort = .c) → oi.sort = .r → ∀ id, addrOf fr ni oi = some id → h.get id = h1.get id
  ne : ((oj.sort = .w ∧ oi.sort = .w) ∨ (oj.sort = .e ∧ (oi.sort = .r ∨ oi.sort = .w))) → ∀ a b, addrOf fr nj oj = some a → addrOf fr ni oi = some b → a ≠ b

def okPair : Sort5 → Sort5 → Bool
  | .p, _ | _, .p => true
  | .r, _ | .e, .e | .e, .r | .e, .w | .w, .e | .c, .e | .w, .r | .c, .r | .w, .w => true
  | _, _ => false

theorem set_comm_get (h : H) {a b : Nat} (x y : Blk) (hne : a ≠ b) (id : Nat) : ((h.set b y).set a x).get id = ((h.set a x).set b y).get id := by
  simp only [H.get_set]
  by_cases h1 : id = a <;> by_cases h2 : id = b <;> simp [h1, h2] <;> omega

set_option maxHeartbeats 1000000 in
theorem swap_step {cf : CallF} (hx : CExt cf) (hd : CDom cf) {fr : Fr} {h h1 h2 : H} {nj ni : Nat} {oj oi : I} {vj vi : V}
    (s1 : stepc cf fr h nj oj = some (vj, h1)) (s2 : stepc cf fr h1 ni oi = some (vi, h2)) (hok : okPair oj.sort oi.sort = true)
    (hne : nj ≠ ni) (hfj : oj.sort = .e → h.get nj = none) (hfi : oi.sort = .e → h.get ni = none ∧ ni < h.nx * 256)
    (sn : Seen fr nj ni oj oi h h1 h2) :
    ∃ k1 k2, stepc cf fr h ni oi = some (vi, k1) ∧ stepc cf fr k1 nj oj = some (vj, k2) ∧ HEq h2 k2 ∧
      (∀ id, h.get id = h1.get id → k1.get id = k2.get id) ∧ (∀ id, h1.get id = h2.get id → h.get id = k1.get id) := by
  cases hj : oj.sort
  case p =>
    obtain ⟨rfl, hk⟩ := stepc_p hj s1
    exact ⟨h2, h2, s2, hk h2, HEq.refl _, fun _ _ => rfl, fun _ e => e⟩
  case r =>
    obtain ⟨rfl, hk⟩ := stepc_r hj s1
    cases hi : oi.sort
    case p =>
      obtain ⟨rfl, hk'⟩ := stepc_p hi s2
      exact ⟨h2, h2, hk' _, s1, HEq.refl _, fun _ _ => rfl, fun _ e => e⟩
    case r =>
      obtain ⟨rfl, _⟩ := stepc_r hi s2
      exact ⟨h2, h2, s2, s1, HEq.refl _, fun _ _ => rfl, fun _ e => e⟩
    case e =>
      obtain ⟨_, b, rfl, hk'⟩ := stepc_e hi s2
      refine ⟨_, _, s2, ?_, HEq.refl _, fun _ _ => rfl, fun _ e => e⟩
      rcases hk with ⟨id, c, _, hb, hk⟩ | hk
      · apply hk
        rw [H.get_set, if_neg]
        · exact hb
        · intro e; rw [e, (hfi hi).1] at hb; cases hb
      · exact hk _
    all_goals
      refine ⟨h2, h2, s2, ?_, HEq.refl _, fun _ _ => rfl, fun _ e => e⟩
      rcases hk with ⟨id, c, ha, hb, hk⟩ | hk
      · apply hk
        rw [← sn.rw hj (by simp [hi]) id ha]
        exact hb
      · exact hk _
  case e =>
    obtain ⟨haj, bj, rfl, hk⟩ := stepc_e hj s1
    cases hi : oi.sort
    case p =>
      obtain ⟨rfl, hk'⟩ := stepc_p hi s2
      exact ⟨h, _, hk' _, hk _, HEq.refl _, fun _ e => e, fun _ _ => rfl⟩
    case r =>
      obtain ⟨rfl, hk'⟩ := stepc_r hi s2
      refine ⟨h, h.set nj bj, ?_, hk _, HEq.refl _, fun _ e => e, fun _ _ => rfl⟩
      rcases hk' with ⟨id, c, ha, hb, hk'⟩ | hk'
      · apply hk'
        rw [H.get_set, if_neg (Ne.symm (sn.ne (.inr ⟨hj, .inl hi⟩) _ _ haj ha))] at hb
        exact hb
      · exact hk' _
    case e =>
      obtain ⟨_, bi, rfl, hk'⟩ := stepc_e hi s2
      refine ⟨h.set ni bi, (h.set ni bi).set nj bj, hk' _, hk _, ⟨rfl, fun id => set_comm_get h bj bi hne id⟩, fun id e => ?_, fun id e => ?_⟩
      · rw [H.get_set] at e
        simp only [H.get_set]
        by_cases h1 : id = nj
        · rw [if_pos h1] at e; rw [if_pos h1, if_neg (by omega), e]
        · rw [if_neg h1]
      · simp only [H.get_set] at e ⊢
        by_cases h1 : id = ni
        · rw [if_pos h1] at e ⊢; rw [if_neg (by omega)] at e; exact e
        · rw [if_neg h1]
    case w =>
      obtain ⟨id, b, b', ha, hb, rfl, hk'⟩ := stepc_w hi s2
      have hn : nj ≠ id := sn.ne (.inr ⟨hj, .inr hi⟩) _ _ haj ha
      rw [H.get_set, if_neg (Ne.symm hn)] at hb
      refine ⟨h.set id b', (h.set id b').set nj bj, hk' _ hb, hk _, ⟨rfl, fun m => set_comm_get h bj b' hn m⟩, fun m e => ?_, fun m e => ?_⟩
      · rw [H.get_set] at e
        simp only [H.get_set]
        by_cases h1 : m = nj
        · rw [if_pos h1] at e; rw [if_pos h1, if_neg (by omega), e]
        · rw [if_neg h1]
      · simp only [H.get_set] at e ⊢
        by_cases h1 : m = id
        · rw [if_pos h1] at e ⊢; rw [if_neg (by omega)] at e; exact e
        · rw [if_neg h1]
    case c => rw [hj, hi] at hok; simp [okPair] at hok
  case w =>
    obtain ⟨idj, b, b', haj, hb, rfl, hk⟩ := stepc_w hj s1
    cases hi : oi.sort
    case p =>
      obtain ⟨rfl, hk'⟩ := stepc_p hi s2
      exact ⟨h, _, hk' _, s1, HEq.refl _, fun _ e => e, fun _ _ => rfl⟩
    case r =>
      obtain ⟨rfl, hk'⟩ := stepc_r hi s2
      refine ⟨h, _, ?_, s1, HEq.refl _, fun _ e => e, fun _ _ => rfl⟩
      rcases hk' with ⟨id, c, ha, hc, hk'⟩ | hk'
      · apply hk'
        rw [sn.wr (.inl hj) hi id ha]; exact hc
      · exact hk' _
    case e =>
      obtain ⟨_, bi, rfl, hk'⟩ := stepc_e hi s2
      have hn : idj ≠ ni := by intro e; rw [e, (hfi hi).1] at hb; cases hb
      refine ⟨h.set ni bi, (h.set ni bi).set idj b', hk' _, hk _ (by rw [H.get_set, if_neg hn]; exact hb), ⟨rfl, fun m => set_comm_get h b' bi hn m⟩, fun m e => ?_, fun m e => ?_⟩
      · rw [H.get_set] at e
        simp only [H.get_set]
        by_cases h1 : m = idj
        · rw [if_pos h1] at e; rw [if_pos h1, if_neg (by omega), e]
        · rw [if_neg h1]
      · simp only [H.get_set] at e ⊢
        by_cases h1 : m = ni
        · rw [if_pos h1] at e ⊢; rw [if_neg (by omega)] at e; exact e
        · rw [if_neg h1]
    case w =>
      obtain ⟨id, c, c', ha, hc, rfl, hk'⟩ := stepc_w hi s2
      have hn : idj ≠ id := sn.ne (.inl ⟨hj, hi⟩) _ _ haj ha
      rw [H.get_set, if_neg (Ne.symm hn)] at hc
      refine ⟨h.set id c', (h.set id c').set idj b', hk' _ hc, hk _ (by rw [H.get_set, if_neg hn]; exact hb), ⟨rfl, fun m => set_comm_get h b' c' hn m⟩, fun m e => ?_, fun m e => ?_⟩
      · rw [H.get_set] at e
        simp only [H.get_set]
        by_cases h1 : m = idj
        · rw [if_pos h1] at e; rw [if_pos h1, if_neg (by omega), e]
        · rw [if_neg h1]
      · simp only [H.get_set] at e ⊢
        by_cases h1 : m = id
        · rw [if_pos h1] at e ⊢; rw [if_neg (by omega)] at e; exact e
        · rw [if_neg h1]
    case c => rw [hj, hi] at hok; simp [okPair] at hok
  case c =>
    cases hi : oi.sort
    case p =>
      obtain ⟨rfl, hk'⟩ := stepc_p hi s2
      exact ⟨h, _, hk' _, s1, HEq.refl _, fun _ e => e, fun _ _ => rfl⟩
    case r =>
      obtain ⟨rfl, hk'⟩ := stepc_r hi s2
      refine ⟨h, _, ?_, s1, HEq.refl _, fun _ e => e, fun _ _ => rfl⟩
      rcases hk' with ⟨id, c, ha, hc, hk'⟩ | hk'
      · apply hk'
        rw [sn.wr (.inr hj) hi id ha]; exact hc
      · exact hk' _
    case e =>
      obtain ⟨_, bi, rfl, hk'⟩ := stepc_e hi s2
      obtain ⟨hf, hlt⟩ := hfi hi
      have dm := stepc_dom hd s1
      have hf1 : h1.get ni = none := dm.2 ni hlt (Ne.symm hne) hf
      have e0 : Ext (fun m => if m = ni then some bi else none) h (h.set ni bi) := by
        refine ⟨rfl, fun m => ?_⟩
        rw [H.get_set]
        by_cases hm : m = ni
        · subst hm; simp [hf]
        · simp [hm]
      obtain ⟨k2, hk2, e2⟩ := stepc_ext hx e0 s1
      refine ⟨h.set ni bi, k2, hk' _, hk2, ⟨e2.1, fun m => ?_⟩, fun m e => ?_, fun m e => ?_⟩
      · rw [e2.2, H.get_set]
        by_cases hm : m = ni
        · subst hm; simp [hf1]
        · simp [hm]
      · rw [e2.2, e0.2, e]
      · rw [H.get_set] at e ⊢
        by_cases hm : m = ni
        · subst hm; rw [if_pos rfl, hf1] at e; cases e
        · rw [if_neg hm]
    all_goals (rw [hj, hi] at hok; simp [okPair] at hok)

end Go.Proofs.Ytakahhnlbciicaa.Ai

namespace Go.Proofs.Ytakahhnlbciicaa.Ai
open Go

theorem swap_opv {cf : CallF} (hx : CExt cf) (hd : CDom cf) {tick : Nat} {fr : Fr} {h h1 h2 : H} {j i : Op1} {vj vi : V} {rj ri : Bool}
    (s1 : opv cf tick fr h j = some (vj, h1, rj)) (s2 : opv cf tick (putv fr j.dst vj) h1 i = some (vi, h2, ri)) (hap : apart j i = true)
    (hok : okPair j.op.sort i.op.sort = true) (hne : j.ix ≠ i.ix) (hfj : j.op.sort = .e → h.get (tick * 256 + j.ix) = none)
    (hfi : i.op.sort = .e → h.get (tick * 256 + i.ix) = none ∧ tick * 256 + i.ix < h.nx * 256)
    (sn : rj = true → ri = true → Seen fr (tick * 256 + j.ix) (tick * 256 + i.ix) j.op i.op h h1 h2) :
    ∃ k1 k2, opv cf tick fr h i = some (vi, k1, ri) ∧ opv cf tick (putv fr i.dst vi) k1 j = some (vj, k2, rj) ∧ HEq h2 k2 ∧
      (rj = true → ∀ id, h.get id = h1.get id → k1.get id = k2.get id) ∧ (ri = true → ∀ id, h1.get id = h2.get id → h.get id = k1.get id) := by
  obtain ⟨a1, a2, a3⟩ := apart_spec hap
  rw [opv_putv a1] at s2
  have key : ∃ k1 k2, opv cf tick fr h i = some (vi, k1, ri) ∧ opv cf tick fr k1 j = some (vj, k2, rj) ∧ HEq h2 k2 ∧
      (rj = true → ∀ id, h.get id = h1.get id → k1.get id = k2.get id) ∧ (ri = true → ∀ id, h1.get id = h2.get id → h.get id = k1.get id) := by
    unfold opv at s1 s2 ⊢
    cases hwj : wantedv fr j.g with
    | none => rw [hwj] at s1; simp at s1
    | some wj =>
      rw [hwj] at s1
      cases hwi : wantedv fr i.g with
      | none => rw [hwi] at s2; simp at s2
      | some wi =>
        rw [hwi] at s2
        cases wj
        · simp only [Option.some.injEq, Prod.mk.injEq] at s1
          obtain ⟨rfl, rfl, rfl⟩ := s1
          exact ⟨h2, h2, s2, rfl, HEq.refl _, fun e => by simp at e, fun _ _ e => e⟩
        · cases wi
          · simp only [Option.some.injEq, Prod.mk.injEq] at s2
            obtain ⟨rfl, rfl, rfl⟩ := s2
            exact ⟨h, h1, rfl, s1, HEq.refl _, fun _ _ e => e, fun e => by simp at e⟩
          · simp only [Option.map_eq_some_iff] at s1 s2
            obtain ⟨⟨w1, m1⟩, t1, e1⟩ := s1
            obtain ⟨⟨w2, m2⟩, t2, e2⟩ := s2
            simp only [Prod.mk.injEq] at e1 e2
            obtain ⟨rfl, rfl, rfl⟩ := e1
            obtain ⟨rfl, rfl, rfl⟩ := e2
            obtain ⟨k1, k2, b1, b2, b3, b4, b5⟩ := swap_step hx hd t1 t2 hok (by omega) hfj hfi (sn rfl rfl)
            exact ⟨k1, k2, by simp [b1], by simp [b2], b3, fun _ => b4, fun _ => b5⟩
  obtain ⟨k1, k2, b1, b2, b3⟩ := key
  exact ⟨k1, k2, b1, by rw [opv_putv a3]; exact b2, b3⟩

theorem runOps_feq {cf : CallF} (tick : Nat) (lgd : Bool) : ∀ (l : List Op1) {fr fr2 : Fr} {h : H} {lg : Log} (_ : FEq fr fr2) {fE : Fr} {hE : H} {lE : Log}
    (_ : runOps cf tick lgd l fr h lg = some (fE, hE, lE)), ∃ fE2, runOps cf tick lgd l fr2 h lg = some (fE2, hE, lE) ∧ FEq fE fE2
  | [], fr, fr2, h, lg, e, fE, hE, lE, hr => by
    simp only [runOps, Option.some.injEq, Prod.mk.injEq] at hr ⊢
    obtain ⟨rfl, rfl, rfl⟩ := hr
    exact ⟨fr2, ⟨rfl, rfl, rfl⟩, e⟩
  | o :: l, fr, fr2, h, lg, e, fE, hE, lE, hr => by
    rw [runOps_cons] at hr ⊢
    have h1 : wantedv fr2 o.g = wantedv fr o.g := wantedv_agree _ fun t _ _ => (e t).symm
    have h2 : stepc cf fr2 h (tick * 256 + o.ix) o.op = stepc cf fr h (tick * 256 + o.ix) o.op := stepc_agree cf h _ o.op (Agree.of_feq e.symm _)
    have h3 : opv cf tick fr2 h o = opv cf tick fr h o := by unfold opv; rw [h1, h2]
    have h4 : ∀ n, addrOf fr2 n o.op = addrOf fr n o.op := fun n => addrOf_agree n o.op (Agree.of_feq e.symm _)
    rw [h3]
    cases ho : opv cf tick fr h o with
    | none => rw [ho] at hr; simp at hr
    | some p =>
      obtain ⟨v, m, ran⟩ := p
      rw [ho] at hr
      simp only at hr ⊢
      have h5 : logp tick lgd o fr2 h m ran lg = logp tick lgd o fr h m ran lg := by unfold logp; rw [h4]
      rw [h5]
      exact runOps_feq tick lgd l (e.putv _ _) hr

theorem runOps_congr {cf : CallF} (hx : CExt cf) (tick : Nat) (lgd : Bool) (l : List Op1) {fr fr2 : Fr} {h h2 : H} {lg lg2 : Log} (e : FEq fr fr2) (eh : HEq h h2) (el : LRel lg lg2)
    {fE : Fr} {hE : H} {lE : Log} (hr : runOps cf tick lgd l fr h lg = some (fE, hE, lE)) :
    ∃ fE2 hE2 lE2, runOps cf tick lgd l fr2 h2 lg2 = some (fE2, hE2, lE2) ∧ FEq fE fE2 ∧ HEq hE hE2 ∧ LRel lE lE2 := by
  obtain ⟨hE2, lE2, h1, h3, h4⟩ := runOps_ext hx tick lgd l eh.ext el hr
  obtain ⟨fE2, h5, h6⟩ := runOps_feq tick lgd l e h1
  exact ⟨fE2, hE2, lE2, h5, h6, HEq.of_ext h3, h4⟩

theorem findL_push_ne (lg : Log) {ix c : Nat} (h h' : H) (a : Option Nat) (hc : c ≠ ix) :
    findL c (lg.push ix h h' a).cs = findL c lg.cs ∧ findL c (lg.push ix h h' a).ls = findL c lg.ls := by
  constructor
  · simp [Log.push, findL, hc]
  · cases a <;> simp [Log.push, findL, hc]
theorem findL_logp_ne (tick : Nat) (lgd : Bool) (o : Op1) (fr : Fr) (h h' : H) (ran : Bool) (lg : Log) {c : Nat} (hc : c ≠ o.ix) :
    findL c (logp tick lgd o fr h h' ran lg).cs = findL c lg.cs ∧ findL c (logp tick lgd o fr h h' ran lg).ls = findL c lg.ls := by
  unfold logp
  split
  · exact findL_push_ne _ _ _ _ hc
  · exact ⟨rfl, rfl⟩
theorem findL_logp_cs (tick : Nat) (lgd : Bool) (o : Op1) (fr : Fr) (h h' : H) (ran : Bool) (lg : Log) (c : Nat) :
    findL c (logp tick lgd o fr h h' ran lg).cs = if (lgd && ran) = true ∧ c = o.ix then some (h, h') else findL c lg.cs := by
  unfold logp
  cases hb : (lgd && ran)
  · simp
  · by_cases hc : c = o.ix <;> simp [hc, Log.push, findL]
theorem findL_logp_ls (tick : Nat) (lgd : Bool) (o : Op1) (fr : Fr) (h h' : H) (ran : Bool) (lg : Log) (c : Nat) :
    findL c (logp tick lgd o fr h h' ran lg).ls = if (lgd && ran) = true ∧ c = o.ix then ((addrOf fr (tick * 256 + o.ix) o.op).or (findL c lg.ls)) else findL c lg.ls := by
  unfold logp
  cases hb : (lgd && ran)
  · simp
  · by_cases hc : c = o.ix
    · subst hc
      cases ha : addrOf fr (tick * 256 + o.ix) o.op <;> simp [Log.push, findL]
    · cases ha : addrOf fr (tick * 256 + o.ix) o.op <;> simp [hc, Log.push, findL]
theorem runOps_log {cf : CallF} (tick : Nat) (lgd : Bool) : ∀ (l : List Op1) {fr : Fr} {h : H} {lg : Log} {fE : Fr} {hE : H} {lE : Log}
    (_ : runOps cf tick lgd l fr h lg = some (fE, hE, lE)) (c : Nat) (_ : c ∉ l.map (·.ix)), findL c lE.cs = findL c lg.cs ∧ findL c lE.ls = findL c lg.ls
  | [], fr, h, lg, fE, hE, lE, hr, c, _ => by
    simp only [runOps, Option.some.injEq, Prod.mk.injEq] at hr
    obtain ⟨rfl, rfl, rfl⟩ := hr
    exact ⟨rfl, rfl⟩
  | o :: l, fr, h, lg, fE, hE, lE, hr, c, hc => by
    rw [runOps_cons] at hr
    cases ho : opv cf tick fr h o with
    | none => rw [ho] at hr; simp at hr
    | some p =>
      obtain ⟨v, m, ran⟩ := p
      rw [ho] at hr
      simp only [List.map_cons, List.mem_cons, not_or] at hc
      obtain ⟨h1, h2⟩ := runOps_log tick lgd l hr c hc.2
      obtain ⟨h3, h4⟩ := findL_logp_ne tick lgd o fr h m ran lg hc.1
      exact ⟨h1.trans h3, h2.trans h4⟩

theorem chkOk_mem {lg : Log} : ∀ {l : List (Bool × Nat × Nat)} (_ : chkOk lg l = true) {w : Bool} {c x : Nat} (_ : (w, c, x) ∈ l),
    if w then ∀ a b, findL c lg.ls = some a → findL x lg.ls = some b → a ≠ b
    else ∀ a b id, findL c lg.cs = some (a, b) → findL x lg.ls = some id → a.get id = b.get id
  | [], _, w, c, x, h => by simp at h
  | (w', c', x') :: l, hk, w, c, x, h => by
    simp only [chkOk, Bool.and_eq_true] at hk
    simp only [List.mem_cons, Prod.mk.injEq] at h
    rcases h with ⟨rfl, rfl, rfl⟩ | h
    · have h1 := hk.1
      cases w
      · simp only [Bool.false_eq_true, if_false] at h1 ⊢
        intro a b id ha hb
        rw [ha, hb] at h1
        exact (obeq_iff _ _).1 h1
      · simp only [if_true] at h1 ⊢
        intro a b ha hb
        rw [ha, hb] at h1
        simpa using h1
    · exact chkOk_mem hk.2 h

theorem okPair_of {chk : List (Bool × Nat × Nat)} {a b : Op1} (h : sortsOk chk a b = true) : okPair a.op.sort b.op.sort = true := by
  unfold sortsOk at h
  unfold okPair
  cases ha : a.op.sort <;> cases hb : b.op.sort <;> rw [ha, hb] at h <;> simp_all

theorem I.takes_e {o : I} (h : o.sort = .e) : o.takes = true := by cases o <;> simp_all [I.takes, I.sort]
/-- The names that operations of a list may take are free. -/
def Free (tick : Nat) (h : H) (l : List Op1) : Prop := ∀ o ∈ l, o.ix < 256 ∧ (o.op.takes = true → h.get (tick * 256 + o.ix) = none ∧ tick < h.nx)

theorem Free.step {cf : CallF} (hd : CDom cf) {tick : Nat} {fr : Fr} {h h1 : H} {j : Op1} {l : List Op1} {v : V} {r : Bool} (hf : Free tick h l) (hn : j.ix ∉ l.map (·.ix))
    (s : opv cf tick fr h j = some (v, h1, r)) : Free tick h1 l := by
  have dm : Dom (tick * 256 + j.ix) h h1 := by
    unfold opv at s
    split at s
    · simp at s
    · simp only [Option.some.injEq, Prod.mk.injEq] at s; obtain ⟨_, rfl, _⟩ := s; exact Dom.refl _ _
    · simp only [Option.map_eq_some_iff] at s
      obtain ⟨⟨w, m⟩, t, e⟩ := s
      simp only [Prod.mk.injEq] at e
      obtain ⟨_, rfl, _⟩ := e
      exact stepc_dom hd t
  intro o ho
  obtain ⟨h1', h2⟩ := hf o ho
  refine ⟨h1', fun e => ?_⟩
  obtain ⟨h3, h4⟩ := h2 e
  refine ⟨dm.2 _ (by omega) ?_ h3, Nat.lt_of_lt_of_le h4 dm.1⟩
  intro he
  apply hn
  rw [List.mem_map]
  exact ⟨o, ho, by omega⟩

set_option maxHeartbeats 1000000 in
theorem swap_run {cf : CallF} (hx : CExt cf) (hd : CDom cf) {tick : Nat} {lgd : Bool} {chk : List (Bool × Nat × Nat)} (hlg : chk ≠ [] → lgd = true) {j i : Op1} {l : List Op1} {fr : Fr} {h : H} {lg : Log}
    {fE : Fr} {hE : H} {lE : Log} (hr : runOps cf tick lgd (j :: i :: l) fr h lg = some (fE, hE, lE)) (hc : chkOk lE chk = true)
    (hap : apart j i = true) (hok : sortsOk chk j i = true) (hnd : ((j :: i :: l).map (·.ix)).Nodup) (hf : Free tick h (j :: i :: l)) :
    ∃ fE2 hE2 lE2, runOps cf tick lgd (i :: j :: l) fr h lg = some (fE2, hE2, lE2) ∧ FEq fE fE2 ∧ HEq hE hE2 ∧ LRel lE lE2 := by
  rw [runOps_cons] at hr
  cases s1 : opv cf tick fr h j with
  | none => rw [s1] at hr; simp at hr
  | some p =>
    obtain ⟨vj, h1, rj⟩ := p
    rw [s1] at hr
    simp only at hr
    rw [runOps_cons] at hr
    cases s2 : opv cf tick (putv fr j.dst vj) h1 i with
    | none => rw [s2] at hr; simp at hr
    | some q =>
      obtain ⟨vi, h2, ri⟩ := q
      rw [s2] at hr
      simp only at hr
      simp only [List.map_cons, List.nodup_cons, List.mem_cons, not_or] at hnd
      obtain ⟨⟨hji, hjl⟩, hil, _⟩ := hnd
      obtain ⟨a1, a2, a3⟩ := apart_spec hap
      -- what the log holds of the two
      have lj := runOps_log tick lgd l hr j.ix hjl
      have li := runOps_log tick lgd l hr i.ix hil
      have lj' := findL_logp_ne tick lgd i (putv fr j.dst vj) h1 h2 ri (logp tick lgd j fr h h1 rj lg) hji
      have sn : rj = true → ri = true → Seen fr (tick * 256 + j.ix) (tick * 256 + i.ix) j.op i.op h h1 h2 := by
        intro hrj hri
        subst hrj hri
        have cs_j : lgd = true → findL j.ix lE.cs = some (h, h1) := fun hl => by
          rw [lj.1, lj'.1]; simp [logp, hl, Log.push, findL]
        have cs_i : lgd = true → findL i.ix lE.cs = some (h1, h2) := fun hl => by
          rw [li.1]; simp [logp, hl, Log.push, findL]
        have ls_j : lgd = true → ∀ id, addrOf fr (tick * 256 + j.ix) j.op = some id → findL j.ix lE.ls = some id := fun hl id ha => by
          rw [lj.2, lj'.2]; simp [logp, hl, Log.push, findL, ha]
        have ls_i : lgd = true → ∀ id, addrOf fr (tick * 256 + i.ix) i.op = some id → findL i.ix lE.ls = some id := fun hl id ha => by
          rw [li.2]; simp [logp, hl, Log.push, addrOf_putv a1, findL, ha]
        refine ⟨fun hsj hsi id ha => ?_, fun hsj hsi id ha => ?_, fun hs a b ha hb => ?_⟩
        · have hm : (false, i.ix, j.ix) ∈ chk := by
            unfold sortsOk at hok
            rcases hsi with hsi | hsi <;> rw [hsj, hsi] at hok <;> simpa using hok
          have hl := hlg (List.ne_nil_of_mem hm)
          have := chkOk_mem hc hm
          simp only [Bool.false_eq_true, if_false] at this
          exact this _ _ _ (cs_i hl) (ls_j hl id ha)
        · have hm : (false, j.ix, i.ix) ∈ chk := by
            unfold sortsOk at hok
            rcases hsj with hsj | hsj <;> rw [hsj, hsi] at hok <;> simpa using hok
          have hl := hlg (List.ne_nil_of_mem hm)
          have := chkOk_mem hc hm
          simp only [Bool.false_eq_true, if_false] at this
          exact this _ _ _ (cs_j hl) (ls_i hl id ha)
        · have hm : (true, j.ix, i.ix) ∈ chk := by
            unfold sortsOk at hok
            rcases hs with ⟨hsj, hsi⟩ | ⟨hsj, hsi | hsi⟩ <;> rw [hsj, hsi] at hok <;> simpa using hok
          have hl := hlg (List.ne_nil_of_mem hm)
          have := chkOk_mem hc hm
          simp only [if_true] at this
          exact this _ _ (ls_j hl a ha) (ls_i hl b hb)
      have fj := hf j (by simp)
      have fi := hf i (by simp)
      obtain ⟨k1, k2, b1, b2, b3, b4, b5⟩ := swap_opv hx hd s1 s2 hap (okPair_of hok) hji (fun e => (fj.2 (I.takes_e e)).1) (fun e => ⟨(fi.2 (I.takes_e e)).1, by have := (fi.2 (I.takes_e e)).2; omega⟩) sn
      have el : LRel (logp tick lgd i (putv fr j.dst vj) h1 h2 ri (logp tick lgd j fr h h1 rj lg)) (logp tick lgd j (putv fr i.dst vi) k1 k2 rj (logp tick lgd i fr h k1 ri lg)) := by
        refine ⟨fun c => ?_, fun c => ?_⟩
        · simp only [findL_logp_ls, addrOf_putv a1, addrOf_putv a3]
          by_cases hcj : c = j.ix
          · have hci : c ≠ i.ix := fun e => hji (hcj.symm.trans e)
            simp [hcj, hji]
          · simp [hcj]
        · simp only [findL_logp_cs]
          by_cases hcj : c = j.ix
          · by_cases hb : (lgd && rj) = true
            · have hrj : rj = true := by cases rj <;> simp at hb ⊢
              simp only [hcj, hji, hb, and_self, and_false, if_true, if_false]
              exact b4 hrj
            · simp only [hcj, hji, hb, and_false, false_and, if_false, Bool.false_eq_true]
              cases findL j.ix lg.cs <;> simp
          · by_cases hci : c = i.ix
            · by_cases hb : (lgd && ri) = true
              · have hri : ri = true := by cases ri <;> simp at hb ⊢
                simp only [hci, Ne.symm hji, hb, and_self, and_false, if_true, if_false]
                exact b5 hri
              · simp only [hci, Ne.symm hji, hb, and_false, false_and, if_false, Bool.false_eq_true]
                cases findL i.ix lg.cs <;> simp
            · simp only [hcj, hci, and_false, if_false]
              cases findL c lg.cs <;> simp
      obtain ⟨fE2, hE2, lE2, c1, c2, c3, c4⟩ := runOps_congr hx tick lgd l (putv_comm fr j.dst i.dst vj vi a2) b3 el hr
      refine ⟨fE2, hE2, lE2, ?_, c2, c3, c4⟩
      rw [runOps_cons, b1]
      simp only
      rw [runOps_cons, b2]
      exact c1

theorem bubble {cf : CallF} (hx : CExt cf) (hd : CDom cf) {tick : Nat} {lgd : Bool} {chk : List (Bool × Nat × Nat)} (hlg : chk ≠ [] → lgd = true) {i : Op1} {l2 : List Op1} :
    ∀ (l1 : List Op1) {fr : Fr} {h : H} {lg : Log} {fE : Fr} {hE : H} {lE : Log} (_ : runOps cf tick lgd (l1 ++ i :: l2) fr h lg = some (fE, hE, lE)) (_ : chkOk lE chk = true)
      (_ : ∀ j ∈ l1, apart j i = true ∧ sortsOk chk j i = true) (_ : ((l1 ++ i :: l2).map (·.ix)).Nodup) (_ : Free tick h (l1 ++ i :: l2)),
      ∃ fE2 hE2 lE2, runOps cf tick lgd (i :: (l1 ++ l2)) fr h lg = some (fE2, hE2, lE2) ∧ FEq fE fE2 ∧ HEq hE hE2 ∧ LRel lE lE2
  | [], fr, h, lg, fE, hE, lE, hr, _, _, _, _ => ⟨fE, hE, lE, hr, FEq.refl _, HEq.refl _, LRel.refl _⟩
  | j :: l1, fr, h, lg, fE, hE, lE, hr, hc, hj, hnd, hf => by
    have hr' := hr
    rw [List.cons_append, runOps_cons] at hr'
    cases s1 : opv cf tick fr h j with
    | none => rw [s1] at hr'; simp at hr'
    | some p =>
      obtain ⟨vj, h1, rj⟩ := p
      rw [s1] at hr'
      simp only at hr'
      simp only [List.cons_append, List.map_cons, List.nodup_cons] at hnd
      have hf1 : Free tick h (l1 ++ i :: l2) := fun o ho => hf o (by simp only [List.cons_append, List.mem_cons]; exact .inr ho)
      obtain ⟨f2, h2, g2, c1, c2, c3, c4⟩ := bubble hx hd hlg l1 hr' hc (fun o ho => hj o (by simp [ho])) hnd.2 (hf1.step hd hnd.1 s1)
      have c5 : runOps cf tick lgd (j :: i :: (l1 ++ l2)) fr h lg = some (f2, h2, g2) := by rw [runOps_cons, s1]; exact c1
      have hperm : ∀ o, o ∈ i :: (l1 ++ l2) ↔ o ∈ l1 ++ i :: l2 := fun o => by simp only [List.mem_cons, List.mem_append]; constructor <;> (rintro (h | h | h) <;> simp [h])
      have hp : (i :: (l1 ++ l2)).Perm (l1 ++ i :: l2) := List.perm_middle.symm
      have hnd2 : ((j :: i :: (l1 ++ l2)).map (·.ix)).Nodup := by
        rw [List.map_cons, List.nodup_cons]
        refine ⟨?_, (hp.map _).nodup_iff.2 hnd.2⟩
        intro hm
        exact hnd.1 ((hp.map _).mem_iff.1 hm)
      have hf2 : Free tick h (j :: i :: (l1 ++ l2)) := fun o ho => hf o (by
        rw [List.mem_cons] at ho
        rw [List.cons_append, List.mem_cons]
        exact ho.imp id (hperm o).1)
      obtain ⟨h3, h4⟩ := hj j (by simp)
      obtain ⟨f3, h5, g3, d1, d2, d3, d4⟩ := swap_run hx hd hlg c5 (c4.chk _ hc) h3 h4 hnd2 hf2
      exact ⟨f3, h5, g3, d1, c2.trans d2, c3.trans d3, c4.trans d4⟩
end Go.Proofs.Ytakahhnlbciicaa.Ai

namespace Go.Proofs.Ytakahhnlbciicaa.Ai
open Go

/-- What was free below the counter is free. -/
def Dm (h h' : H) : Prop := h.nx ≤ h'.nx ∧ ∀ id, id < h.nx * 256 → h.get id = none → h'.get id = none
theorem Dm.refl (h : H) : Dm h h := ⟨Nat.le_refl _, fun _ _ e => e⟩
theorem Dm.trans {a b c : H} (h : Dm a b) (k : Dm b c) : Dm a c :=
  ⟨Nat.le_trans h.1 k.1, fun id hi e => k.2 id (Nat.lt_of_lt_of_le hi (Nat.mul_le_mul_right _ h.1)) (h.2 id hi e)⟩
theorem Dm.dom {h h' : H} (e : Dm h h') (nid : Nat) : Dom nid h h' := ⟨e.1, fun id hi _ => e.2 id hi⟩
theorem Dm.of_all {h h' : H} (e : ∀ nid, Dom nid h h') : Dm h h' := ⟨(e 0).1, fun id hi => (e (id + 1)).2 id hi (by omega)⟩

theorem runOps_dm {cf : CallF} (hd : CDom cf) (tick : Nat) (lgd : Bool) (B : Nat) (hB : B ≤ tick) : ∀ (l : List Op1) {fr : Fr} {h : H} {lg : Log} {fE : Fr} {hE : H} {lE : Log}
    (_ : B ≤ h.nx) (_ : runOps cf tick lgd l fr h lg = some (fE, hE, lE)), h.nx ≤ hE.nx ∧ ∀ id, id < B * 256 → h.get id = none → hE.get id = none
  | [], fr, h, lg, fE, hE, lE, _, hr => by
    simp only [runOps, Option.some.injEq, Prod.mk.injEq] at hr
    obtain ⟨rfl, rfl, rfl⟩ := hr
    exact ⟨Nat.le_refl _, fun _ _ e => e⟩
  | o :: l, fr, h, lg, fE, hE, lE, hb, hr => by
    rw [runOps_cons] at hr
    cases ho : opv cf tick fr h o with
    | none => rw [ho] at hr; simp at hr
    | some p =>
      obtain ⟨v, m, ran⟩ := p
      rw [ho] at hr
      have dm : Dom (tick * 256 + o.ix) h m := by
        unfold opv at ho
        split at ho
        · simp at ho
        · simp only [Option.some.injEq, Prod.mk.injEq] at ho; obtain ⟨_, rfl, _⟩ := ho; exact Dom.refl _ _
        · simp only [Option.map_eq_some_iff] at ho
          obtain ⟨⟨w, m'⟩, t, e⟩ := ho
          simp only [Prod.mk.injEq] at e
          obtain ⟨_, rfl, _⟩ := e
          exact stepc_dom hd t
      obtain ⟨h1, h2⟩ := runOps_dm hd tick lgd B hB l (Nat.le_trans hb dm.1) hr
      refine ⟨Nat.le_trans dm.1 h1, fun id hi e => h2 id hi ?_⟩
      have t1 : B * 256 ≤ tick * 256 := Nat.mul_le_mul_right 256 hB
      have t2 : B * 256 ≤ h.nx * 256 := Nat.mul_le_mul_right 256 hb
      have t3 : id ≠ tick * 256 + o.ix := fun e => absurd hi (by rw [e]; exact Nat.not_lt.2 (Nat.le_trans t1 (Nat.le_add_right _ _)))
      exact dm.2 id (Nat.lt_of_lt_of_le hi t2) t3 e

theorem exec_dm {cf : CallF} (hd : CDom cf) (n : Nat) : ∀ (c : IC) {fr : Fr} {h : H} {x : X} {fr' : Fr} {h' : H} (_ : exec cf n c fr h = some (x, fr', h')), Dm h h'
  | .skip, fr, h, x, fr', h', hr => by simp only [exec, Option.some.injEq, Prod.mk.injEq] at hr; obtain ⟨rfl, rfl, rfl⟩ := hr; exact Dm.refl _
  | .exit _, fr, h, x, fr', h', hr => by simp only [exec, Option.some.injEq, Prod.mk.injEq] at hr; obtain ⟨rfl, rfl, rfl⟩ := hr; exact Dm.refl _
  | .ret, fr, h, x, fr', h', hr => by simp only [exec, Option.some.injEq, Prod.mk.injEq] at hr; obtain ⟨rfl, rfl, rfl⟩ := hr; exact Dm.refl _
  | .reg _ al ops chk out, fr, h, x, fr', h', hr => by
    simp only [exec] at hr
    cases hs : runOps cf h.nx (!chk.isEmpty) ops fr (if al then { h with nx := h.nx + 1 } else h) ⟨[], []⟩ with
    | none => rw [hs] at hr; simp at hr
    | some p =>
      obtain ⟨f1, h1, l1⟩ := p
      have hn : h.nx ≤ (if al then { h with nx := h.nx + 1 } else h : H).nx := by cases al <;> simp
      have hg : ∀ id, (if al then { h with nx := h.nx + 1 } else h : H).get id = h.get id := by cases al <;> simp
      obtain ⟨a1, a2⟩ := runOps_dm hd h.nx (!chk.isEmpty) h.nx (Nat.le_refl _) ops hn hs
      rw [hs] at hr
      simp only at hr
      split at hr
      · simp only [Option.some.injEq, Prod.mk.injEq] at hr
        obtain ⟨rfl, rfl, rfl⟩ := hr
        exact ⟨Nat.le_trans hn a1, fun id hi e => a2 id hi (by rw [hg]; exact e)⟩
      · simp at hr
  | .seq a b, fr, h, x, fr', h', hr => by
    simp only [exec] at hr
    cases hs : exec cf n a fr h with
    | none => rw [hs] at hr; simp at hr
    | some p =>
      obtain ⟨x1, f1, h1⟩ := p
      have e1 := exec_dm hd n a hs
      rw [hs] at hr
      cases x1 with
      | norm => exact e1.trans (exec_dm hd n b hr)
      | brk j => simp only [Option.some.injEq, Prod.mk.injEq] at hr; obtain ⟨rfl, rfl, rfl⟩ := hr; exact e1
      | ret => simp only [Option.some.injEq, Prod.mk.injEq] at hr; obtain ⟨rfl, rfl, rfl⟩ := hr; exact e1
  | .cond c a b, fr, h, x, fr', h', hr => by
    simp only [exec] at hr
    split at hr
    · exact exec_dm hd n a hr
    · exact exec_dm hd n b hr
    · simp at hr
  | .block id b, fr, h, x, fr', h', hr => by
    simp only [exec] at hr
    cases hs : exec cf n b fr h with
    | none => rw [hs] at hr; simp at hr
    | some p =>
      obtain ⟨x1, f1, h1⟩ := p
      have e1 := exec_dm hd n b hs
      rw [hs] at hr
      cases x1 with
      | norm => simp only [Option.some.injEq, Prod.mk.injEq] at hr; obtain ⟨rfl, rfl, rfl⟩ := hr; exact e1
      | ret => simp only [Option.some.injEq, Prod.mk.injEq] at hr; obtain ⟨rfl, rfl, rfl⟩ := hr; exact e1
      | brk j =>
        simp only at hr
        split at hr <;> (simp only [Option.some.injEq, Prod.mk.injEq] at hr; obtain ⟨rfl, rfl, rfl⟩ := hr; exact e1)
  | .loop b, fr, h, x, fr', h', hr => by
    simp only [exec] at hr
    have key : ∀ (m : Nat) (fr : Fr) (h : H) (x : X) (fr' : Fr) (h' : H), loopN (exec cf n b) m fr h = some (x, fr', h') → Dm h h' := by
      intro m
      induction m with
      | zero => intro fr h x fr' h' hr; simp [loopN] at hr
      | succ m ih =>
        intro fr h x fr' h' hr
        simp only [loopN] at hr
        cases hs : exec cf n b fr h with
        | none => rw [hs] at hr; simp at hr
        | some p =>
          obtain ⟨x1, f1, h1⟩ := p
          have e1 := exec_dm hd n b hs
          rw [hs] at hr
          cases x1 with
          | norm => exact e1.trans (ih _ _ _ _ _ hr)
          | brk j => simp only [Option.some.injEq, Prod.mk.injEq] at hr; obtain ⟨rfl, rfl, rfl⟩ := hr; exact e1
          | ret => simp only [Option.some.injEq, Prod.mk.injEq] at hr; obtain ⟨rfl, rfl, rfl⟩ := hr; exact e1
    exact key n fr h x fr' h' hr

theorem call_dom (fns : Nat → Option Fun) : ∀ n, CDom (call fns n)
  | 0 => fun f vs h r h' hr => by simp [call] at hr
  | n + 1 => fun f vs h r h' hr nid => by
    simp only [call] at hr
    cases hf : fns f with
    | none => rw [hf] at hr; simp at hr
    | some fn =>
      rw [hf] at hr
      simp only at hr
      cases hs : exec (call fns n) n fn.body (enter 0 vs) h with
      | none => rw [hs] at hr; simp at hr
      | some p =>
        obtain ⟨x, fr, m⟩ := p
        have e1 := exec_dm (call_dom fns n) n fn.body hs
        rw [hs] at hr
        simp only at hr
        cases bx : x.isBrk
        case true => rw [bx] at hr; simp at hr
        case false =>
          rw [bx] at hr
          simp only [Bool.false_eq_true, if_false] at hr
          cases h2 : rvs fr m fn.res with
          | none => rw [h2] at hr; simp at hr
          | some ws =>
            rw [h2] at hr
            simp only at hr
            split at hr
            · simp only [Option.map_eq_some_iff] at hr
              obtain ⟨⟨vs', h2⟩, hq, hr⟩ := hr
              simp only [Prod.mk.injEq] at hr
              rw [← hr.2]
              exact (e1.dom nid).trans (frzR_dom hq)
            · simp only [Option.some.injEq, Prod.mk.injEq] at hr
              rw [← hr.2]; exact e1.dom nid
end Go.Proofs.Ytakahhnlbciicaa.Ai
end
