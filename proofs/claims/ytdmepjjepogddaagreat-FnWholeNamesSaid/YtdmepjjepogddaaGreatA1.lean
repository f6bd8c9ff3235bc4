/-
  What the proof of this row needs, part 1: the typed evaluator of the translated code, the functions that the law reaches as plain functions, and what they answer.
-/
import Derived.Orders
import Derived.KernelRfl
import Derived.Calls
import Derived.Laws.Slices
import Derived.Laws.Cells
import Derived.Laws.Build
import Derived.Laws.IdiomCopy
import Derived.Laws.AppendOwn
import Derived.Laws.MakeOwn
section
set_option linter.unusedVariables false
namespace Go.Rf
inductive Ty where
 | int (k : IntKind) | bool | str | sl (e : Ty) | pair (a b : Ty)
 deriving DecidableEq
@[reducible] def den : Ty → Type
 | .int _ => Int
 | .bool => Bool
 | .str => ByteArray
 | .sl e => List (den e)
 | .pair a b => den a × den b
def Be : (t : Ty) → den t
 | .int _ => (0 : Int)
 | .bool => false
 | .str => (⟨#[]⟩ : ByteArray)
 | .sl _ => []
 | .pair a b => (Be a, Be b)
def wd : Ty → Nat
 | .pair a b => wd a + wd b
 | _ => 1
def Bc : Ty → Bool
 | .sl _ => true
 | .pair a b => Bc a || Bc b
 | _ => false
def ikb : IntKind → IntKind → Bool
 | .i8, .i8 | .i16, .i16 | .i32, .i32 | .i64, .i64 | .u8, .u8 | .u16, .u16 | .u32, .u32 | .u64, .u64 => true
 | _, _ => false
inductive Loc where
 | cell (k : Nat)
 | elem (k : Nat) (e : Nat) (c : Nat)
inductive Mode where
 | own | sown | ro | rox
 deriving DecidableEq
def Mode.nest : Mode → Mode
 | .own => .own
 | _ => .ro
def Mode.isOwn : Mode → Bool
 | .own | .sown => true
 | _ => false
inductive Leaf where
 | v (x : Value)
 | s (m : Mode) (t : Ty) (l : List (den t))
 | h (m : Mode) (t : Ty) (l : List (den t)) (e c : Nat)
 | q (m : Mode) (t : Ty) (l : List (den t)) (p : Int)
 | a (p : Loc) (v0 v1 : Nat) (w : Option (Nat × Nat))
 | ptr (p : Loc) (n v0 : Nat)
 | fn (f : Nat) (caps : List (Loc × Nat × Nat))
 | it (f : Nat) (t : Ty) (l : List (den t)) (n : Int)
 | d
inductive A where
 | one (x : Leaf)
 | agg (xs : List Leaf)
 | tup (xs : List (Bool × List Leaf))
inductive XL where
 | l (x : Leaf)
 | b (x : Leaf)
 | p (cs : List Leaf)
 | fn (f : Nat) (caps : List (List Leaf))
inductive Arg where
 | one (x : XL)
 | agg (xs : List XL)
structure CR where
 {R : Type}
 o : Option R
 e : R → A × List (List Leaf)
structure Ent where
 c : Leaf
 v0 : Nat
 v1 : Nat
structure St where
 ts : List A
 mm : List (Nat × Ent)
def nthD {α : Type} : List α → Nat → α → α
 | [], _, d => d
 | a :: _, 0, _ => a
 | _ :: r, n + 1, d => nthD r n d
def Dw {α : Type} : List α → Nat → Option α
 | [], _ => none
 | a :: _, 0 => some a
 | _ :: r, n + 1 => Dw r n
def Yc {α : Type} : List α → Nat → α → List α
 | [], _, _ => []
 | _ :: r, 0, x => x :: r
 | a :: r, n + 1, x => a :: Yc r n x
def lk : List (Nat × Ent) → Nat → Option Ent
 | [], _ => none
 | (k, e) :: r, q => cond (Nat.beq k q) (some e) (lk r q)
def ups : List (Nat × Ent) → Nat → Ent → List (Nat × Ent)
 | [], q, e => [(q, e)]
 | (k, x) :: r, q, e => cond (Nat.beq k q) ((k, e) :: r) ((k, x) :: ups r q e)
def St.tmp (σ : St) (t : Nat) : A := nthD σ.ts t (.one .d)
def St.setT (σ : St) (t : Nat) (x : A) : St := ⟨Yc σ.ts t x, σ.mm⟩
def St.mem (σ : St) (k : Nat) : Option Ent := lk σ.mm k
def St.setM (σ : St) (k : Nat) (e : Ent) : St := ⟨σ.ts, ups σ.mm k e⟩
def enc (m : Mode) : (t : Ty) → den t → List Leaf
 | .int k, n => [.v (.int k n)]
 | .bool, b => [.v (.bool b)]
 | .str, s => [.v (.string s)]
 | .sl e, l => [.s m e l]
 | .pair a b, x => enc m a x.1 ++ enc m b x.2
def L2 (m n : Mode) : Bool :=
 match m with
 | .own => (match n with | .own => true | _ => false)
 | .sown => n.isOwn
 | _ => true
def Xlm (k : IntKind) : Leaf → Option Int
 | .v (.int k' n) => cond (ikb k k') (some n) none
 | _ => none
def Xj6 : Leaf → Option Bool
 | .v (.bool b) => some b
 | _ => none
def Xk1 : Leaf → Option ByteArray
 | .v (.string s) => some s
 | _ => none
def Xkw (m : Mode) (e : Ty) : Leaf → Option (List (den e))
 | .s n t l => cond (L2 m n) (if h : t = e then some (h ▸ l) else none) none
 | .v (.slice none 0 0) => some []
 | _ => none
def hd {α : Type} (f : Leaf → Option α) : List Leaf → Option (α × List Leaf)
 | [] => none
 | c :: r => match f c with
  | some a => some (a, r)
  | none => none
def N8 (m : Mode) : (t : Ty) → List Leaf → Option (den t × List Leaf)
 | .int k => hd (Xlm k)
 | .bool => hd Xj6
 | .str => hd Xk1
 | .sl e => hd (Xkw m e)
 | .pair a b => fun cs =>
  match N8 m a cs with
  | some (x, r) => (match N8 m b r with | some (y, r') => some ((x, y), r') | none => none)
  | none => none
def M0 (m : Mode) (t : Ty) (cs : List Leaf) : Option (den t) :=
 match N8 m t cs with
 | some (x, []) => some x
 | _ => none
inductive Pg (α : Type) : Type where
 | ret (a : α)
 | fail
 | getT (t : Nat) (k : A → Pg α)
 | setT (t : Nat) (x : A) (k : Pg α)
 | getM (κ : Nat) (k : Option Ent → Pg α)
 | setM (κ : Nat) (e : Ent) (k : Pg α)
 | br (b : Bool) (p q : Pg α)
 | brT (t : Nat) (p q u : Pg α)
 | call (f : Nat) (as : List Arg) (k : A × List (List Leaf) → Pg α)
def Pg.bind {α β : Type} : Pg α → (α → Pg β) → Pg β
 | .ret a, k => k a
 | .fail, _ => .fail
 | .getT t p, k => .getT t fun x => (p x).bind k
 | .setT t x p, k => .setT t x (p.bind k)
 | .getM κ p, k => .getM κ fun x => (p x).bind k
 | .setM κ e p, k => .setM κ e (p.bind k)
 | .br b p q, k => .br b (p.bind k) (q.bind k)
 | .brT t p q u, k => .brT t (p.bind k) (q.bind k) (u.bind k)
 | .call f as p, k => .call f as fun r => (p r).bind k
instance : Monad Pg where
 pure := .ret
 bind := Pg.bind
def Pg.mapL {α β : Type} (f : α → Pg β) : List α → Pg (List β)
 | [] => .ret []
 | a :: r => (f a).bind fun b => (Pg.mapL f r).bind fun bs => .ret (b :: bs)
def Pg.eachL {α : Type} (f : α → Pg Unit) : List α → Pg Unit
 | [] => .ret ()
 | a :: r => (f a).bind fun _ => Pg.eachL f r
abbrev Tab := Nat → List Arg → Option CR
def Pg.run (tab : Tab) {α β : Type} : Pg α → St → (α → St → Option β) → Option β
 | .ret a, σ, k => k a σ
 | .fail, _, _ => none
 | .getT t p, σ, k => (p (σ.tmp t)).run tab σ k
 | .setT t x p, σ, k => p.run tab (σ.setT t x) k
 | .getM κ p, σ, k => (p (σ.mem κ)).run tab σ k
 | .setM κ e p, σ, k => p.run tab (σ.setM κ e) k
 | .br b p q, σ, k => cond b (p.run tab σ k) (q.run tab σ k)
 | .brT t p q u, σ, k =>
  match σ.tmp t with
  | .one (.v (.bool c)) => cond c (p.run tab (σ.setT t (.one (.v (.bool true)))) k) (q.run tab (σ.setT t (.one (.v (.bool false)))) k)
  | .one (.v (.tuple _)) => u.run tab σ k
  | _ => none
 | .call f as p, σ, k =>
  match tab f as with
  | some cr => cr.o.bind fun r => (p (cr.e r)).run tab σ k
  | none => none
abbrev Log := List (Nat × Bool)
def Pg.runD (tab : Tab) {α β : Type} : Pg α → St → Log → (α → St → Log → Option β) → Option β
 | .ret a, σ, g, k => k a σ g
 | .fail, _, _, _ => none
 | .getT t p, σ, g, k => (p (σ.tmp t)).runD tab σ ((2 * t, false) :: g) k
 | .setT t x p, σ, g, k => p.runD tab (σ.setT t x) ((2 * t, true) :: g) k
 | .getM κ p, σ, g, k => (p (σ.mem κ)).runD tab σ ((2 * κ + 1, false) :: g) k
 | .setM κ e p, σ, g, k => p.runD tab (σ.setM κ e) ((2 * κ + 1, true) :: g) k
 | .br b p q, σ, g, k => cond b (p.runD tab σ g k) (q.runD tab σ g k)
 | .brT t p q u, σ, g, k =>
  match σ.tmp t with
  | .one (.v (.bool c)) => cond c (p.runD tab (σ.setT t (.one (.v (.bool true)))) ((2 * t, false) :: g) k) (q.runD tab (σ.setT t (.one (.v (.bool false)))) ((2 * t, false) :: g) k)
  | .one (.v (.tuple _)) => u.runD tab σ ((2 * t, false) :: g) k
  | _ => none
 | .call f as p, σ, g, k =>
  match tab f as with
  | some cr => cr.o.bind fun r => (p (cr.e r)).runD tab σ g k
  | none => none
structure TyI where
 ty : Ty
 agg : Bool
 eb : Nat
inductive TK where
 | plain
 | own (m : Mode) (t : Ty) (co : List Nat)
 | ro (t : Ty)
structure Hint where
 tk : List (Nat × TK)
 mh : List (Nat × TK)
structure Env where
 tab : Tab
 lend : Nat → List Bool
 lent : Nat → List Bool
 pins : List (Bool × Nat)
 ty : Nat → Option TyI
 fld : Nat → Nat → Option (Nat × Nat × Bool)
 pw : Nat → Option Nat
 cw : Nat → List Nat
 hint : Nat → Hint
 eqt : Nat → Bool
 rm : Mode
 fuel : Nat
 frz : List Nat := []
 rh : Nat → Option Hint := fun _ => none
 itr : List (Nat × Nat × Ty) := []
def G3 : Nat := 1000
def Mc : Operand → Pg A
 | .tmp t => .getT t .ret
 | .const v => (match v with
  | .agg cs => .ret (.agg (cs.toList.map .v))
  | v => .ret (.one (.v v)))
 | .func f => .ret (.one (.fn f []))
 | .global _ => .fail
def N6 (b : Bool) : Pg Unit := .br b (.ret ()) .fail
def C8 (b : Bool) : Pg Unit := cond b (.ret ()) .fail
def D8 : Leaf → Bool
 | .v (.agg _) => false
 | .v (.tuple _) => false
 | .h _ _ _ _ _ => false
 | .q _ _ _ _ => false
 | .it _ _ _ _ => false
 | .d => false
 | _ => true
def Xg6 : A → Pg Leaf
 | .one x => .ret x
 | _ => .fail
def cellsOf : A → Pg (List Leaf)
 | .one x => (C8 (D8 x)).bind fun _ => .ret [x]
 | .agg xs => .ret xs
 | _ => .fail
def intOf : A → Pg (IntKind × Int)
 | .one (.v (.int k n)) => .ret (k, n)
 | _ => .fail
def win (w : Option (Nat × Nat)) {α : Type} (l : List α) : List α :=
 match w with
 | none => l
 | some (lo, hi) => (l.take hi).drop lo
def Ib : Loc → Nat
 | .cell k => k
 | .elem k _ _ => k
def Ii (p : Loc) (v0 v1 : Nat) (e : Ent) : Bool :=
 match p with
 | .cell _ => Nat.beq v0 e.v0
 | _ => Nat.beq v0 e.v0 && Nat.beq v1 e.v1
def Xxa (p : Loc) (v0 : Nat) (e : Ent) : Bool :=
 match p with
 | .cell _ => true
 | .elem _ _ _ => Nat.beq v0 e.v0
def C1 (k : Nat) : Pg Ent := .getM k fun
 | some e => .ret e
 | none => .fail
def Hl : Loc → Pg Ent
  | .cell k => C1 k
  | .elem k e c => (C1 k).bind fun x =>
    match x.c with
    | .s m t l =>
      (match Dw (enc m.nest t (nthD l e (Be t))) c with
       | some y => .ret ⟨y, x.v0, x.v1⟩
       | none => .fail)
    | _ => .fail
def Tx (p : Loc) (e : Ent) : Leaf :=
 match e.c with
 | .s m t l => cond m.isOwn (.a p e.v0 e.v1 none) (.s m t l)
 | .h _ _ _ _ _ => .d
 | .q _ _ _ _ => .d
 | x => x
def Xit : Nat → Nat → Pg (List Leaf)
 | _, 0 => .ret []
 | k, n + 1 => (C1 k).bind fun e => (Xit (k + 1) n).bind fun r => .ret (Tx (.cell k) e :: r)
def Dy (k : Nat) (e : Nat) (v0 v1 : Nat) : Nat → List Leaf → List Leaf
 | _, [] => []
 | c, y :: r => Tx (.elem k e c) ⟨y, v0, v1⟩ :: Dy k e v0 v1 (c + 1) r
def isV : Leaf → Bool
 | .v _ => true
 | _ => false
def W8 (p : Loc) (v0 : Nat) (n : Nat) : Pg (List Leaf) :=
 match p with
 | .cell k => Xit k n
 | .elem k e c => (C1 k).bind fun x =>
  (C8 (Xxa p v0 x)).bind fun _ =>
  match x.c with
  | .s m t l => .ret (Dy k e x.v0 x.v1 c (((enc m.nest t (nthD l e (Be t))).drop c).take n))
  | .q m t l p => (N6 (!decide ((e : Int) < p))).bind fun _ =>
   (C8 ((((enc m.nest t (nthD l e (Be t))).drop c).take n).all isV)).bind fun _ => .ret (((enc m.nest t (nthD l e (Be t))).drop c).take n)
  | _ => .fail
def bump (c : Leaf) : Nat :=
 match c with
 | .v _ => 0
 | _ => 1
def F4 (k : Nat) (v0 : Nat) (w : Option (Nat × Nat)) : Pg Leaf :=
 (C1 k).bind fun e =>
 (C8 (Nat.beq v0 e.v0)).bind fun _ =>
 match e.c with
 | .s m t l => cond m.isOwn (.setM k ⟨.d, e.v0 + 1, e.v1⟩ (.ret (.s m t (win w l)))) (.ret (.s .ro t (win w l)))
 | _ => .fail
def Np (k e c v0 v1 : Nat) (w : Option (Nat × Nat)) : Pg Leaf :=
  (C1 k).bind fun x =>
  (C8 (Nat.beq v0 x.v0 && Nat.beq v1 x.v1)).bind fun _ =>
  match x.c with
  | .s m t l => Pg.bind (cond m.isOwn (Pg.setM k ⟨.s .sown t l, x.v0, x.v1⟩ (.ret ())) (Pg.ret ())) fun _ =>
    (match Dw (enc .ro t (nthD l e (Be t))) c with
     | some (.s _ u l') => .ret (.s .ro u (win w l'))
     | _ => .fail)
  | _ => .fail
def takeHole (k e c v0 v1 : Nat) : Pg Leaf :=
  (C1 k).bind fun x =>
  (C8 (Nat.beq v0 x.v0 && Nat.beq v1 x.v1)).bind fun _ =>
  match x.c with
  | .s .own t l =>
    (match Dw (enc .own t (nthD l e (Be t))) c with
     | some (.s n u l') => .setM k ⟨.h .own t l e c, x.v0, x.v1 + 1⟩ (.ret (.s n u l'))
     | _ => .fail)
  | _ => .fail
def resolve : Leaf → Pg Leaf
 | .a (.cell k) v0 _ w => F4 k v0 w
 | .a (.elem k e c) v0 v1 w => Np k e c v0 v1 w
 | .v x => .ret (.v x)
 | .s m t l => .ret (.s m t l)
 | _ => .fail
def I2 : Leaf → Pg Leaf
 | .a p v0 v1 w => (Hl p).bind fun e =>
  (C8 (Ii p v0 v1 e)).bind fun _ =>
  match e.c with
  | .s _ t l => .ret (.s .ro t (win w l))
  | .v (.slice none 0 0) => .ret (.v (.slice none 0 0))
  | _ => .fail
 | .v x => .ret (.v x)
 | .s m t l => .ret (.s m t l)
 | _ => .fail
def Gq : List Leaf → Bool
 | [] => false
 | .v (.slice _ _ _) :: _ => true
 | .v _ :: r => Gq r
 | _ :: _ => true
def Cb (old : List Leaf) (c : Nat) (new : List Leaf) : List Leaf := old.take c ++ new ++ old.drop (c + new.length)
def Ki (k : Nat) : Leaf → Option (Nat × Option (Nat × Nat))
 | .a (.cell k') v0 _ w => cond (Nat.beq k k') (some (v0, w)) none
 | _ => none
def U7 : Nat → List Leaf → Pg Unit
  | _, [] => .ret ()
  | k, x :: r => (C8 (D8 x)).bind fun _ => (C1 k).bind fun e =>
    match Ki k x with
    | some (v0, w) =>
      (C8 (Nat.beq v0 e.v0)).bind fun _ =>
      (match e.c with
       | .s m t l => (C8 m.isOwn).bind fun _ => .setM k ⟨.s m t (win w l), e.v0 + 1, e.v1⟩ (U7 (k + 1) r)
       | _ => .fail)
    | none => .setM k ⟨x, e.v0 + bump e.c, e.v1⟩ (U7 (k + 1) r)
def Xia (p : Loc) (v0 : Nat) (xs : List Leaf) : Pg Unit :=
  match p with
  | .cell k => U7 k xs
  | .elem k e c =>
    (Pg.mapL resolve xs).bind fun ys =>
    (C1 k).bind fun x =>
    (C8 (Xxa p v0 x)).bind fun _ =>
    match x.c with
    | .s m t l => (C8 m.isOwn).bind fun _ =>
      (match M0 m.nest t (Cb (enc m.nest t (nthD l e (Be t))) c ys) with
       | some z => .setM k ⟨.s m t (l.set e z), x.v0, x.v1 + cond (Gq ys) 1 0⟩ (.ret ())
       | none => .fail)
    | .h m t l e' c' => (C8 (m.isOwn && Nat.beq c c' && Nat.beq ys.length 1)).bind fun _ => (N6 (decide (e = e'))).bind fun _ =>
      (match M0 m.nest t (Cb (enc m.nest t (nthD l e (Be t))) c ys) with
       | some z => .setM k ⟨.s m t (l.set e z), x.v0, x.v1 + 1⟩ (.ret ())
       | none => .fail)
    | _ => .fail
def newRow : Nat → List Leaf → Pg Unit
 | _, [] => .ret ()
 | k, x :: r => .getM k fun
  | none => .setM k ⟨x, 0, 0⟩ (newRow (k + 1) r)
  | some _ => .fail
def Co (k : Nat) (x : Leaf) : Pg Leaf :=
 match x with
 | .s m t l => cond m.isOwn ((newRow k [.s m t l]).bind fun _ => .ret (.a (.cell k) 0 0 none)) (.ret (.s m t l))
 | .v x => .ret (.v x)
 | _ => .fail
def Dn : Nat → List Leaf → Pg (List Leaf)
 | _, [] => .ret []
 | k, x :: r => (Co k x).bind fun y => (Dn (k + 1) r).bind fun ys => .ret (y :: ys)
def Nh : Nat → List (Bool × List Leaf) → Pg (List (Bool × List Leaf))
 | _, [] => .ret []
 | k, (g, xs) :: r => (Dn k xs).bind fun ys => (Nh (k + xs.length) r).bind fun zs => .ret ((g, ys) :: zs)
def Xcg (k : Nat) : A → Pg A
 | .one x => (Co k x).bind fun y => .ret (.one y)
 | .agg xs => (Dn k xs).bind fun ys => .ret (.agg ys)
 | .tup xs => (Nh k xs).bind fun ys => .ret (.tup ys)
end Go.Rf
end

section
set_option linter.unusedVariables false
namespace Go.Rf
def Db (x : Leaf) : Pg A := .ret (.one x)
def Xdf (x : Value) : Pg A := .ret (.one (.v x))
def Fc (k : IntKind) (n : Int) : Pg A := .ret (.one (.v (.int k n)))
def Hj (b : Bool) : Pg A := .ret (.one (.v (.bool b)))
def Cf (op : BinOp) (k : IntKind) (x y : Int) : Int :=
 match op with
 | .and => k.wrap (BitVec.ofInt k.bits x &&& BitVec.ofInt k.bits y).toNat
 | .or => k.wrap (BitVec.ofInt k.bits x ||| BitVec.ofInt k.bits y).toNat
 | .xor => k.wrap (BitVec.ofInt k.bits x ^^^ BitVec.ofInt k.bits y).toNat
 | _ => k.wrap (BitVec.ofInt k.bits x &&& ~~~ BitVec.ofInt k.bits y).toNat
def eqD : (t : Ty) → den t → den t → Bool
 | .int _, a, b => (show Int from a) == b
 | .bool, a, b => (show Bool from a) == b
 | .str, a, b => (show ByteArray from a).toList == (show ByteArray from b).toList
 | .sl _, _, _ => false
 | .pair a b, x, y => eqD a x.1 y.1 && eqD b x.2 y.2
def X3q (op : BinOp) (k : IntKind) (a b : Int) : Pg A :=
 match op with
 | .add => Fc k (k.wrap (a + b))
 | .sub => Fc k (k.wrap (a - b))
 | .mul => Fc k (k.wrap (a * b))
 | .quo => .br (decide (b = 0)) .fail (Fc k (k.wrap (a.tdiv b)))
 | .rem => .br (decide (b = 0)) .fail (Fc k (a.tmod b))
 | .and => Fc k (Cf .and k a b)
 | .or => Fc k (Cf .or k a b)
 | .xor => Fc k (Cf .xor k a b)
 | .andNot => Fc k (Cf .andNot k a b)
 | .eql => Hj (a == b)
 | .neq => Hj (a != b)
 | .lss => Hj (decide (a < b))
 | .leq => Hj (decide (a ≤ b))
 | .gtr => Hj (decide (a > b))
 | .geq => Hj (decide (a ≥ b))
 | _ => .fail
def isB (E : Env) (t : Nat) : Bool :=
 match E.ty t with
 | some ⟨.bool, false, _⟩ => true
 | _ => false
def Xjk (E : Env) (t : Nat) : Bool :=
 match E.ty t with
 | some ⟨.sl _, false, _⟩ => true
 | _ => false
def X27 (E : Env) (op : BinOp) (t : Nat) (x y : A) : Pg A :=
  match x, y with
  | .one (.v (.int k a)), .one (.v (.int k' b)) =>
    (match op with
     | .shl => .br (decide (b < 0)) .fail (Fc k (k.wrap (a * 2 ^ min b.toNat k.bits)))
     | .shr => .br (decide (b < 0)) .fail (Fc k (a.fdiv (2 ^ min b.toNat k.bits)))
     | _ => cond (ikb k k') (X3q op k a b) .fail)
  | .one (.v (.bool a)), .one (.v (.bool b)) =>
    cond (isB E t) (match op with
     | .eql => Hj (a == b)
     | .neq => Hj (!(a == b))
     | _ => .fail) .fail
  | .one (.v (.string a)), .one (.v (.string b)) =>
    (match op with
     | .eql => Hj (a.toList == b.toList)
     | .neq => Hj (!(a.toList == b.toList))
     | .lss => Hj (Go.Op.bytesLess a.toList b.toList)
     | .leq => Hj (Go.Op.bytesLess a.toList b.toList || a.toList == b.toList)
     | .gtr => Hj (!(Go.Op.bytesLess a.toList b.toList || a.toList == b.toList))
     | .geq => Hj (!Go.Op.bytesLess a.toList b.toList)
     | _ => .fail)
  | .agg xs, .agg ys => cond (E.eqt t)
    (match E.ty t with
     | some ⟨ty, true, _⟩ => cond (Bc ty) .fail
       (match M0 .own ty xs, M0 .own ty ys with
        | some x, some y => (match op with
          | .eql => Hj (eqD ty x y)
          | .neq => Hj (!(eqD ty x y))
          | _ => .fail)
        | _, _ => .fail)
     | _ => .fail) .fail
  | .one (.s _ _ l), .one (.v (.slice none 0 0)) => cond (Xjk E t)
    (match op with
     | .eql => .br (decide (l.length = 0)) .fail (Hj false)
     | _ => .fail) .fail
  | .one (.v (.slice none 0 0)), .one (.v (.slice none 0 0)) => cond (Xjk E t)
    (match op with
     | .eql => Hj true
     | _ => .fail) .fail
  | _, _ => .fail
def unP (op : UnOp) (x : A) : Pg A :=
 match op, x with
 | .neg, .one (.v (.int k n)) => Fc k (k.wrap (0 - n))
 | .xor, .one (.v (.int k n)) => Fc k (Cf .xor k (if k.signed then -1 else k.max) n)
 | .not, .one (.v (.bool b)) => Hj (!b)
 | _, _ => .fail
def Lh (l : List Int) : ByteArray := ⟨(l.map fun n => UInt8.ofNat n.toNat).toArray⟩
def bytesOf (s : ByteArray) : List Int := s.data.toList.map fun b => (b.toNat : Int)
def atB (s : ByteArray) (i : Int) : Int := ((s.data.toList.getD i.toNat 0).toNat : Int)
def Xf5 (E : Env) (t : Nat) (x i : A) : Pg A :=
 match E.ty t, x with
 | some ⟨.str, false, _⟩, .one (.v (.string s)) => (intOf i).bind fun (_, i) =>
  .br (decide (0 ≤ i)) (.br (decide (i < s.size)) (Fc .u8 (atB s i)) .fail) .fail
 | _, _ => .fail
def Xxy (E : Env) (src dst : Nat) : Bool :=
 match E.ty src, E.ty dst with
 | some ⟨.str, false, _⟩, some ⟨.sl (.int .u8), false, _⟩ => true
 | _, _ => false
def Xc0 (x : A) : Pg A :=
 match x with
 | .one (.v (.string s)) => Db (.s .ro (.int .u8) (bytesOf s))
 | _ => .fail
def Xs8 (E : Env) (src dst : Nat) (x : A) : Pg A :=
  match E.ty src, E.ty dst, x with
  | some _, some ⟨.int k, false, _⟩, .one (.v (.int _ n)) => Fc k (k.wrap n)
  | some _, some ⟨.str, false, _⟩, .one (.v (.string s)) => Xdf (.string s)
  | some ⟨.sl (.int .u8), false, _⟩, some ⟨.str, false, _⟩, .one y => (I2 y).bind fun z =>
    (match z with
     | .v (.slice none 0 0) => Xdf (.string (Lh []))
     | .s _ t l => if h : t = .int .u8 then Xdf (.string (Lh (show List (den (.int .u8)) from h ▸ l))) else .fail
     | _ => .fail)
  | _, _, _ => .fail
def X72 : Leaf → Pg (Option Nat)
 | .a (.cell k) v0 _ none => (C1 k).bind fun e =>
  match e.c with
  | .q _ _ l _ => (C8 (Nat.beq v0 e.v0)).bind fun _ => .ret (some l.length)
  | _ => .ret none
 | _ => .ret none
def X51 (E : Env) (t : Nat) (x : A) : Pg A :=
  match E.ty t, x with
  | some ⟨.str, false, _⟩, .one (.v (.string s)) => Fc .i64 s.size
  | some ⟨.sl _, false, _⟩, .one y => (X72 y).bind fun o =>
    (match o with
     | some n => Fc .i64 n
     | none => (I2 y).bind fun z =>
       (match z with
        | .s _ _ l => Fc .i64 l.length
        | .v (.slice none 0 0) => Fc .i64 0
        | _ => .fail))
  | _, _ => .fail
def X2h (E : Env) (t : Nat) (x : A) : Pg A :=
 match E.ty t, x with
 | some ⟨.sl _, false, _⟩, .one (.s .rox _ l) => Fc .i64 l.length
 | some ⟨.sl _, false, _⟩, .one (.v (.slice none 0 0)) => Fc .i64 0
 | _, _ => .fail
def N3 (f : Int → Int → Int) : Int → List A → Pg A
 | a, [] => Fc .i64 a
 | a, .one (.v (.int .i64 b)) :: r => N3 f (f a b) r
 | _, _ => .fail
def X2j : List A → Pg A
 | .one (.v (.int .i64 a)) :: r => N3 (fun x y => if y < x then y else x) a r
 | _ => .fail
def X4j : List A → Pg A
 | .one (.v (.int .i64 a)) :: r => N3 (fun x y => if x < y then y else x) a r
 | _ => .fail
def Xp9 (e : Ty) (x : Leaf) : Pg (Mode × List (den e)) :=
  match x with
  | .v (.slice none 0 0) => .ret (.own, [])
  | .s .rox t l => if h : t = e then .ret (.ro, h ▸ l) else .fail
  | .a (.cell k) v0 _ w => (F4 k v0 w).bind fun z =>
    (match z with
     | .s m t l => cond m.isOwn (if h : t = e then .ret (m, h ▸ l) else .fail) .fail
     | _ => .fail)
  | .a (.elem k i c) v0 v1 none => (takeHole k i c v0 v1).bind fun z =>
    (match z with
     | .s m t l => cond m.isOwn (if h : t = e then .ret (m, h ▸ l) else .fail) .fail
     | _ => .fail)
  | _ => .fail
def Xm8 (e : Ty) (x : A) : Pg (Mode × List (den e)) :=
  match x with
  | .one y => (cond (Bc e) (resolve y) (I2 y)).bind fun z =>
    (match z with
     | .v (.slice none 0 0) => .ret (.own, [])
     | .s m t l => if h : t = e then .ret (cond (Bc e) m .own, h ▸ l) else .fail
     | _ => .fail)
  | _ => .fail
def Gp : Mode → Mode → Mode
 | .own, .own => .own
 | _, _ => .sown
def Ys (E : Env) (at0 at1 : Nat) (d : Nat) (x y : A) : Pg A :=
 match E.ty at0 with
 | some ⟨.sl e, false, eb⟩ =>
  (C8 (Nat.ble 1 eb && Nat.beq at0 at1)).bind fun _ => (Xg6 x).bind fun x0 =>
  (Xm8 e y).bind fun (m1, l1) =>
  (Xp9 e x0).bind fun (m0, l0) =>
  (cond m0.isOwn (.ret ()) (N6 (decide (0 < l1.length)))).bind fun _ =>
  .br (decide ((l0.length + l1.length) * eb ≤ 140737488355328))
   (Co (G3 * d) (.s (Gp (cond m0.isOwn m0 (cond (Bc e) .sown .own)) m1) e (l0 ++ l1)) |>.bind Db) .fail
 | _ => .fail
def Xk (E : Env) (at0 at1 d : Nat) (y : A) : Pg A :=
 match E.ty at0, E.ty at1, y with
 | some ⟨.sl e, false, eb⟩, some ⟨.int .i64, false, _⟩, .one (.v (.int .i64 n)) =>
  (C8 (Nat.ble 1 eb)).bind fun _ => .br (decide (0 < n) && decide (n * eb ≤ 140737488355328))
   (Co (G3 * d) (.s .own e (List.replicate n.toNat (Be e))) |>.bind Db) .fail
 | _, _, _ => .fail
def elT (E : Env) (t : Nat) : Option Ty :=
 match E.ty t with
 | some ⟨.sl e, false, _⟩ => some e
 | _ => none
def Cy (E : Env) (t : Nat) (u : Ty) : Bool :=
 match elT E t with
 | some e => decide (u = e)
 | none => false
def Xpr (E : Env) (t d : Nat) (n c : A) : Pg A :=
 match E.ty t, n, c with
 | some ⟨.sl e, false, eb⟩, .one (.v (.int .i64 n)), .one (.v (.int .i64 c)) =>
  (C8 (Nat.ble 1 eb)).bind fun _ => .br (decide (0 ≤ n) && decide (n = c) && decide (n * eb ≤ 140737488355328)) (Co (G3 * d) (.s .own e (List.replicate n.toNat (Be e))) |>.bind Db) .fail
 | _, _, _ => .fail
def T2 : Option A → Pg (Option Int)
 | none => .ret none
 | some (.one (.v (.int _ n))) => .ret (some n)
 | _ => .fail
def Oj (n : Nat) (lo hi : Option Int) : Pg Unit :=
  Pg.bind (match hi with
   | some h => N6 (decide (0 ≤ h) && decide (h ≤ n))
   | none => Pg.ret ()) fun _ =>
  match lo with
  | some l => N6 (decide (0 ≤ l) && decide (l ≤ hi.getD n))
  | none => .ret ()
def cut {α : Type} (l : List α) (lo hi : Option Int) : List α :=
 match lo, hi with
 | none, none => l
 | none, some h => l.take h.toNat
 | some a, none => l.drop a.toNat
 | some a, some h => (l.take h.toNat).drop a.toNat
def V2 (w : Option (Nat × Nat)) (n : Nat) (lo hi : Option Int) : Option (Nat × Nat) :=
  cond (lo.isNone && hi.isNone) w
    (match w with
     | none => some ((lo.getD 0).toNat, (hi.getD n).toNat)
     | some (p, _) => some (p + (lo.getD 0).toNat, p + (hi.getD n).toNat))
def X0q (E : Env) (t : Nat) : Bool :=
 match E.ty t with
 | some ⟨.str, false, _⟩ => true
 | _ => false
def Xdi (E : Env) (ty : Nat) (x : A) (lo hi mx : Option A) : Pg A :=
  (Xg6 x).bind fun x0 => (T2 lo).bind fun lo => (T2 hi).bind fun hi => (T2 mx).bind fun mx =>
  (C8 (mx.isNone || hi.isSome)).bind fun _ =>
  match x0 with
  | .v (.slice none 0 0) => (C8 (elT E ty).isSome).bind fun _ => (Oj 0 lo hi).bind fun _ =>
    (match mx with
     | none => Xdf (.slice none 0 0)
     | some m => (N6 (decide (m = 0))).bind fun _ => Xdf (.slice none 0 0))
  | .v (.string s) => (C8 (mx.isNone && X0q E ty)).bind fun _ => (Oj s.size lo hi).bind fun _ =>
    Xdf (.string (s.extract ((lo.getD 0).toNat) ((hi.getD s.size).toNat)))
  | .s m t l => (C8 (Cy E ty t)).bind fun _ => cond m.isOwn .fail ((Oj l.length lo hi).bind fun _ =>
    match mx with
    | none => Db (.s .ro t (cut l lo hi))
    | some m => (N6 (decide (m = hi.getD l.length))).bind fun _ => Db (.s .rox t (cut l lo hi)))
  | .a p v0 v1 w => (I2 (.a p v0 v1 w)).bind fun z =>
    (match z with
     | .s _ t l => (C8 (Cy E ty t)).bind fun _ => (Oj l.length lo hi).bind fun _ =>
       (match mx with
        | none => Pg.ret ()
        | some m => N6 (decide (m = hi.getD l.length))).bind fun _ =>
       Db (.a p v0 v1 (V2 w l.length lo hi))
     | _ => .fail)
  | _ => .fail
def offP (p : Loc) (n : Nat) : Loc :=
 match p with
 | .cell k => .cell (k + n)
 | .elem k e c => .elem k e (c + n)
def L9 (E : Env) (s f : Nat) (x : A) : Pg A :=
 match E.fld s f, x with
 | some (o, w, _), .one (.ptr p n v0) => (C8 (Nat.ble (o + w) n)).bind fun _ => Db (.ptr (offP p o) (n - o) v0)
 | _, _ => .fail
def Xew (E : Env) (s f : Nat) (x : A) : Pg A :=
 match E.fld s f, x with
 | some (o, n, g), .agg xs => cond g (.ret (.agg ((xs.drop o).take n))) (match Dw xs o with | some y => Db y | none => .fail)
 | _, _ => .fail
def Ma (E : Env) (ty d : Nat) (x : A) (i : A) : Pg A :=
  (intOf i).bind fun (_, i) =>
  match x with
  | .one (.a (.cell k) v0 v1 w) => (C1 k).bind fun e => (C8 (Nat.beq v0 e.v0)).bind fun _ =>
    (match e.c with
     | .s _ t l => (C8 (Cy E ty t)).bind fun _ => .br (decide (0 ≤ i)) (.br (decide (i < (win w l).length))
        (Db (.ptr (.elem k (match w with | none => i.toNat | some (lo, _) => lo + i.toNat) 0) (wd t) e.v0)) .fail) .fail
     | .h _ t l _ _ => (C8 (Cy E ty t)).bind fun _ => (C8 w.isNone).bind fun _ => .br (decide (0 ≤ i)) (.br (decide (i < l.length))
        (Db (.ptr (.elem k i.toNat 0) (wd t) e.v0)) .fail) .fail
     | .q _ t l _ => (C8 (Cy E ty t)).bind fun _ => (C8 w.isNone).bind fun _ => .br (decide (0 ≤ i)) (.br (decide (i < l.length))
        (Db (.ptr (.elem k i.toNat 0) (wd t) e.v0)) .fail) .fail
     | _ => .fail)
  | .one (.s m t l) => (C8 (Cy E ty t)).bind fun _ => .br (decide (0 ≤ i)) (.br (decide (i < l.length))
      ((newRow (G3 * d) [.s m t l]).bind fun _ => Db (.ptr (.elem (G3 * d) i.toNat 0) (wd t) 0)) .fail) .fail
  | _ => .fail
def Xim (E : Env) (t : Nat) (x : A) : Pg A :=
 match E.ty t, x with
 | some ⟨ty, g, _⟩, .one (.ptr p n v0) => (C8 (Nat.ble (wd ty) n)).bind fun _ => (W8 p v0 (wd ty)).bind fun ys =>
  cond g (.ret (.agg ys)) (match ys with | [y] => Db y | _ => .fail)
 | _, _ => .fail
def Xtq (E : Env) (t d : Nat) (x : A) : Pg A :=
 match E.ty t, x with
 | some ⟨ty, true, _⟩, .one (.ptr (.elem k e 0) n v0) => (C1 k).bind fun x =>
  (C8 (Nat.beq v0 x.v0 && Nat.beq n (wd ty))).bind fun _ =>
  match x.c with
  | .q .own u l p => (C8 (decide (u = ty))).bind fun _ => (N6 (decide ((e : Int) = p))).bind fun _ =>
   .setM k ⟨.q .own u l (p + 1), x.v0, x.v1 + 1⟩ ((Dn (G3 * d) (enc .own u (nthD l e (Be u)))).bind fun ys => .ret (.agg ys))
  | _ => .fail
 | _, _ => .fail
def Xer (E : Env) (t : Nat) (x y : A) : Pg Unit :=
 match E.ty t, x with
 | some ⟨ty, g, _⟩, .one (.ptr p n v0) => (cellsOf y).bind fun ys => (C8 (Nat.beq ys.length (wd ty) && Nat.ble (wd ty) n)).bind fun _ => Xia p v0 ys
 | _, _ => .fail
def Xe3 (E : Env) (t d : Nat) : Pg A :=
 match E.ty t with
 | some ⟨ty, _, _⟩ => (newRow (G3 * d) (enc .own ty (Be ty))).bind fun _ => Db (.ptr (.cell (G3 * d)) (wd ty) 0)
 | _ => .fail
def X2b (E : Env) (t d : Nat) (x : A) : Pg A :=
 match E.ty t with
 | some ⟨ty, _, _⟩ => (cellsOf x).bind fun ys => (C8 (Nat.beq ys.length (wd ty))).bind fun _ =>
  (newRow (G3 * d) ys).bind fun _ => Db (.ptr (.cell (G3 * d)) (wd ty) 0)
 | _ => .fail
def Md (E : Env) (t : Nat) : List Leaf → List (Nat × A) → Pg (List Leaf)
 | cs, [] => .ret cs
 | cs, (f, x) :: r =>
  match E.fld t f with
  | some (o, n, _) => (cellsOf x).bind fun ys => (C8 (Nat.beq ys.length n && Nat.ble (o + n) cs.length)).bind fun _ => Md E t (Cb cs o ys) r
  | none => .fail
def Xgh (E : Env) (t : Nat) (ps : List (Nat × A)) : Pg A :=
 match E.ty t with
 | some ⟨ty, true, _⟩ => (Md E t (enc .own ty (Be ty)) ps).bind fun cs => .ret (.agg cs)
 | _ => .fail
def K4 : Nat → List (Nat × A) → Pg (List (List Leaf))
 | _, [] => .ret []
 | i, (j, x) :: r => (C8 (Nat.beq i j)).bind fun _ => (cellsOf x).bind fun cs => (Pg.mapL resolve cs).bind fun ys =>
  (K4 (i + 1) r).bind fun zs => .ret (ys :: zs)
def Ln (m : Mode) (e : Ty) : List (List Leaf) → Option (List (den e))
 | [] => some []
 | c :: r => match M0 m e c with
  | some x => (match Ln m e r with | some l => some (x :: l) | none => none)
  | none => none
def I4 (E : Env) (t d n : Nat) (ps : List (Nat × A)) : Pg A :=
  match E.ty t with
  | some ⟨.sl e, false, _⟩ => (C8 (Nat.beq ps.length n && Nat.ble (n * wd e) 16777216)).bind fun _ => (K4 0 ps).bind fun cs =>
    (match Ln .own e cs with
     | some l => (Co (G3 * d) (.s .own e l)).bind Db
     | none => (match Ln .ro e cs with
       | some l => (Co (G3 * d) (.s .sown e l)).bind Db
       | none => .fail))
  | _ => .fail
def Ky (fn : Fn) (caps : List A) : Pg A :=
 match fn with
 | .func f => (Pg.mapL (fun x => match x with | A.one (.ptr p n v0) => Pg.ret (p, n, v0) | _ => Pg.fail) caps).bind fun cs => Db (.fn f cs)
 | _ => .fail
def Sk (i : Nat) : A → Pg A
 | .tup xs => (match Dw xs i with
  | some (true, ys) => .ret (.agg ys)
  | some (false, [y]) => Db y
  | _ => .fail)
 | _ => .fail
def Xzt (b : Bool) (x : A) : Pg (Option Leaf) :=
 match b, x with
 | true, .one (.a (.cell k) v0 _ w) => (F4 k v0 w).bind fun y => .ret (some y)
 | _, _ => .ret none
def Xhg : List Bool → List A → Pg (List (Option Leaf))
 | _, [] => .ret []
 | g, x :: r => (Xzt (g.headD false) x).bind fun y => (Xhg g.tail r).bind fun ys => .ret (y :: ys)
def Ho (x : Leaf) : Pg (XL × List Nat) :=
 match x with
 | .v y => .ret (.l (.v y), [])
 | .s m u l => .ret (.l (.s m u l), [])
 | .a p v0 v1 w => (I2 (.a p v0 v1 w)).bind fun z => .ret (.l z, [Ib p])
 | .fn f [] => .ret (.fn f [], [])
 | _ => .fail
def Ke : List Leaf → Pg (List XL × List Nat)
 | [] => .ret ([], [])
 | x :: r => (Ho x).bind fun (y, q) => (Ke r).bind fun (ys, qs) => .ret (y :: ys, q ++ qs)
def Xuq : Leaf → Bool
 | .v _ => true
 | .s _ _ _ => true
 | _ => false
def Ay : Nat → Nat → List Nat
 | _, 0 => []
 | k, n + 1 => k :: Ay (k + 1) n
def V6 : Nat → Nat → Pg (List Leaf)
 | _, 0 => .ret []
 | k, n + 1 => (C1 k).bind fun e => (C8 (Xuq e.c)).bind fun _ => (V6 (k + 1) n).bind fun r => .ret (e.c :: r)
def K5 : List (Loc × Nat × Nat) → Option (List (Nat × Nat))
 | [] => some []
 | (.cell k, n, _) :: r => (match K5 r with | some l => some ((k, n) :: l) | none => none)
 | (.elem _ _ _, _, _) :: _ => none
def Rb : List (Nat × Nat) → Pg (List (List Leaf))
 | [] => .ret []
 | (k, n) :: r => (C8 (Nat.ble 1 n)).bind fun _ => (V6 k n).bind fun cs => (Rb r).bind fun rs => .ret (cs :: rs)
def fnL (x : Leaf) : Option (Nat × List (Nat × Nat)) :=
 match x with
 | .fn f (c :: cs) => (match K5 (c :: cs) with | some l => some (f, l) | none => none)
 | _ => none
abbrev LB := (Bool × List Nat) × Option (Nat × Nat)
def X0h (x : Leaf) : Pg (Arg × List Nat × List LB) :=
  match x with
  | .a (.cell k) v0 _ none => (C1 k).bind fun e => (C8 (Nat.beq v0 e.v0)).bind fun _ =>
    (match e.c with
     | .s m t l => (C8 m.isOwn).bind fun _ => .ret (.one (.b (.s m t l)), [], [((true, [k]), none)])
     | _ => .fail)
  | .a (.elem k e c) v0 v1 none => (C1 k).bind fun x => (C8 (Nat.beq v0 x.v0 && Nat.beq v1 x.v1)).bind fun _ =>
    (match x.c with
     | .s .own t l =>
       (match Dw (enc .own t (nthD l e (Be t))) c with
        | some (.s n u l') => .ret (.one (.b (.s n u l')), [], [((true, [k]), some (e, c))])
        | _ => .fail)
     | _ => .fail)
  | _ => .fail
def Xpw (x : Leaf) : Pg (XL × List Nat × List (Bool × List Nat)) :=
  match x with
  | .a (.cell k) v0 _ none => (C1 k).bind fun e => (C8 (Nat.beq v0 e.v0)).bind fun _ =>
    (match e.c with
     | .s m t l => (C8 m.isOwn).bind fun _ => .ret (.b (.s m t l), [], [(true, [k])])
     | _ => .fail)
  | x => (Ho x).bind fun (z, q) => .ret (z, q, [])
def Zb : List Leaf → Pg (List XL × List Nat × List (Bool × List Nat))
 | [] => .ret ([], [], [])
 | x :: r => (Xpw x).bind fun (z, q, b) => (Zb r).bind fun (zs, qs, bs) => .ret (z :: zs, q ++ qs, b ++ bs)
def Xw8 (x : Leaf) : Option (Nat × Nat) :=
 match x with
 | .ptr (.cell k) n _ => some (k, n)
 | _ => none
def isAl : Leaf → Bool
 | .a _ _ _ _ => true
 | _ => false
def X40 (b : Bool) (y : Option Leaf) (x : A) : Pg (Arg × List Nat × List LB) :=
 match y, x with
 | some z, _ => .ret (.one (.l z), [], [])
 | none, .one x => (match Xw8 x with
  | some (k, n) => (C8 (Nat.ble 1 n)).bind fun _ => (V6 k n).bind fun cs => .ret (.one (.p cs), [], [((false, Ay k n), none)])
  | none => (match fnL x with
   | some (f, kn) => (Rb kn).bind fun rs => .ret (.one (.fn f rs), [], (kn.map fun z => (false, Ay z.1 z.2)).map fun z => (z, none))
   | none => cond (b && isAl x) (X0h x) ((Ho x).bind fun (z, q) => .ret (.one z, q, []))))
 | none, .agg xs => cond b ((Zb xs).bind fun (zs, q, b) => .ret (.agg zs, q, b.map fun z => (z, none))) ((Ke xs).bind fun (zs, q) => .ret (.agg zs, q, []))
 | none, .tup _ => .fail
def Xij : List Bool → List (Option Leaf) → List A → Pg (List Arg × List Nat × List LB)
 | g, y :: ys, x :: xs => (X40 (g.headD false) y x).bind fun (z, q, b) => (Xij g.tail ys xs).bind fun (zs, qs, bs) => .ret (z :: zs, q ++ qs, b ++ bs)
 | _, [], [] => .ret ([], [], [])
 | _, _, _ => .fail
def B6 : List Nat → Nat → Bool
 | [], _ => false
 | k :: r, q => cond (Nat.beq k q) true (B6 r q)
def Pw : List Nat → Bool
 | [] => true
 | a :: r => !B6 r a && Pw r
def sepK (bk : List (Bool × List Nat)) (qs : List Nat) : Bool := Pw (bk.flatMap (·.2)) && (bk.flatMap (·.2)).all fun k => !B6 qs k
def Xic (s : Bool) (k : Nat) (y : Leaf) : Pg Unit := (C1 k).bind fun e =>
  cond s
    (match e.c, y with
     | .s _ t _, .s n u l' => (C8 (decide (u = t) && n.isOwn)).bind fun _ => .setM k ⟨.s n u l', e.v0, e.v1 + 1⟩ (.ret ())
     | _, _ => .fail)
    (.setM k ⟨y, e.v0 + bump e.c, e.v1⟩ (.ret ()))
def Ly (s : Bool) : List Nat → List Leaf → Pg Unit
 | [], [] => .ret ()
 | k :: ks, y :: ys => (Xic s k y).bind fun _ => Ly s ks ys
 | _, _ => .fail
def Gg : List (Bool × List Nat) → List (List Leaf) → Pg (List (List Leaf))
 | [], yss => .ret yss
 | (s, ks) :: r, ys :: yss => (Ly s ks ys).bind fun _ => Gg r yss
 | _ :: _, [] => .fail
def Xzm (k e c : Nat) (ys : List Leaf) : Pg (List Leaf) := (C1 k).bind fun x =>
  match x.c with
  | .s .own t l =>
    (match M0 .own t (Cb (enc .own t (nthD l e (Be t))) c ys) with
     | some z => .ret [.s .own t (l.set e z)]
     | none => .fail)
  | _ => .fail
def Qw : List LB → List (List Leaf) → Pg (List (List Leaf))
 | ((true, [k]), some (e, c)) :: r, ys :: yss => (Xzm k e c ys).bind fun z => (Qw r yss).bind fun zs => .ret (z :: zs)
 | _ :: r, ys :: yss => (Qw r yss).bind fun zs => .ret (ys :: zs)
 | _, yss => .ret yss
def Kf (k : Nat) : Pg Unit := (C1 k).bind fun e =>
 match e.c with
 | .a (.cell q) v0 _ w => (C8 (!Nat.beq q k)).bind fun _ => (F4 q v0 w).bind fun y => (C1 k).bind fun e => .setM k ⟨y, e.v0 + 1, e.v1⟩ (.ret ())
 | _ => .ret ()
def Wj : Loc × Nat × Nat → Pg Unit
 | (.cell k, n, _) => Pg.eachL Kf (Ay k n)
 | _ => .ret ()
def Yp : A → Pg Unit
 | .one (.ptr (.cell k) n _) => Pg.eachL Kf (Ay k n)
 | .one (.fn _ (c :: cs)) => Pg.eachL Wj (c :: cs)
 | _ => .ret ()
def roC : Leaf → Bool
 | .v _ => true
 | .s m _ _ => !m.isOwn
 | _ => false
def T8 : A → Option (Nat × Nat)
 | .one (.ptr (.cell k) n _) => some (k, n)
 | _ => none
def Dj : List Leaf → Bool
 | [] => false
 | .s .own _ _ :: r => Dj r
 | .s _ _ _ :: _ => true
 | _ :: r => Dj r
def Wh : A → Bool
 | .one x => Dj [x]
 | .agg xs => Dj xs
 | .tup xs => xs.any fun (_, ys) => Dj ys
def F0 : List Nat → Pg Unit
 | [] => .ret ()
 | k :: r => (C1 k).bind fun e =>
  match e.c with
  | .s m t l => cond m.isOwn (.setM k ⟨.s .ro t l, e.v0, e.v1⟩ (F0 r)) (F0 r)
  | .v _ => F0 r
  | _ => .fail
def Xg9 (k : Nat) (r : A) (rest : List (List Leaf)) : Pg A :=
 match T8 r with
 | some (_, n) => (match rest with
  | [ys] => (C8 (Nat.beq ys.length n && Nat.ble 1 n && ys.all roC)).bind fun _ => (newRow k ys).bind fun _ => Db (.ptr (.cell k) n 0)
  | _ => .fail)
 | none => (match rest with
  | [] => Xcg k r
  | _ => .fail)
def Xaf (E : Env) (d f : Nat) (xs : List A) : Pg A :=
 (Pg.eachL Yp xs).bind fun _ =>
 (Xhg (E.lend f) xs).bind fun ys => (Xij (E.lent f) ys xs).bind fun (as, qs, bk) =>
 (C8 (sepK (bk.map (·.1)) qs)).bind fun _ =>
 .call f as fun (r, bs) => (Qw bk bs).bind fun bs =>
  (cond (Wh r || bs.any Dj) (F0 qs) (.ret ())).bind fun _ => (Gg (bk.map (·.1)) bs).bind fun rest => Xg9 (G3 * d) r rest
def Xfz (cs : List (Loc × Nat × Nat)) : List A := cs.map fun (p, n, v0) => .one (.ptr p n v0)
def Xcn (E : Env) (d : Nat) (b : Builtin) (ts : List Nat) (xs : List A) : Pg A :=
 match b, ts, xs with
 | .len, [t], [x] => X51 E t x
 | .cap, [t], [x] => X2h E t x
 | .append, [t, u], [.one (.v (.slice none 0 0)), .one (.v (.int k n))] => Xk E t u d (.one (.v (.int k n)))
 | .append, [t, u], [x, y] => Ys E t u d x y
 | .min, _, xs => X2j xs
 | .max, _, xs => X4j xs
 | _, _, _ => .fail
def Xfb : List (Nat × A) → List Nat
 | [] => []
 | (_, .one (.a (.cell k) _ _ _)) :: r => k :: Xfb r
 | _ :: r => Xfb r
def Zc (ps : Array (Nat × Operand)) : Pg (List (Nat × A)) :=
 Pg.mapL (fun (i, x) => (Mc x).bind fun y => .ret (i, y)) ps.toList
def Xqm : Option Operand → Pg (Option A)
 | none => .ret none
 | some x => (Mc x).bind fun y => .ret (some y)
def byB {α : Type} (c : Operand) (p q : Pg α) : Pg α :=
 match c with
 | .tmp t => .brT t p q .fail
 | .const (.bool b) => cond b p q
 | _ => .fail
def Xg1 : List (Nat × Nat × Ty) → Nat → Option (Nat × Ty)
 | [], _ => none
 | (g, f, t) :: r, q => cond (Nat.beq g q) (some (f, t)) (Xg1 r q)
def Xbv : List (Nat × Nat × Ty) → Nat → Option Ty
 | [], _ => none
 | (_, f, t) :: r, q => cond (Nat.beq f q) (some t) (Xbv r q)
def roB : Mode → Bool
 | .ro => true
 | _ => false
def X5j (l : List (Nat × Nat × Ty)) (g : Nat) (u : Ty) : Bool :=
 match Xbv l g with
 | some v => decide (v = u)
 | none => false
def Xh5 (g : Nat) (t : Ty) : List A → Pg A
 | [.one (.s m u l), .one (.v (.int k n))] => (C8 (roB m && ikb k .i64 && decide (u = t))).bind fun _ =>
  (N6 (decide (1 ≤ n) && decide (n ≤ 9223372036854775807) && decide (l.length ≤ 140737488355328))).bind fun _ => Db (.it g u l n)
 | _ => .fail
def Qq {α : Type} (n : Nat) (l : List α) (j : Nat) : List α := (l.drop (j * n)).take n
def B8 {α : Type} (n : Nat) (l : List α) : List (List α) := (List.range ((l.length + n - 1) / n)).map (Qq n l)
def Wo (x : Leaf) : Pg Leaf :=
 match x with
 | .a (.elem k e c) v0 v1 w => Np k e c v0 v1 w
 | x => .ret x
def Q7 : List Leaf → Pg (List Leaf)
 | [] => .ret []
 | x :: r => (Wo x).bind fun y => (Q7 r).bind fun ys => .ret (y :: ys)
def Y4 : A → Pg A
 | .one x => (Wo x).bind Db
 | .agg xs => (Q7 xs).bind fun ys => .ret (.agg ys)
 | .tup zs => .ret (.tup zs)
def Df (E : Env) (d : Nat) (op : Op) : Pg A :=
  match op with
  | .move x | .assign x => Mc x
  | .pick c a b => byB c (Mc a) (Mc b)
  | .alloc t => Xe3 E t d
  | .box t x => (Mc x).bind fun x => X2b E t d x
  | .build t ps => (Zc ps).bind fun ps => Xgh E t ps
  | .buildSlice t n ps => (Zc ps).bind fun ps => (cond (B6 E.frz d) (F0 (Xfb ps)) (.ret ())).bind fun _ => I4 E t d n ps
  | .load t x => (Mc x).bind fun x => cond (B6 E.frz (d + 1000000)) (Xtq E t d x) <| (Xim E t x).bind fun v => cond (B6 E.frz d) (Y4 v) (.ret v)
  | .store t x y => (Mc x).bind fun x => (Mc y).bind fun y => (Xer E t x y).bind fun _ => Xdf undef
  | .nilCheck x => (Mc x).bind fun x => (match x with
    | .one (.ptr p n v0) => Db (.ptr p n v0)
    | .one (.fn f cs) => Db (.fn f cs)
    | _ => .fail)
  | .binOp op t x y _ => (Mc x).bind fun x => (Mc y).bind fun y => X27 E op t x y
  | .unOp op _ x => (Mc x).bind fun x => unP op x
  | .convert s t x => (Mc x).bind fun x => cond (Xxy E s t) (Xc0 x) (Xs8 E s t x)
  | .index t x i => (Mc x).bind fun x => (Mc i).bind fun i => Xf5 E t x i
  | .makeFunc fn first caps => cond (first.isEmpty) ((Pg.mapL Mc caps.toList).bind fun cs => Ky fn cs) .fail
  | .makeSlice t n c => (Mc n).bind fun n => (Mc c).bind fun c => Xpr E t d n c
  | .slice t x lo hi mx => (Mc x).bind fun x => (Xqm lo).bind fun lo => (Xqm hi).bind fun hi => (Xqm mx).bind fun mx => Xdi E t x lo hi mx
  | .fieldAddr s x f => (Mc x).bind fun x => L9 E s f x
  | .field s x f => (Mc x).bind fun x => Xew E s f x
  | .indexAddr t x i => (Mc x).bind fun x => (Mc i).bind fun i => Ma E t d x i
  | .extract x i => (Mc x).bind fun x => Sk i x
  | .call c => (Pg.mapL Mc c.args.toList).bind fun xs =>
    (match c.callee with
     | .builtin b => Xcn E d b c.argTypes.toList xs
     | .value f => (Mc f).bind fun f => (match f with
       | .one (.fn f cs) => (match Xg1 E.itr f with | some (g, t) => cond cs.isEmpty (Xh5 g t xs) .fail | none => Xaf E d f (xs ++ Xfz cs))
       | _ => .fail)
     | _ => .fail)
  | _ => .fail
def X1i (o : Oper) : Nat := o.dst.getD 0
def Dl (o : Oper) (x : A) : Pg Unit :=
 match o.dst with
 | some d => .setT d x (.ret ())
 | none => .ret ()
def Ey : A := .one (.v undef)
def operP (E : Env) (ops : Array Oper) (o : Oper) : Pg Unit :=
 match o.guard with
 | none => (Df E (X1i o) o.op).bind (Dl o)
 | some (j, b) =>
  match (ops[j]?).bind (·.dst) with
  | some t => cond b
    (.brT t ((Df E (X1i o) o.op).bind (Dl o)) (Dl o Ey) (Dl o Ey))
    (.brT t (Dl o Ey) ((Df E (X1i o) o.op).bind (Dl o)) (Dl o Ey))
  | none => .fail
def Xxn (E : Env) (ops : Array Oper) : List Oper → Pg Unit
 | [] => .ret ()
 | o :: r => (operP E ops o).bind fun _ => Xxn E ops r
inductive Ex where
 | normal | exit (id : Nat) | ret
def Xq3 (t : Nat) : Leaf → Bool
 | .a (.cell k) _ _ none => Nat.beq k (G3 * t + 900)
 | _ => false
def Xba (κ : Nat × TK) : Pg Unit :=
  match κ with
  | (_, .plain) => .ret ()
  | (t, .ro e) => .getT t fun
    | .one x => (resolve x).bind fun y =>
      (match y with
       | .v (.slice none 0 0) => .setT t (.one (.s .ro e [])) (.ret ())
       | .s _ u l => if h : u = e then .setT t (.one (.s .ro u l)) (.ret ()) else .fail
       | _ => .fail)
    | _ => .fail
  | (t, .own m e co) => .getT t fun
    | .one x => cond (Xq3 t x) (.ret ()) <| (resolve x).bind fun y =>
      (match y with
       | .v (.slice none 0 0) => (newRow (G3 * t + 900) [.s m e []]).bind fun _ =>
         .setT t (.one (.a (.cell (G3 * t + 900)) 0 0 none)) (.ret ())
       | .s n u l => cond (m.isOwn && L2 m n) (if h : u = e then (newRow (G3 * t + 900) [.s m u l]).bind fun _ =>
         .setT t (.one (.a (.cell (G3 * t + 900)) 0 0 none)) (.ret ()) else .fail) .fail
       | _ => .fail)
    | _ => .fail
def Xly (κ : Nat × TK) : Pg Unit :=
  match κ with
  | (t, .own m e _) => .getT t fun
    | .one (.a (.cell k) v0 v1 (some w)) => cond (Nat.beq k (G3 * t + 900)) ((resolve (.a (.cell k) v0 v1 (some w))).bind fun y =>
      (match y with
       | .s n u l => cond (m.isOwn && L2 m n) (if h : u = e then (newRow (G3 * t + 901) [.s m u l]).bind fun _ =>
         .setT t (.one (.a (.cell (G3 * t + 901)) 0 0 none)) (.ret ()) else .fail) .fail
       | _ => .fail)) (.ret ())
    | _ => .ret ()
  | _ => .ret ()
def Mt (σ : St) : List (Nat × TK) → Bool
 | [] => false
 | (t, .own _ _ _) :: r => (match σ.tmp t with | .one (.a (.cell k) _ _ (some _)) => cond (Nat.beq k (G3 * t + 900)) true (Mt σ r) | _ => Mt σ r)
 | _ :: r => Mt σ r
def Xtp (κ : Nat × TK) : Pg Unit :=
 match κ with
 | (_, .ro _) => .ret ()
 | _ => .ret ()
def Xir : Mode → Bool
 | .sown => true
 | _ => false
def Xo (κ : Nat × TK) : Pg Unit :=
  match κ with
  | (k, .own m t _) => (Kf k).bind fun _ => (C1 k).bind fun e =>
    (match e.c with
     | .v (.slice none 0 0) => .setM k ⟨.s (cond (Xir m) .sown .own) t [], e.v0 + 1, e.v1⟩ (.ret ())
     | .s .own u l => cond (Xir m) (.setM k ⟨.s .sown u l, e.v0, e.v1⟩ (.ret ())) (.ret ())
     | _ => .ret ())
  | (k, .ro t) => (Kf k).bind fun _ => (C1 k).bind fun e =>
    (match e.c with
     | .v (.slice none 0 0) => .setM k ⟨.s .ro t [], e.v0 + 1, e.v1⟩ (.ret ())
     | .s m u l => cond m.isOwn (.setM k ⟨.s .ro u l, e.v0, e.v1⟩ (.ret ())) (.ret ())
     | _ => .ret ())
  | _ => .ret ()
def Xih (κ : Nat × TK) : Pg Unit :=
  match κ with
  | (t, .own _ _ (_ :: _)) => (C1 (G3 * t + 900)).bind fun e =>
    (match e.c with
     | .s .own u l => .setM (G3 * t + 900) ⟨.q .own u l 0, e.v0, e.v1 + 1⟩ (.ret ())
     | _ => .ret ())
  | _ => .ret ()
def Xr3 (h : Hint) : Pg Unit := (Pg.eachL Xba h.tk).bind fun _ => (Pg.eachL Xih h.tk).bind fun _ => Pg.eachL Xtp h.mh
def Xfg (ks : List Nat) : Nat → Nat → Bool
 | _, 0 => true
 | k, n + 1 => B6 ks k && Xfg ks (k + 1) n
def X0o (ks : List Nat) (p : Loc) (n : Nat) : Bool :=
 match p with
 | .cell k => Xfg ks k n
 | .elem k _ _ => B6 ks k
def E1 (ks : List Nat) : List (Loc × Nat × Nat) → Bool
 | [] => true
 | (.cell k, n, _) :: r => Xfg ks k n && E1 ks r
 | (.elem _ _ _, _, _) :: _ => false
def B9 (ks : List Nat) (mm : List (Nat × Ent)) (x : Leaf) : Leaf :=
 match x with
 | .v y => .v y
 | .s m t l => .s m t l
 | .h m t l e c => .h m t l e c
 | .q m t l p => .q m t l p
 | .a p v0 v1 w => cond (B6 ks (Ib p)) (match lk mm (Ib p) with | some e => cond (Ii p v0 v1 e) (.a p 0 0 w) .d | none => .d) .d
 | .ptr p n v0 => cond (X0o ks p n) (match lk mm (Ib p) with | some e => cond (Xxa p v0 e) (.ptr p n 0) .d | none => .d) .d
 | .fn f cs => cond (E1 ks cs) (.fn f cs) .d
 | .it f t l n => .it f t l n
 | .d => .d
def Xme (ks : List Nat) (mm : List (Nat × Ent)) : A → A
 | .one x => .one (B9 ks mm x)
 | .agg xs => .agg (xs.map (B9 ks mm))
 | .tup _ => .one .d
def Hg (hk : List Nat) (ks : List Nat) (mm : List (Nat × Ent)) : Nat → List A → List A
 | _, [] => []
 | i, x :: r => cond (B6 hk i) (Xme ks mm x) (.one .d) :: Hg hk ks mm (i + 1) r
def Ta (mm : List (Nat × Ent)) (ks : List Nat) : List Nat → List (Nat × Ent)
 | [] => []
 | k :: r => (match lk mm k with
  | some e => (k, ⟨B9 ks mm e.c, 0, 0⟩) :: Ta mm ks r
  | none => Ta mm ks r)
def X7 : List (Nat × TK) → List Nat
 | [] => []
 | (t, .own _ _ _) :: r => (G3 * t + 900) :: X7 r
 | _ :: r => X7 r
def pruneK (tks ks : List Nat) (σ : St) : St := ⟨Hg tks ks σ.mm 0 σ.ts, Ta σ.mm ks ks⟩
def prune (h : Hint) (σ : St) : St := pruneK (h.tk.map (·.1)) (h.mh.map (·.1) ++ X7 h.tk) σ
def Gv (σ : St) : List (Nat × TK) → List Nat
 | [] => []
 | (t, .own _ _ _) :: r => (match σ.tmp t with | .one (.a (.cell k) _ _ _) => k :: Gv σ r | _ => Gv σ r)
 | (t, .ro _) :: r => (match σ.tmp t with | .one (.a (.cell k) _ _ _) => k :: Gv σ r | _ => Gv σ r)
 | _ :: r => Gv σ r
def prune0 (h : Hint) (σ : St) : St := pruneK (h.tk.map (·.1)) (h.mh.map (·.1) ++ Gv σ h.tk) σ
def Xi6 (acc : List Nat) (o : Oper) : Nat :=
 o.after.toList.foldr (fun e s => cond (Region.binds .any e) (s ||| 2 ^ e.on ||| nthD acc e.on 0) s) 0
def C6 : List Nat → List Oper → List Nat
 | acc, [] => acc
 | acc, o :: r => C6 (acc ++ [Xi6 acc o]) r
def befores (ops : List Oper) : List Nat := C6 [] ops
def Fb : Nat → List Oper → Bool
 | _, [] => true
 | j, o :: r => (o.after.toList.all fun e => !Region.binds .any e || Nat.blt e.on j) && Fb (j + 1) r
def meets : Log → Log → Bool
 | [], _ => false
 | (k, w) :: r, g => g.any (fun (q, u) => Nat.beq k q && (w || u)) || meets r g
def Gj (b : Nat) : Nat → List Log → Log → Bool
 | _, [], _ => true
 | i, g :: r, x => (b.testBit i || !meets g x) && Gj b (i + 1) r x
def Oz (bs : List Nat) : Nat → List Log → List Log → Bool
 | _, _, [] => true
 | j, done, x :: r => Gj (nthD bs j 0) 0 done x && Oz bs (j + 1) (done ++ [x]) r
def V8 (E : Env) {β : Type} (ops : Array Oper) : List Oper → List Log → St → (List Log → St → Option β) → Option β
 | [], gs, σ, k => k gs σ
 | o :: r, gs, σ, k => (operP E ops o).runD E.tab σ [] fun _ σ' g => V8 E ops r (gs ++ [g]) σ' k
def E2 (pins : List (Bool × Nat)) (h : Hint) (σ : St) : Bool :=
 match pins with
 | [] => true
 | (s, k) :: r => (B6 (h.mh.map (·.1)) k && (match lk σ.mm k with | some e => !s || Nat.beq e.v0 0 | none => false)) && E2 r h σ
def Xg0 (E : Env) (i : Nat) {β : Type} (σ : St) (k : St → Option β) : Option β :=
 (Xr3 (E.hint i)).run E.tab σ fun _ σ1 => cond (E2 E.pins (E.hint i) σ1) (k (prune (E.hint i) σ1)) none
def Fp (E : Env) (i : Nat) {β : Type} (σ : St) (k : St → Option β) : Option β :=
 cond (E2 E.pins (E.hint i) σ)
  ((Pg.eachL Xo (E.hint i).mh).run E.tab σ fun _ σ0 => cond (E2 E.pins (E.hint i) σ0)
   (cond (Mt (prune0 (E.hint i) σ0) (E.hint i).tk)
    ((Pg.eachL Xly (E.hint i).tk).run E.tab (prune0 (E.hint i) σ0) fun _ σa => cond (E2 E.pins (E.hint i) σa) (Xg0 E i (prune0 (E.hint i) σa) k) none)
    (Xg0 E i (prune0 (E.hint i) σ0) k)) none) none
def Sx {β : Type} (H : St → (St → Option β) → Option β) (body : St → (Ex → St → Option β) → Option β) (k : Ex → St → Option β) : Nat → St → Option β
 | 0, _ => none
 | n + 1, σ => body σ fun e σ' =>
  match e with
  | .normal => H σ' (Sx H body k n)
  | e => k e σ'
def Lq {β : Type} {u : Ty} (H : St → (St → Option β) → Option β) (body : Leaf → St → (Ex → St → Option β) → Option β) (k : Ex → St → Option β) : List (List (den u)) → St → Option β
 | [], σ => k .normal σ
 | x :: r, σ => body (.s .ro u x) σ fun e σ' =>
  match e with
  | .normal => H ⟨σ.ts, σ'.mm⟩ (Lq H body k r)
  | _ => none
def Ef (E : Env) : Code → Bool
 | .seq a b => Ef E a && Ef E b
 | .cond _ a b => Ef E a && Ef E b
 | .block _ c => Ef E c
 | .loop _ => false
 | .rangeFunc _ _ _ _ => false
 | .region id _ _ => match E.rh id with | none => true | some _ => false
 | _ => true
def Xv8 (E : Env) {β : Type} (ops : Array Oper) (draw : Bool) (σ : St) (k : Ex → St → Option β) : Option β :=
 cond draw
  (V8 E ops ops.toList [] σ fun gs σ' => cond (Oz (befores ops.toList) 0 [] gs && Fb 0 ops.toList) (k .normal σ') none)
  ((Xxn E ops ops.toList).run E.tab σ fun _ σ' => k .normal σ')
def Bl (E : Env) {β : Type} : Code → Nat → St → (Ex → St → Option β) → Option β
 | .skip, _, σ, k => k .normal σ
 | .region id ops draw, _, σ, k =>
  match E.rh id with
  | none => Xv8 E ops draw σ k
  | some h => cond (E2 E.pins h σ) (Xv8 E ops draw (prune h σ) k) none
 | .seq a b, i, σ, k => Bl E a i σ fun e σ' =>
  match e with
  | .normal => Bl E b i σ' k
  | e => k e σ'
 | .cond c a b, i, σ, k =>
  match c with
  | .tmp t => (match σ.tmp t with
   | .one (.v (.bool x)) => cond x (Bl E a i (σ.setT t (.one (.v (.bool true)))) k) (Bl E b i (σ.setT t (.one (.v (.bool false)))) k)
   | _ => none)
  | .const (.bool x) => cond x (Bl E a i σ k) (Bl E b i σ k)
  | _ => none
 | .block id c, _, σ, k => Bl E c id σ fun e σ' =>
  match e with
  | .exit id' => cond (Nat.beq id' id) (k .normal σ') (k (.exit id') σ')
  | e => k e σ'
 | .loop c, i, σ, k => Fp E i σ (Sx (Fp E i) (fun σ' k' => Bl E c i σ' k') k E.fuel)
 | .rangeFunc f ps x y, i, σ, k =>
  match f with
  | .tmp t => (match σ.tmp t, ps.toList with
   | .one (.it g u l n), [p] => cond (X5j E.itr g u && Ef E x && Ef E y)
     (Fp E i σ (Lq (Fp E i) (fun z σ' k' => Bl E x i (σ'.setT p (.one z)) fun e σ'' => match e with | .normal => Bl E y i σ'' k' | _ => none) k (B8 n.toNat l))) none
   | _, _ => none)
  | _ => none
 | .exit id, _, σ, k => k (.exit id) σ
 | .ret, _, σ, k => k .ret σ
 | _, _, _, _ => none
def R7 : Nat → List Leaf → List (Nat × Ent)
 | _, [] => []
 | k, c :: r => (k, ⟨c, 0, 0⟩) :: R7 (k + 1) r
def Hv : Nat → List (List Leaf) → List (Loc × Nat × Nat)
 | _, [] => []
 | k, cs :: r => (.cell k, cs.length, 0) :: Hv (k + 100) r
def Zv : Nat → List (List Leaf) → List (Nat × Ent)
 | _, [] => []
 | k, cs :: r => R7 k cs ++ Zv (k + 100) r
def Xfl : Nat → List (List Leaf) → List (Bool × List Nat)
 | _, [] => []
 | k, cs :: r => (false, Ay k cs.length) :: Xfl (k + 100) r
def Cp (k : Nat) : XL → Leaf × List (Nat × Ent)
 | .b x => (.a (.cell k) 0 0 none, [(k, ⟨x, 0, 0⟩)])
 | .l (.s m t l) => cond m.isOwn (.a (.cell k) 0 0 none, [(k, ⟨.s m t l, 0, 0⟩)]) (.s m t l, [])
 | .l (.v x) => (.v x, [])
 | .l _ => (.d, [])
 | .p cs => (.ptr (.cell k) cs.length 0, R7 k cs)
 | .fn f rs => (.fn f (Hv (k + 100) rs), Zv (k + 100) rs)
def Cn : Nat → List XL → List Leaf × List (Nat × Ent)
 | _, [] => ([], [])
 | k, x :: r => ((Cp k x).1 :: (Cn (k + 1) r).1, (Cp k x).2 ++ (Cn (k + 1) r).2)
def A6 : Nat → List Arg → List A × List (Nat × Ent)
 | _, [] => ([], [])
 | i, .one x :: r => (.one (Cp (G3 * i) x).1 :: (A6 (i + 1) r).1, (Cp (G3 * i) x).2 ++ (A6 (i + 1) r).2)
 | i, .agg xs :: r => (.agg (Cn (G3 * i) xs).1 :: (A6 (i + 1) r).1, (Cn (G3 * i) xs).2 ++ (A6 (i + 1) r).2)
def Tr (k : Nat) : XL → List (Bool × List Nat)
 | .l _ => []
 | .b _ => [(true, [k])]
 | .p cs => [(false, Ay k cs.length)]
 | .fn _ rs => Xfl (k + 100) rs
def Xc1 : Nat → List XL → List (Bool × List Nat)
 | _, [] => []
 | k, x :: r => Tr k x ++ Xc1 (k + 1) r
def Da : Nat → List Arg → List (Bool × List Nat)
 | _, [] => []
 | i, .one x :: r => Tr (G3 * i) x ++ Da (i + 1) r
 | i, .agg xs :: r => Xc1 (G3 * i) xs ++ Da (i + 1) r
def Ea : List (Bool × List Nat) → List (Bool × Nat)
 | [] => []
 | (s, ks) :: r => ks.map (fun k => (s, k)) ++ Ea r
def Si (m : Mode) : Ty → List Leaf → List Leaf
 | .sl e, [.v (.slice none 0 0)] => [.s m e []]
 | .sl _, [.s n u l] => [cond m.isOwn (.s n u l) (.s .ro u l)]
 | .pair a b, cs => Si m a (cs.take (wd a)) ++ Si m b (cs.drop (wd a))
 | _, cs => cs
def Kn (E : Env) (t : Nat) : A → Pg (Bool × List Leaf)
 | .one x => (resolve x).bind fun y => cond (B6 E.frz 2999999) (.ret (false, [y])) (match E.ty t with
  | some i => .ret (false, Si E.rm i.ty [y])
  | none => .ret (false, [y]))
 | .agg xs => (Pg.mapL resolve xs).bind fun ys => (match E.ty t with
  | some i => .ret (true, Si E.rm i.ty ys)
  | none => .fail)
 | .tup _ => .fail
def Kl (E : Env) : List ResultVar → List Nat → Pg (List (Bool × List Leaf))
 | [], _ => .ret []
 | .tmp x :: r, ts => Pg.getT x fun y => (Kn E (ts.headD 0) y).bind fun z => (Kl E r ts.tail).bind fun zs => .ret (z :: zs)
 | .cell a t :: r, ts => Pg.getT a fun x => (Xim E t x).bind fun y => (Kn E t y).bind fun z => (Kl E r ts.tail).bind fun zs => .ret (z :: zs)
def Ss (E : Env) (rs : List ResultVar) (ts : List Nat) : Pg A :=
 (Kl E rs ts).bind fun ys =>
 match ys with
 | [(false, [y])] => .ret (.one y)
 | [(true, zs)] => .ret (.agg zs)
 | [] => .ret (.one (.v undef))
 | ys => .ret (.tup ys)
def V3 (s : Bool) (k : Nat) : Pg Leaf := (C1 k).bind fun e =>
 (C8 (!s || (Nat.beq e.v0 0 && (match e.c with | .s m _ _ => m.isOwn | _ => false)))).bind fun _ =>
 match e.c with
 | .s _ _ _ => F4 k e.v0 none
 | .v x => .ret (.v x)
 | .a p v0 v1 w => resolve (.a p v0 v1 w)
 | _ => .fail
def Xho (E : Env) (rs : List ResultVar) (ts : List Nat) (bk : List (Bool × List Nat)) : Pg (A × List (List Leaf)) :=
 (Ss E rs ts).bind fun r => (Pg.mapL (fun (s, ks) => Pg.mapL (V3 s) ks) bk).bind fun bs => .ret (r, bs)
def Xso (E : Env) (k n : Nat) (bk : List (Bool × List Nat)) : Pg (A × List (List Leaf)) :=
 (C8 (Nat.ble 1 n && (Ay k n).all fun q => E.pins.all fun z => !Nat.beq z.2 q)).bind fun _ =>
 (Pg.mapL (fun (s, ks) => Pg.mapL (V3 s) ks) bk).bind fun bs =>
 (V6 k n).bind fun ys => (C8 (ys.all roC)).bind fun _ => .ret (.one (.ptr (.cell 0) n 0), bs ++ [ys])
def Xam (E : Env) (rs : List ResultVar) (ts : List Nat) (bk : List (Bool × List Nat)) : Pg (A × List (List Leaf)) :=
 match rs with
 | [.tmp t] => .getT t fun x => (match T8 x with
  | some (k, n) => Xso E k n bk
  | none => Xho E rs ts bk)
 | _ => Xho E rs ts bk
def J6 (fn : Func) (as : List Arg) : St :=
 ⟨(A6 0 as).1 ++ List.replicate (fn.ntmps - as.length) Ey, (A6 0 as).2⟩
def Af (E : Env) {β : Type} (fn : Func) (as : List Arg) (K : A × List (List Leaf) → Option β) : Option β :=
  match fn.body with
  | some c => Bl E c 0 (J6 fn as) fun e σ =>
    (match e with
     | .normal | .ret => (Xam E fn.results.toList fn.resultTypes.toList (Da 0 as)).run E.tab σ fun r _ => K r
     | _ => none)
  | none => none
end Go.Rf
end

section
set_option linter.unusedVariables false
namespace Go.Rf
def cellAt (w : World) (b o : Nat) : Option Value := w.cell? ⟨b, o, none⟩
def BlkOk (w : World) (b n : Nat) : Prop := ∃ cs te, w.heap[b]? = some (.cells cs te (0, 0)) ∧ n ≤ cs.size
def SlR (w : World) (S : Nat → Prop) {α : Type} (n : Nat) (m : Mode) (hole : Option Nat) (el : α → List Value → List Nat → Prop)
    (l : List α) (y : Value) (bs : List Nat) : Prop :=
  ∃ ad c, y = .slice ad l.length c ∧ l.length ≤ c ∧ (m = .rox → c = l.length) ∧
    (((ad = none ∨ m.isOwn = false) ∧ l = [] ∧ c = 0 ∧ bs = []) ∨
     ∃ b o, ∃ bss : List (List Nat), ad = some ⟨b, o, none⟩ ∧ bss.length = l.length ∧
      (m.isOwn = true → bs = b :: bss.flatten ∧ BlkOk w b (o + c * n)) ∧
      (m.isOwn = false → bs = [] ∧ bss.flatten = [] ∧ (l ≠ [] → S b)) ∧
      (∀ i, hole = some i → bss.getD i [] = []) ∧
      ∀ i x b', hole ≠ some i → l[i]? = some x → bss[i]? = some b' →
        ∃ vs, vs.length = n ∧ (∀ j, j < n → cellAt w b (o + i * n + j) = vs[j]?) ∧ el x vs b')
def Rd (w : World) (S : Nat → Prop) : (t : Ty) → Mode → den t → List Value → List Nat → Prop
 | .int k, _, n, vs, bs => vs = [.int k n] ∧ bs = []
 | .bool, _, b, vs, bs => vs = [.bool b] ∧ bs = []
 | .str, _, s, vs, bs => vs = [.string s] ∧ bs = []
 | .pair a b, m, x, vs, bs => ∃ v1 v2 b1 b2, vs = v1 ++ v2 ∧ bs = b1 ++ b2 ∧ Rd w S a m x.1 v1 b1 ∧ Rd w S b m x.2 v2 b2
 | .sl e, m, l, vs, bs => ∃ y, vs = [y] ∧ SlR w S (wd e) m none (fun x vs bs => Rd w S e m.nest x vs bs) l y bs
theorem X4x {w : World} {S : Nat → Prop} : ∀ {t : Ty} {m : Mode} {x : den t} {vs : List Value} {bs : List Nat}, Rd w S t m x vs bs → vs.length = wd t := by
 intro t
 induction t with
 | int k => rintro m x vs bs ⟨rfl, _⟩; rfl
 | bool => rintro m x vs bs ⟨rfl, _⟩; rfl
 | str => rintro m x vs bs ⟨rfl, _⟩; rfl
 | sl e ih => rintro m x vs bs ⟨y, rfl, _⟩; rfl
 | pair a b iha ihb =>
  rintro m x vs bs ⟨v1, v2, b1, b2, rfl, rfl, h1, h2⟩
  simp [wd, iha h1, ihb h2]
theorem BlkOk.same {w w' : World} {b n : Nat} (h : w'.heap[b]? = w.heap[b]?) (hb : BlkOk w b n) : BlkOk w' b n := by
 obtain ⟨cs, te, h1, h2⟩ := hb
 exact ⟨cs, te, h.trans h1, h2⟩
theorem A4 {w w' : World} {b o : Nat} (h : w'.heap[b]? = w.heap[b]?) : cellAt w' b o = cellAt w b o := by
 unfold cellAt World.cell?
 simp only [h]
theorem SlR.imp {w w' : World} {S S' : Nat → Prop} {α : Type} {n : Nat} {m : Mode} {hole : Option Nat} {el el' : α → List Value → List Nat → Prop}
  {l : List α} {y : Value} {bs : List Nat} (h : SlR w S n m hole el l y bs) (hS : ∀ b, S b → S' b)
  (hw : ∀ b, (S b ∨ b ∈ bs) → w'.heap[b]? = w.heap[b]?)
  (he : ∀ x vs b', (∀ b ∈ b', b ∈ bs) → el x vs b' → el' x vs b') : SlR w' S' n m hole el' l y bs := by
 obtain ⟨ad, c, hy, hc, hx, hr⟩ := h
 refine ⟨ad, c, hy, hc, hx, ?_⟩
 rcases hr with hr | ⟨b, o, bss, had, hlen, ho, hro, hh, hel⟩
 ·exact .inl hr
 refine .inr ⟨b, o, bss, had, hlen, ?_, ?_, hh, ?_⟩
 ·intro hm
  obtain ⟨h1, h2⟩ := ho hm
  exact ⟨h1, h2.same (hw b (.inr (by rw [h1]; exact List.mem_cons_self)))⟩
 ·intro hm
  obtain ⟨h1, h2, h3⟩ := hro hm
  exact ⟨h1, h2, fun hne => hS b (h3 hne)⟩
 ·intro i x b' hi hx hb'
  obtain ⟨vs, hvs, hcell, hx'⟩ := hel i x b' hi hx hb'
  have hsub : ∀ q ∈ b', q ∈ bs := by
   intro q hq
   have hq' : q ∈ bss.flatten := List.mem_flatten.2 ⟨b', List.mem_of_getElem? hb', hq⟩
   cases hm : m.isOwn with
   | true => rw [(ho hm).1]; exact List.mem_cons_of_mem _ hq'
   | false => rw [(hro hm).2.1] at hq'; cases hq'
  refine ⟨vs, hvs, ?_, he x vs b' hsub hx'⟩
  intro j hj
  rw [A4 (w := w)]
  ·exact hcell j hj
  ·cases hm : m.isOwn with
   | true => exact hw b (.inr (by rw [(ho hm).1]; exact List.mem_cons_self))
   | false =>
    refine hw b (.inl ((hro hm).2.2 ?_))
    intro hnil; rw [hnil] at hx; simp at hx
theorem Rd.imp {w w' : World} {S S' : Nat → Prop} (hS : ∀ b, S b → S' b) : ∀ {t : Ty} {m : Mode} {x : den t} {vs : List Value} {bs : List Nat},
  Rd w S t m x vs bs → (∀ b, (S b ∨ b ∈ bs) → w'.heap[b]? = w.heap[b]?) → Rd w' S' t m x vs bs := by
 intro t
 induction t with
 | int k => intro m x vs bs h hw; exact h
 | bool => intro m x vs bs h hw; exact h
 | str => intro m x vs bs h hw; exact h
 | sl e ih =>
  rintro m x vs bs ⟨y, rfl, h⟩ hw
  refine ⟨y, rfl, h.imp hS hw ?_⟩
  intro x vs b' hsub hx
  exact ih hx (fun b hb => hw b (hb.imp id (hsub b)))
 | pair a b iha ihb =>
  rintro m x vs bs ⟨v1, v2, b1, b2, rfl, rfl, h1, h2⟩ hw
  exact ⟨v1, v2, b1, b2, rfl, rfl, iha h1 (fun b hb => hw b (hb.imp id (List.mem_append_left _))), ihb h2 (fun b hb => hw b (hb.imp id (List.mem_append_right _)))⟩
theorem E6 {bss : List (List Nat)} (h : ∀ b ∈ bss, b = []) : bss.flatten = [] := by
 induction bss with
 | nil => rfl
 | cons a r ih => simp only [List.flatten_cons, h a List.mem_cons_self, ih fun b hb => h b (List.mem_cons_of_mem _ hb), List.append_nil]
theorem Q1 {bss : List (List Nat)} (h : bss.flatten = []) {b : List Nat} (hb : b ∈ bss) : b = [] := by
 cases b with
 | nil => rfl
 | cons q r =>
  have : q ∈ bss.flatten := List.mem_flatten.2 ⟨q :: r, hb, List.mem_cons_self⟩
  rw [h] at this; cases this
theorem Rd.toRo {w : World} {S : Nat → Prop} : ∀ {t : Ty} {m : Mode} {x : den t} {vs : List Value} {bs : List Nat},
  Rd w S t m x vs bs → Rd w (fun b => S b ∨ b ∈ bs) t .ro x vs [] := by
 intro t
 induction t with
 | int k => rintro m x vs bs ⟨h, _⟩; exact ⟨h, rfl⟩
 | bool => rintro m x vs bs ⟨h, _⟩; exact ⟨h, rfl⟩
 | str => rintro m x vs bs ⟨h, _⟩; exact ⟨h, rfl⟩
 | sl e ih =>
  rintro m x vs bs ⟨y, rfl, ad, c, hy, hc, hx, hr⟩
  refine ⟨y, rfl, ad, c, hy, hc, by simp, ?_⟩
  rcases hr with ⟨h1, h2, h3, h4⟩ | ⟨b, o, bss, had, hlen, ho, hro, hh, hel⟩
  ·exact .inl ⟨.inr rfl, h2, h3, rfl⟩
  refine .inr ⟨b, o, bss.map fun _ => [], had, by simp [hlen], by simp [Mode.isOwn], ?_, by simp, ?_⟩
  ·intro _
   refine ⟨rfl, E6 (by simp), fun hne => ?_⟩
   cases hm : m.isOwn with
   | true => exact .inr (by rw [(ho hm).1]; exact List.mem_cons_self)
   | false => exact .inl ((hro hm).2.2 hne)
  ·intro i x' b' hi hx' hb'
   have hi' : i < bss.length := by
    rw [hlen]; exact (List.getElem?_eq_some_iff.1 hx').1
   obtain ⟨vs, hvs, hcell, hx2⟩ := hel i x' bss[i] hi hx' (List.getElem?_eq_getElem hi')
   have hb0 : b' = [] := by
    rw [List.getElem?_map, List.getElem?_eq_getElem hi'] at hb'
    simpa using hb'.symm
   subst hb0
   refine ⟨vs, hvs, hcell, ?_⟩
   refine (ih hx2).imp (fun q hq => ?_) (fun _ _ => rfl)
   rcases hq with hq | hq
   ·exact .inl hq
   ·right
    have hq' : q ∈ bss.flatten := List.mem_flatten.2 ⟨_, List.getElem_mem hi', hq⟩
    cases hm : m.isOwn with
    | true => rw [(ho hm).1]; exact List.mem_cons_of_mem _ hq'
    | false => rw [(hro hm).2.1] at hq'; cases hq'
 | pair a b iha ihb =>
  rintro m x vs bs ⟨v1, v2, b1, b2, rfl, rfl, h1, h2⟩
  refine ⟨v1, v2, [], [], rfl, rfl, (iha h1).imp ?_ (fun _ _ => rfl), (ihb h2).imp ?_ (fun _ _ => rfl)⟩
  ·exact fun q hq => hq.imp id (List.mem_append_left _)
  ·exact fun q hq => hq.imp id (List.mem_append_right _)
def LfV (w : World) (S : Nat → Prop) : Leaf → Value → List Nat → Prop
 | .v x, y, bs => y = x ∧ bs = []
 | .s m t l, y, bs => Rd w S (.sl t) m l [y] bs
 | _, _, _ => False
def Cs (w : World) (S : Nat → Prop) : List Leaf → List Value → List (List Nat) → Prop
 | [], [], [] => True
 | c :: cs, v :: vs, b :: bs => LfV w S c v b ∧ Cs w S cs vs bs
 | _, _, _ => False
theorem Eo {w : World} {S : Nat → Prop} : ∀ {c1 c2 : List Leaf} {v1 v2 : List Value} {b1 b2 : List (List Nat)},
  Cs w S c1 v1 b1 → Cs w S c2 v2 b2 → Cs w S (c1 ++ c2) (v1 ++ v2) (b1 ++ b2)
 | [], _, [], _, [], _, _, h => h
 | c :: cs, c2, v :: vs, v2, b :: bs, b2, ⟨h1, h2⟩, h => ⟨h1, Eo h2 h⟩
 | [], _, _ :: _, _, _, _, h, _ => h.elim
 | [], _, [], _, _ :: _, _, h, _ => h.elim
 | _ :: _, _, [], _, _, _, h, _ => h.elim
 | _ :: _, _, _ :: _, _, [], _, h, _ => h.elim
theorem Ji {w : World} {S : Nat → Prop} : ∀ {c : List Leaf} {v : List Value} {b : List (List Nat)}, Cs w S c v b → c.length = v.length ∧ b.length = v.length
 | [], [], [], _ => ⟨rfl, rfl⟩
 | c :: cs, v :: vs, b :: bs, ⟨_, h⟩ => by have := Ji h; simp [this.1, this.2]
 | [], _ :: _, _, h => h.elim
 | [], [], _ :: _, h => h.elim
 | _ :: _, [], _, h => h.elim
 | _ :: _, _ :: _, [], h => h.elim
theorem Xaw {w : World} {S : Nat → Prop} : ∀ {c1 c2 : List Leaf} {v : List Value} {b : List (List Nat)},
  Cs w S (c1 ++ c2) v b → ∃ v1 v2 b1 b2, v = v1 ++ v2 ∧ b = b1 ++ b2 ∧ Cs w S c1 v1 b1 ∧ Cs w S c2 v2 b2
 | [], c2, v, b, h => ⟨[], v, [], b, rfl, rfl, trivial, h⟩
 | c :: cs, c2, v :: vs, b :: bs, ⟨h1, h2⟩ => by
  obtain ⟨v1, v2, b1, b2, rfl, rfl, h3, h4⟩ := Xaw h2
  exact ⟨v :: v1, v2, b :: b1, b2, rfl, rfl, ⟨h1, h3⟩, h4⟩
 | _ :: _, _, [], _, h => h.elim
 | _ :: _, _, _ :: _, [], h => h.elim
theorem G6 {w : World} {S : Nat → Prop} : ∀ {c : List Leaf} {v : List Value} {b : List (List Nat)} {i : Nat} {x : Leaf},
  Cs w S c v b → c[i]? = some x → ∃ y q, v[i]? = some y ∧ b[i]? = some q ∧ LfV w S x y q
 | c :: cs, v :: vs, b :: bs, 0, x, ⟨h1, h2⟩, hx => by
  simp at hx; subst hx; exact ⟨v, b, rfl, rfl, h1⟩
 | c :: cs, v :: vs, b :: bs, i + 1, x, ⟨h1, h2⟩, hx => by
  simpa using G6 (i := i) h2 (by simpa using hx)
 | [], _, _, _, _, _, hx => by simp at hx
 | _ :: _, [], _, _, _, h, _ => h.elim
 | _ :: _, _ :: _, [], _, _, h, _ => h.elim
theorem F8 {w w' : World} {S S' : Nat → Prop} (hS : ∀ b, S b → S' b) : ∀ {c : List Leaf} {v : List Value} {b : List (List Nat)},
  Cs w S c v b → (∀ q, (S q ∨ q ∈ b.flatten) → w'.heap[q]? = w.heap[q]?) → Cs w' S' c v b
 | [], [], [], _, _ => trivial
 | c :: cs, v :: vs, b :: bs, ⟨h1, h2⟩, hw => by
  refine ⟨?_, F8 hS h2 fun q hq => hw q (hq.imp id fun h => by simp [h])⟩
  cases c with
  | v x => exact h1
  | s m t l => exact h1.imp hS fun q hq => hw q (hq.imp id fun h => by simp [h])
  | _ => exact h1.elim
 | [], _ :: _, _, h, _ => h.elim
 | [], [], _ :: _, h, _ => h.elim
 | _ :: _, [], _, h, _ => h.elim
 | _ :: _, _ :: _, [], h, _ => h.elim
theorem Rd.cs {w : World} {S : Nat → Prop} : ∀ {t : Ty} {m : Mode} {x : den t} {vs : List Value} {bs : List Nat},
  Rd w S t m x vs bs → ∃ bss, Cs w S (enc m t x) vs bss ∧ bs = bss.flatten := by
 intro t
 induction t with
 | int k => rintro m x vs bs ⟨rfl, rfl⟩; exact ⟨[[]], ⟨⟨rfl, rfl⟩, trivial⟩, rfl⟩
 | bool => rintro m x vs bs ⟨rfl, rfl⟩; exact ⟨[[]], ⟨⟨rfl, rfl⟩, trivial⟩, rfl⟩
 | str => rintro m x vs bs ⟨rfl, rfl⟩; exact ⟨[[]], ⟨⟨rfl, rfl⟩, trivial⟩, rfl⟩
 | sl e ih =>
  rintro m x vs bs ⟨y, rfl, h⟩
  exact ⟨[bs], ⟨⟨y, rfl, h⟩, trivial⟩, by simp⟩
 | pair a b iha ihb =>
  rintro m x vs bs ⟨v1, v2, b1, b2, rfl, rfl, h1, h2⟩
  obtain ⟨s1, c1, rfl⟩ := iha h1
  obtain ⟨s2, c2, rfl⟩ := ihb h2
  exact ⟨s1 ++ s2, Eo c1 c2, by simp⟩
theorem Fy {w : World} {S : Nat → Prop} {c : Leaf} {cs : List Leaf} : ∀ {v : List Value} {b : List (List Nat)}, Cs w S (c :: cs) v b →
  ∃ y q v' b', v = y :: v' ∧ b = q :: b' ∧ LfV w S c y q ∧ Cs w S cs v' b'
 | y :: v', q :: b', ⟨h, h'⟩ => ⟨y, q, v', b', rfl, rfl, h, h'⟩
 | [], _, h => h.elim
 | _ :: _, [], h => h.elim
theorem A8 (m : Mode) : ∀ (t : Ty) (x : den t), (enc m t x).length = wd t := by
 intro t
 induction t with
 | pair a b iha ihb => intro x; simp [enc, wd, iha, ihb]
 | _ => intro x; rfl
theorem Rd.weaken {w : World} {S : Nat → Prop} {t : Ty} {m n : Mode} {l : List (den t)} {vs : List Value} {bs : List Nat}
  (h : Rd w S (.sl t) n l vs bs) (hf : L2 m n = true) (hm : m ≠ .rox) (hnd : bs.Nodup) :
  ∃ bs', List.Sublist bs' bs ∧ Rd w (fun b => S b ∨ b ∈ bs ∧ b ∉ bs') (.sl t) m l vs bs' := by
 cases m with
 | own => cases n <;> simp [L2] at hf; exact ⟨bs, List.Sublist.refl _, h.imp (fun _ hb => .inl hb) fun _ _ => rfl⟩
 | rox => exact absurd rfl hm
 | ro => exact ⟨[], List.nil_sublist _, (h.toRo).imp (fun b hb => hb.imp id fun h => ⟨h, by simp⟩) fun _ _ => rfl⟩
 | sown =>
  obtain ⟨y, rfl, ad, c, hy, hc, hx, hr⟩ := h
  have hn : n.isOwn = true := by cases n <;> simp_all [L2, Mode.isOwn]
  rcases hr with ⟨h1, h2, h3, h4⟩ | ⟨b, o, bss, had, hlen, ho, hro, hh, hel⟩
  ·exact ⟨[], List.nil_sublist _, y, rfl, ad, c, hy, hc, by simp, .inl ⟨h1.imp id (fun h => by rw [hn] at h; cases h), h2, h3, rfl⟩⟩
  obtain ⟨hbs, hblk⟩ := ho hn
  subst hbs
  refine ⟨[b], by simp, y, rfl, ad, c, hy, hc, by simp, .inr ⟨b, o, bss.map fun _ => [], had, by simp [hlen], ?_, by simp [Mode.isOwn], by simp, ?_⟩⟩
  ·intro _
   exact ⟨by rw [E6 (by simp)], hblk⟩
  ·intro i x' b' hi hx' hb'
   have hi' : i < bss.length := by
    rw [hlen]; exact (List.getElem?_eq_some_iff.1 hx').1
   obtain ⟨vs, hvs, hcell, hx2⟩ := hel i x' bss[i] hi hx' (List.getElem?_eq_getElem hi')
   have hb0 : b' = [] := by
    rw [List.getElem?_map, List.getElem?_eq_getElem hi'] at hb'
    simpa using hb'.symm
   subst hb0
   refine ⟨vs, hvs, hcell, ?_⟩
   refine (hx2.toRo).imp (fun q hq => ?_) (fun _ _ => rfl)
   rcases hq with hq | hq
   ·exact .inl hq
   ·right
    have hq' : q ∈ bss.flatten := List.mem_flatten.2 ⟨_, List.getElem_mem hi', hq⟩
    refine ⟨List.mem_cons_of_mem _ hq', fun hqb => ?_⟩
    have : q = b := by simpa using hqb
    subst this
    exact (List.nodup_cons.1 hnd).1 hq'
theorem Bp {α : Type} {f : Leaf → Option α} {cs r : List Leaf} {x : α} (h : hd f cs = some (x, r)) : ∃ c, cs = c :: r ∧ f c = some x := by
 cases cs with
 | nil => simp [hd] at h
 | cons c r' =>
  simp only [hd] at h
  cases hf : f c with
  | none => rw [hf] at h; simp at h
  | some a =>
   rw [hf] at h; simp only [Option.some.injEq, Prod.mk.injEq] at h
   obtain ⟨rfl, rfl⟩ := h
   exact ⟨c, rfl, hf⟩
theorem L5 {k k' : IntKind} (h : ikb k k' = true) : k = k' := by cases k <;> cases k' <;> first | rfl | simp [ikb] at h
theorem Xi9 {w : World} {m : Mode} (hm : m ≠ .rox) : ∀ {t : Ty} {S : Nat → Prop} {cs r : List Leaf} {x : den t} {vs : List Value} {bss : List (List Nat)},
  N8 m t cs = some (x, r) → Cs w S cs vs bss → bss.flatten.Nodup →
  ∃ v1 v2 b1 b2 bs', vs = v1 ++ v2 ∧ bss = b1 ++ b2 ∧ Cs w S r v2 b2 ∧ List.Sublist bs' b1.flatten ∧
   Rd w (fun b => S b ∨ b ∈ b1.flatten ∧ b ∉ bs') t m x v1 bs' := by
 intro t
 induction t with
 | int k =>
  intro S cs r x vs bss h hc hnd
  obtain ⟨c, rfl, hf⟩ := Bp h
  obtain ⟨y, q, vs', bss', rfl, rfl, h1, h2⟩ := Fy hc
  unfold Xlm at hf
  split at hf <;> try (simp at hf; done)
  rename_i k' n
  cases hk : ikb k k' with
  | false => rw [hk] at hf; simp at hf
  | true =>
   rw [hk] at hf; simp only [cond_true, Option.some.injEq] at hf
   subst hf
   obtain ⟨rfl, rfl⟩ := h1
   exact ⟨[_], vs', [[]], bss', [], rfl, rfl, h2, by simp, by rw [L5 hk], rfl⟩
 | bool =>
  intro S cs r x vs bss h hc hnd
  obtain ⟨c, rfl, hf⟩ := Bp h
  obtain ⟨y, q, vs', bss', rfl, rfl, h1, h2⟩ := Fy hc
  unfold Xj6 at hf
  split at hf <;> try (simp at hf; done)
  simp only [Option.some.injEq] at hf
  subst hf
  obtain ⟨rfl, rfl⟩ := h1
  exact ⟨[_], vs', [[]], bss', [], rfl, rfl, h2, by simp, rfl, rfl⟩
 | str =>
  intro S cs r x vs bss h hc hnd
  obtain ⟨c, rfl, hf⟩ := Bp h
  obtain ⟨y, q, vs', bss', rfl, rfl, h1, h2⟩ := Fy hc
  unfold Xk1 at hf
  split at hf <;> try (simp at hf; done)
  simp only [Option.some.injEq] at hf
  subst hf
  obtain ⟨rfl, rfl⟩ := h1
  exact ⟨[_], vs', [[]], bss', [], rfl, rfl, h2, by simp, rfl, rfl⟩
 | sl e ih =>
  intro S cs r x vs bss h hc hnd
  obtain ⟨c, rfl, hf⟩ := Bp h
  obtain ⟨y, q, vs', bss', rfl, rfl, h1, h2⟩ := Fy hc
  have hq : q.Nodup := by simp only [List.flatten_cons] at hnd; exact (List.nodup_append.1 hnd).1
  unfold Xkw at hf
  split at hf <;> try (simp at hf; done)
  ·rename_i n u l
   cases hfi : L2 m n with
   | false => rw [hfi] at hf; simp at hf
   | true =>
    rw [hfi] at hf
    simp only [cond_true] at hf
    split at hf <;> try (simp at hf; done)
    rename_i hu
    subst hu
    simp only [Option.some.injEq] at hf
    subst hf
    have h3 : Rd w S (.sl u) n l [y] q := h1
    obtain ⟨bs', hs, hr⟩ := h3.weaken hfi hm hq
    exact ⟨[y], vs', [q], bss', bs', rfl, rfl, h2, by simpa using hs, by simpa using hr⟩
  ·simp only [Option.some.injEq] at hf
   subst hf
   obtain ⟨rfl, rfl⟩ := h1
   refine ⟨[_], vs', [[]], bss', [], rfl, rfl, h2, by simp, _, rfl, none, 0, rfl, Nat.le_refl _, fun _ => rfl, .inl ⟨.inl rfl, rfl, rfl, rfl⟩⟩
 | pair a b iha ihb =>
  intro S cs r x vs bss h hc hnd
  simp only [N8] at h
  split at h <;> try (simp at h; done)
  rename_i y r1 h1
  split at h <;> try (simp at h; done)
  rename_i z r2 h2
  simp only [Option.some.injEq, Prod.mk.injEq] at h
  obtain ⟨rfl, rfl⟩ := h
  obtain ⟨v1, v2, b1, b2, bs1, rfl, rfl, hc2, hs1, hr1⟩ := iha h1 hc hnd
  simp only [List.flatten_append] at hnd
  obtain ⟨hn1, hn2, hn3⟩ := List.nodup_append.1 hnd
  obtain ⟨v3, v4, b3, b4, bs2, rfl, rfl, hc3, hs2, hr2⟩ := ihb h2 hc2 hn2
  refine ⟨v1 ++ v3, v4, b1 ++ b3, b4, bs1 ++ bs2, by simp, by simp, hc3, by simpa using hs1.append hs2, v1, v3, bs1, bs2, rfl, rfl, ?_, ?_⟩
  ·refine hr1.imp (fun q hq => ?_) fun _ _ => rfl
   rcases hq with hq | ⟨hq, hq'⟩
   ·exact .inl hq
   ·refine .inr ⟨by simp [hq], ?_⟩
    simp only [List.mem_append, not_or]
    exact ⟨hq', fun h5 => hn3 q hq q (by simp [hs2.subset h5]) rfl⟩
  ·refine hr2.imp (fun q hq => ?_) fun _ _ => rfl
   rcases hq with hq | ⟨hq, hq'⟩
   ·exact .inl hq
   ·refine .inr ⟨by simp [hq], ?_⟩
    simp only [List.mem_append, not_or]
    exact ⟨fun h5 => hn3 q (hs1.subset h5) q (by simp [hq]) rfl, hq'⟩
theorem Xad {w : World} {S : Nat → Prop} {m : Mode} (hm : m ≠ .rox) {t : Ty} {cs : List Leaf} {x : den t} {vs : List Value} {bss : List (List Nat)}
  (h : M0 m t cs = some x) (hc : Cs w S cs vs bss) (hnd : bss.flatten.Nodup) :
  ∃ bs', List.Sublist bs' bss.flatten ∧ Rd w (fun b => S b ∨ b ∈ bss.flatten ∧ b ∉ bs') t m x vs bs' := by
 unfold M0 at h
 split at h <;> try (simp at h; done)
 rename_i y hd
 simp only [Option.some.injEq] at h
 subst h
 obtain ⟨v1, v2, b1, b2, bs', rfl, rfl, h2, h3, h4⟩ := Xi9 hm hd hc hnd
 have : v2 = [] ∧ b2 = [] := by
  cases v2 <;> cases b2 <;> simp_all [Cs]
 obtain ⟨rfl, rfl⟩ := this
 exact ⟨bs', by simpa using h3, by simpa using h4⟩
end Go.Rf
end

section
set_option linter.unusedVariables false
namespace Go.Rf
abbrev Mem := Nat → Option Ent
structure Gh where
 ad : Nat → Option (Nat × Nat)
 hv : Nat → Value
 bl : Nat → List Nat
 S : Nat → Prop
def leafAt (mem : Mem) : Loc → Option Leaf
 | .cell k => (mem k).map (·.c)
 | .elem k e c =>
  match mem k with
  | some ⟨.s m t l, _, _⟩ => Dw (enc m.nest t (nthD l e (Be t))) c
  | _ => none
def lstOf : Leaf → Option (Ty × Nat)
 | .s _ t l => some (t, l.length)
 | .h _ t l _ _ => some (t, l.length)
 | .q _ t l _ => some (t, l.length)
 | _ => none
def inR (mem : Mem) : Loc → Prop
 | .cell _ => True
 | .elem k e _ => ∃ x t q, mem k = some x ∧ lstOf x.c = some (t, q) ∧ e < q
def hdrAt (w : World) (g : Gh) (mem : Mem) : Loc → Option Value
 | .cell k => some (g.hv k)
 | .elem k e c =>
  match g.hv k, mem k with
  | .slice (some a) _ _, some ⟨.s m t l, _, _⟩ => cellAt w a.block (a.off + e * wd t + c)
  | _, _ => none
def P8 (q n : Nat) (win : Option (Nat × Nat)) (h y : Value) : Prop :=
 match win with
 | none => y = h
 | some (lo, hi) => ∃ ad c p c', h = .slice ad n c ∧ lo ≤ hi ∧ hi ≤ n ∧
   y = .slice (ad.map (·.add (p * q))) (hi - lo) c' ∧ hi - lo ≤ c' ∧ p + c' ≤ c ∧ (p = lo ∨ c' = 0)
def AOk (w : World) (g : Gh) (mem : Mem) (p : Loc) (v0 v1 : Nat) (win : Option (Nat × Nat)) (y : Value) : Prop :=
 (∃ ad n c, y = .slice ad n c) ∧ ∃ e, mem (Ib p) = some e ∧ v0 ≤ e.v0 ∧ v1 ≤ e.v1 ∧
  (Ii p v0 v1 e = true → inR mem p ∧ ∃ t q h, (leafAt mem p).bind lstOf = some (t, q) ∧ hdrAt w g mem p = some h ∧ P8 (wd t) q win h y)
def POk (g : Gh) (mem : Mem) (p : Loc) (n v0 : Nat) (y : Value) : Prop :=
 match p with
 | .cell k => ∃ b o, y = .pointer (some ⟨b, o, none⟩) ∧ ∀ j, j < n → g.ad (k + j) = some (b, o + j)
 | .elem k e c => (∃ a' : Addr, y = .pointer (some a')) ∧ ∃ x, mem k = some x ∧ v0 ≤ x.v0 ∧ (v0 = x.v0 → ∃ t q, ∃ a : Addr, ∃ len cap, lstOf x.c = some (t, q) ∧ e < q ∧ c + n ≤ wd t ∧
   g.hv k = .slice (some ⟨a.block, a.off, none⟩) len cap ∧ y = .pointer (some ⟨a.block, a.off + e * wd t + c, none⟩))
def ItV (w : World) (S : Nat → Prop) (f : Nat) (t : Ty) (l : List (den t)) (n : Int) (y : Value) : Prop :=
 ∃ b1 b2 v, y = .func (.func f) #[] #[.pointer (some ⟨b1, 0, none⟩), .pointer (some ⟨b2, 0, none⟩)] ∧ S b1 ∧ S b2 ∧ cellAt w b1 0 = some v ∧ cellAt w b2 0 = some (.int .i64 n) ∧
  Rd w S (.sl t) .ro l [v] [] ∧ (1 ≤ n ∧ n ≤ 9223372036854775807) ∧ l.length ≤ 140737488355328
theorem ItV.imp {w w' : World} {S S' : Nat → Prop} {f : Nat} {t : Ty} {l : List (den t)} {n : Int} {y : Value} (h : ItV w S f t l n y) (hS : ∀ b, S b → S' b) (hw : ∀ b, S b → w'.heap[b]? = w.heap[b]?) : ItV w' S' f t l n y := by
 obtain ⟨b1, b2, v, e, h1, h2, h3, h4, h5, h6, h7⟩ := h
 exact ⟨b1, b2, v, e, hS _ h1, hS _ h2, (A4 (hw _ h1)).trans h3, (A4 (hw _ h2)).trans h4, h5.imp hS fun b hb => hw b (hb.resolve_right (by simp)), h6, h7⟩
def H7 {α : Type} (l : List α) (e : Nat) : List (Bool × α) := l.mapIdx fun i x => (Nat.beq i e, x)
def ElR (w : World) (S : Nat → Prop) (t : Ty) (m : Mode) (c : Nat) (z : Bool × den t) (vs : List Value) (bs : List Nat) : Prop :=
 match z with
 | (false, x) => Rd w S t m x vs bs
 | (true, x) => ∃ v bss, Cs w S ((enc m t x).set c (.v v)) vs bss ∧ bs = bss.flatten
theorem ElR.imp {w w' : World} {S S' : Nat → Prop} (hS : ∀ b, S b → S' b) {t : Ty} {m : Mode} {c : Nat} {z : Bool × den t} {vs : List Value} {bs : List Nat}
  (h : ElR w S t m c z vs bs) (hw : ∀ b, (S b ∨ b ∈ bs) → w'.heap[b]? = w.heap[b]?) : ElR w' S' t m c z vs bs := by
 obtain ⟨f, x⟩ := z
 cases f with
 | false => exact Rd.imp hS (show Rd w S t m x vs bs from h) hw
 | true =>
  obtain ⟨v, bss, h1, rfl⟩ := h
  exact ⟨v, bss, F8 hS h1 hw, rfl⟩
def Ec {α : Type} (l : List α) (p : Int) : List (Bool × α) := l.mapIdx fun i x => (decide ((i : Int) < p), x)
def QlR (w : World) (S : Nat → Prop) (t : Ty) (m : Mode) (z : Bool × den t) (vs : List Value) (bs : List Nat) : Prop :=
 match z with
 | (false, x) => Rd w S t m x vs bs
 | (true, _) => bs = []
theorem QlR.imp {w w' : World} {S S' : Nat → Prop} (hS : ∀ b, S b → S' b) {t : Ty} {m : Mode} {z : Bool × den t} {vs : List Value} {bs : List Nat}
  (h : QlR w S t m z vs bs) (hw : ∀ b, (S b ∨ b ∈ bs) → w'.heap[b]? = w.heap[b]?) : QlR w' S' t m z vs bs := by
 obtain ⟨f, x⟩ := z
 cases f with
 | false => exact Rd.imp hS (show Rd w S t m x vs bs from h) hw
 | true => exact h
def LfR (w : World) (g : Gh) (mem : Mem) : Leaf → Value → List Nat → Prop
 | .v x, y, bs => y = x ∧ bs = []
 | .s m t l, y, bs => Rd w g.S (.sl t) m l [y] bs
 | .h m t l e c, y, bs => SlR w g.S (wd t) m none (fun z vs bs => ElR w g.S t m.nest c z vs bs) (H7 l e) y bs
 | .q m t l p, y, bs => SlR w g.S (wd t) m none (fun z vs bs => QlR w g.S t m.nest z vs bs) (Ec l p) y bs
 | .a p v0 v1 win, y, bs => bs = [] ∧ AOk w g mem p v0 v1 win y
 | .ptr p n v0, y, bs => bs = [] ∧ POk g mem p n v0 y
 | .fn f cs, y, bs => bs = [] ∧ ∃ ys : List Value, y = .func (.func f) #[] ys.toArray ∧ ys.length = cs.length ∧
   ∀ (i : Nat) (p : Loc) (n v0 : Nat) (z : Value), cs[i]? = some (p, n, v0) → ys[i]? = some z → POk g mem p n v0 z
 | .it f t l n, y, bs => bs = [] ∧ ItV w g.S f t l n y
 | .d, _, bs => bs = []
def LsR (w : World) (g : Gh) (mem : Mem) (xs : List Leaf) (ys : List Value) : Prop :=
 ys.length = xs.length ∧ ∀ (i : Nat) (x : Leaf) (z : Value), xs[i]? = some x → ys[i]? = some z → LfR w g mem x z []
def TR (w : World) (g : Gh) (mem : Mem) : Bool × List Leaf → Value → Prop
 | (false, [x]), z => LfR w g mem x z []
 | (true, zs), z => ∃ us : List Value, z = .agg us.toArray ∧ LsR w g mem zs us
 | _, _ => False
def AR (w : World) (g : Gh) (mem : Mem) : A → Value → Prop
 | .one x, y => LfR w g mem x y []
 | .agg xs, y => ∃ ys : List Value, y = .agg ys.toArray ∧ LsR w g mem xs ys
 | .tup xs, y => ∃ ys : List Value, y = .tuple ys.toArray ∧ ys.length = xs.length ∧
   ∀ (i : Nat) (q : Bool × List Leaf) (z : Value), xs[i]? = some q → ys[i]? = some z → TR w g mem q z
abbrev Hand := List (Leaf × Value × List Nat)
def Hand.bs (H : Hand) : List Nat := H.flatMap (·.2.2)
structure Rel (w : World) (g : Gh) (σ : St) (ts : Array Value) (H : Hand) : Prop where
 mem : ∀ k e, σ.mem k = some e → LfR w g σ.mem e.c (g.hv k) (g.bl k)
 cell : ∀ k b o, g.ad k = some (b, o) → cellAt w b o = some (g.hv k) ∧ BlkOk w b (o + 1)
 inj : ∀ k k' a, g.ad k = some a → g.ad k' = some a → k = k'
 pres : ∀ k, σ.mem k = none → g.ad k = none ∧ g.bl k = []
 tmps : ∀ t, AR w g σ.mem (σ.tmp t) (ts.getD t undef)
 len : σ.ts.length = ts.size
 nd : ∀ k, (g.bl k).Nodup
 dj : ∀ k k', k ≠ k' → ∀ b ∈ g.bl k, b ∉ g.bl k'
 box : ∀ k b o, g.ad k = some (b, o) → (∀ k', b ∉ g.bl k') ∧ b ∉ H.bs ∧ ¬ g.S b
 st : ∀ b, g.S b → (∀ k, b ∉ g.bl k) ∧ b ∉ H.bs ∧ b < w.heap.size
 hnd : H.bs.Nodup
 hdj : ∀ k, ∀ b ∈ g.bl k, b ∉ H.bs
 hand : ∀ x ∈ H, LfV w g.S x.1 x.2.1 x.2.2
structure Step (w : World) (g : Gh) (mem : Mem) (w' : World) (g' : Gh) (mem' : Mem) : Prop where
 S : ∀ b, g.S b → g'.S b
 ad : ∀ k a, g.ad k = some a → g'.ad k = some a
 key : ∀ k e, mem k = some e → ∃ e', mem' k = some e' ∧ e.v0 ≤ e'.v0 ∧ e.v1 ≤ e'.v1 ∧
  (e.v0 = e'.v0 → ∀ z, lstOf e.c = some z → g'.hv k = g.hv k ∧ lstOf e'.c = some z ∧
   (e.v1 = e'.v1 → ∀ i c z', (leafAt mem (.elem k i c)).bind lstOf = some z' → inR mem (.elem k i c) →
    (leafAt mem' (.elem k i c)).bind lstOf = some z' ∧ hdrAt w' g' mem' (.elem k i c) = hdrAt w g mem (.elem k i c)))
theorem Step.inR {w w' : World} {g g' : Gh} {mem mem' : Mem} (h : Step w g mem w' g' mem') {k i c : Nat} {e e' : Ent} (he : mem k = some e) (he' : mem' k = some e')
  (hv : e.v0 = e'.v0) (hr : inR mem (.elem k i c)) : inR mem' (.elem k i c) := by
 obtain ⟨x, t, q, hx, hl, hi⟩ := hr
 rw [he] at hx; cases hx
 obtain ⟨e2, h1, h2, h3, h4⟩ := h.key k e he
 rw [he'] at h1; cases h1
 exact ⟨_, t, q, he', (h4 hv _ hl).2.1, hi⟩
theorem AOk.step {w w' : World} {g g' : Gh} {mem mem' : Mem} (h : Step w g mem w' g' mem') {p : Loc} {v0 v1 : Nat} {win : Option (Nat × Nat)} {y : Value}
  (ha : AOk w g mem p v0 v1 win y) : AOk w' g' mem' p v0 v1 win y := by
 obtain ⟨hsl, e, he, h0, h1, hc⟩ := ha
 obtain ⟨e', he', k0, k1, hk⟩ := h.key _ e he
 refine ⟨hsl, e', he', Nat.le_trans h0 k0, Nat.le_trans h1 k1, fun hch => ?_⟩
 cases p with
 | cell k =>
  simp only [Ii] at hch
  have hv' : v0 = e'.v0 := Nat.eq_of_beq_eq_true hch
  have hv : e.v0 = e'.v0 := by omega
  obtain ⟨_, t, q, hh, r1, r2, r3⟩ := hc (by simp only [Ii]; rw [hv]; exact hch)
  simp only [Ib] at he he'
  simp only [leafAt, he, Option.map_some, Option.bind_some] at r1
  obtain ⟨g1, g2, _⟩ := hk hv _ r1
  refine ⟨trivial, t, q, hh, ?_, ?_, r3⟩
  ·simp only [leafAt, he', Option.map_some, Option.bind_some]
   exact g2
  ·simp only [hdrAt, Ib] at r2 g1 ⊢
   rw [g1]; exact r2
 | elem k i c =>
  simp only [Ii, Bool.and_eq_true] at hch
  have hv' : v0 = e'.v0 := Nat.eq_of_beq_eq_true hch.1
  have hv'' : v1 = e'.v1 := Nat.eq_of_beq_eq_true hch.2
  have hv : e.v0 = e'.v0 := by omega
  have hv1 : e.v1 = e'.v1 := by omega
  obtain ⟨r0, t, q, hh, r1, r2, r3⟩ := hc (by simp only [Ii, Bool.and_eq_true]; rw [hv, hv1]; exact hch)
  obtain ⟨x0, t0, q0, hx0, hl0, hi0⟩ := r0
  simp only [Ib] at he
  rw [he] at hx0; cases hx0
  obtain ⟨g1, g2, g3⟩ := hk hv _ hl0
  have r0 : Rf.inR mem (.elem k i c) := ⟨_, t0, q0, he, hl0, hi0⟩
  obtain ⟨s1, s2⟩ := g3 hv1 i c _ r1 r0
  exact ⟨h.inR he he' hv r0, t, q, hh, s1, s2.trans r2, r3⟩
theorem POk.step {w w' : World} {g g' : Gh} {mem mem' : Mem} (h : Step w g mem w' g' mem') {p : Loc} {n v0 : Nat} {y : Value}
  (ha : POk g mem p n v0 y) : POk g' mem' p n v0 y := by
 cases p with
 | cell k =>
  obtain ⟨b, o, hy, hj⟩ := ha
  exact ⟨b, o, hy, fun j hlt => h.ad _ _ (hj j hlt)⟩
 | elem k i c =>
  obtain ⟨hp, x, hx, h0, hc⟩ := ha
  obtain ⟨e', he', k0, k1, hk⟩ := h.key _ x hx
  refine ⟨hp, e', he', Nat.le_trans h0 k0, fun hv => ?_⟩
  have hv2 : x.v0 = e'.v0 := by omega
  obtain ⟨t, q, a, len, cap, r1, r2, r3, r4, r5⟩ := hc (by omega)
  obtain ⟨g1, g2, _⟩ := hk hv2 _ r1
  exact ⟨t, q, a, len, cap, g2, r2, r3, g1.trans r4, r5⟩
theorem LfR.step {w w' : World} {g g' : Gh} {mem mem' : Mem} (h : Step w g mem w' g' mem') {x : Leaf} {y : Value} {bs : List Nat}
  (hw : ∀ b, (g.S b ∨ b ∈ bs) → w'.heap[b]? = w.heap[b]?) (ha : LfR w g mem x y bs) : LfR w' g' mem' x y bs := by
 cases x with
 | v x => exact ha
 | s m t l =>
  have ha' : Rd w g.S (.sl t) m l [y] bs := ha
  exact ha'.imp h.S hw
 | h m t l e c =>
  have ha' : SlR w g.S (wd t) m none (fun z vs bs => ElR w g.S t m.nest c z vs bs) (H7 l e) y bs := ha
  exact ha'.imp h.S hw fun x vs b' hsub hx => ElR.imp h.S hx fun b hb => hw b (hb.imp id (hsub b))
 | q m t l p =>
  have ha' : SlR w g.S (wd t) m none (fun z vs bs => QlR w g.S t m.nest z vs bs) (Ec l p) y bs := ha
  exact ha'.imp h.S hw fun x vs b' hsub hx => QlR.imp h.S hx fun b hb => hw b (hb.imp id (hsub b))
 | a p v0 v1 win => exact ⟨ha.1, ha.2.step h⟩
 | ptr p n v0 => exact ⟨ha.1, ha.2.step h⟩
 | fn f cs =>
  obtain ⟨hb, ys, hy, hl, hp⟩ := ha
  exact ⟨hb, ys, hy, hl, fun i p n v0 z h1 h2 => (hp i p n v0 z h1 h2).step h⟩
 | it f t l n => exact ⟨ha.1, ha.2.imp h.S fun b hb => hw b (.inl hb)⟩
 | d => exact ha
theorem LsR.step {w w' : World} {g g' : Gh} {mem mem' : Mem} (h : Step w g mem w' g' mem') (hw : ∀ b, g.S b → w'.heap[b]? = w.heap[b]?) {xs : List Leaf} {ys : List Value}
  (ha : LsR w g mem xs ys) : LsR w' g' mem' xs ys :=
 ⟨ha.1, fun i x z h1 h2 => (ha.2 i x z h1 h2).step h fun b hb => hw b (hb.resolve_right (by simp))⟩
theorem TR.step {w w' : World} {g g' : Gh} {mem mem' : Mem} (h : Step w g mem w' g' mem') (hw : ∀ b, g.S b → w'.heap[b]? = w.heap[b]?) {q : Bool × List Leaf} {z : Value}
  (ha : TR w g mem q z) : TR w' g' mem' q z := by
 obtain ⟨f, xs⟩ := q
 cases f with
 | true => obtain ⟨us, h1, h2⟩ := ha; exact ⟨us, h1, h2.step h hw⟩
 | false =>
  match xs, ha with
  | [x], ha => exact LfR.step h (fun b hb => hw b (hb.resolve_right (by simp))) ha
theorem AR.step {w w' : World} {g g' : Gh} {mem mem' : Mem} (h : Step w g mem w' g' mem') (hw : ∀ b, g.S b → w'.heap[b]? = w.heap[b]?) {x : A} {y : Value}
  (ha : AR w g mem x y) : AR w' g' mem' x y := by
 cases x with
 | one x => exact LfR.step h (fun b hb => hw b (hb.resolve_right (by simp))) ha
 | agg xs => obtain ⟨us, h1, h2⟩ := ha; exact ⟨us, h1, h2.step h hw⟩
 | tup xs =>
  obtain ⟨ys, h1, h2, h3⟩ := ha
  exact ⟨ys, h1, h2, fun i q z h4 h5 => (h3 i q z h4 h5).step h hw⟩
end Go.Rf
end

section
set_option linter.unusedVariables false
namespace Go.Rf
theorem Xro : ∀ (mm : List (Nat × Ent)) (k : Nat) (e : Ent) (q : Nat), lk (ups mm k e) q = if q = k then some e else lk mm q
 | [], k, e, q => by
  simp only [ups, lk]
  by_cases h : q = k
  ·subst h; simp [Nat.beq_refl]
  ·have : Nat.beq k q = false := by
    cases hb : Nat.beq k q with
    | false => rfl
    | true => exact absurd (Nat.eq_of_beq_eq_true hb).symm h
   simp [this, h]
 | (k', x) :: r, k, e, q => by
  simp only [ups]
  cases hb : Nat.beq k' k with
  | true =>
   have hk := Nat.eq_of_beq_eq_true hb
   subst hk
   simp only [cond_true, lk]
   by_cases h : q = k'
   ·subst h; simp [Nat.beq_refl]
   ·have : Nat.beq k' q = false := by
     cases hb : Nat.beq k' q with
     | false => rfl
     | true => exact absurd (Nat.eq_of_beq_eq_true hb).symm h
    simp [this, h]
  | false =>
   simp only [cond_false, lk]
   cases hq : Nat.beq k' q with
   | true =>
    have hk := Nat.eq_of_beq_eq_true hq
    subst hk
    have : k' ≠ k := fun h => by subst h; simp [Nat.beq_refl] at hb
    simp [this]
   | false => simp only [cond_false]; exact Xro r k e q
theorem St.mem_setM (σ : St) (k : Nat) (e : Ent) (q : Nat) : (σ.setM k e).mem q = if q = k then some e else σ.mem q := Xro _ _ _ _
theorem St.tmp_setM (σ : St) (k : Nat) (e : Ent) (t : Nat) : (σ.setM k e).tmp t = σ.tmp t := rfl
theorem St.mem_setT (σ : St) (t : Nat) (x : A) (q : Nat) : (σ.setT t x).mem q = σ.mem q := rfl
theorem Jn {α : Type} : ∀ (l : List α) (n : Nat) (x : α) (q : Nat) (d : α), nthD (Yc l n x) q d = if q = n ∧ n < l.length then x else nthD l q d
 | [], n, x, q, d => by simp [Yc, nthD]
 | a :: r, 0, x, q, d => by cases q <;> simp [Yc, nthD]
 | a :: r, n + 1, x, q, d => by
  cases q with
  | zero => simp [Yc, nthD]
  | succ q => simp only [Yc, nthD, Jn r n x q d, List.length_cons]; simp
theorem Ui {α : Type} : ∀ (l : List α) (n : Nat) (x : α), (Yc l n x).length = l.length
 | [], n, x => rfl
 | a :: r, 0, x => rfl
 | a :: r, n + 1, x => by simp [Yc, Ui r n x]
theorem Bw {α : Type} : ∀ (l : List α) (n : Nat) (d : α), nthD l n d = l.getD n d
 | [], n, d => by simp [nthD]
 | a :: r, 0, d => by simp [nthD]
 | a :: r, n + 1, d => by simp only [nthD, Bw r n d]; simp
theorem Cc {α : Type} : ∀ (l : List α) (n : Nat), Dw l n = l[n]?
 | [], n => by simp [Dw]
 | a :: r, 0 => by simp [Dw]
 | a :: r, n + 1 => by simp only [Dw, Cc r n]; simp
theorem Bh (b o n : Nat) : (⟨b, o, none⟩ : Addr).add n = ⟨b, o + n, none⟩ := by
 unfold Addr.add
 split
 ·rename_i h; subst h; rfl
 ·rfl
theorem Qc {l1 l2 : List (List Nat)} (h : List.Sublist l1 l2) : List.Sublist l1.flatten l2.flatten := by
 induction h with
 | slnil => exact List.Sublist.refl _
 | cons a h ih => simp only [List.flatten_cons]; exact ih.trans (List.sublist_append_right _ _)
 | cons_cons a h ih => simp only [List.flatten_cons]; exact (List.Sublist.refl _).append ih
theorem SlR.win {w : World} {S : Nat → Prop} {α : Type} {n : Nat} {m : Mode} {el : α → List Value → List Nat → Prop} {l : List α} {h y : Value} {bs : List Nat}
  {wi : Option (Nat × Nat)} (hs : SlR w S n m none el l h bs) (hm : m ≠ .rox) (hw : P8 n l.length wi h y) :
  ∃ bs', List.Sublist bs' bs ∧ SlR w S n m none el (Rf.win wi l) y bs' := by
 cases wi with
 | none =>
  simp only [P8] at hw
  subst hw
  exact ⟨bs, List.Sublist.refl _, hs⟩
 | some p =>
  obtain ⟨lo, hi⟩ := p
  obtain ⟨ad, c, p, c', rfl, hlo, hhi, rfl, hc1, hc2, hp⟩ := hw
  obtain ⟨ad', c2, he, hlc, hx, hr⟩ := hs
  simp only [Value.slice.injEq] at he
  obtain ⟨rfl, _, rfl⟩ := he
  have hlen : (Rf.win (some (lo, hi)) l).length = hi - lo := by
   simp only [Rf.win, List.length_drop, List.length_take, Nat.min_eq_left hhi]
  rcases hr with ⟨h0, rfl, rfl, rfl⟩ | ⟨b, o, bss, rfl, hbl, ho, hro, hh, hel⟩
  ·simp at hhi
   subst hhi
   have : lo = 0 := by omega
   subst this
   exact ⟨[], by simp, ad.map (·.add (p * n)), c', by simp [Rf.win], by simp [Rf.win], fun h => absurd h hm, .inl ⟨h0.imp (fun h => by rw [h]; rfl) id, by simp [Rf.win], by omega, rfl⟩⟩
  ·have hsub : List.Sublist ((bss.take hi).drop lo) bss := (List.drop_sublist _ _).trans (List.take_sublist _ _)
   refine ⟨if m.isOwn then b :: ((bss.take hi).drop lo).flatten else [], ?_, some ⟨b, o + p * n, none⟩, c', ?_, ?_, fun h => absurd h hm, .inr ⟨b, o + p * n, (bss.take hi).drop lo, rfl, ?_, ?_, ?_, by simp, ?_⟩⟩
   ·cases hmo : m.isOwn with
    | true => simp only [if_true]; rw [(ho hmo).1]; exact (Qc hsub).cons_cons b
    | false => simp
   ·rw [hlen]; simp [Bh]
   ·rw [hlen]; exact hc1
   ·rw [hlen]; simp only [List.length_drop, List.length_take, hbl, Nat.min_eq_left hhi]
   ·intro hmo
    obtain ⟨_, cs, te, h1, h2⟩ := ho hmo
    refine ⟨by simp [hmo], cs, te, h1, ?_⟩
    have : p * n + c' * n ≤ c * n := by rw [← Nat.add_mul]; exact Nat.mul_le_mul_right _ hc2
    omega
   ·intro hmo
    obtain ⟨h1, h2, h3⟩ := hro hmo
    refine ⟨by simp [hmo], ?_, fun hne => h3 fun hnil => hne (by simp [hnil, Rf.win])⟩
    exact E6 fun b' hb' => Q1 h2 (hsub.subset hb')
   ·intro i x b' _ hx' hb'
    have hi' : i < hi - lo := by rw [← hlen]; exact (List.getElem?_eq_some_iff.1 hx').1
    have hp' : p = lo := by rcases hp with h | h; exact h; omega
    subst hp'
    simp only [Rf.win] at hx'
    rw [List.getElem?_drop, List.getElem?_take_of_lt (by omega)] at hx' hb'
    obtain ⟨vs, hvs, hcell, hxx⟩ := hel (p + i) x b' (by simp) hx' hb'
    refine ⟨vs, hvs, fun j hj => ?_, hxx⟩
    rw [← hcell j hj]
    congr 1
    rw [Nat.add_mul]; omega
end Go.Rf
end

section
set_option linter.unusedVariables false
namespace Go.Rf
def Bu {α : Type} (f : Nat → α) (k : Nat) (v : α) : Nat → α := fun q => if q = k then v else f q
theorem Ac {α : Type} (f : Nat → α) (k : Nat) (v : α) : Bu f k v k = v := by simp [Bu]
theorem Ax {α : Type} (f : Nat → α) {k q : Nat} (v : α) (h : q ≠ k) : Bu f k v q = f q := by simp [Bu, h]
theorem BlkOk.lt {w : World} {b n : Nat} (h : BlkOk w b n) : b < w.heap.size := by
 obtain ⟨cs, te, h1, _⟩ := h
 exact (Array.getElem?_eq_some_iff.1 h1).1
theorem Ld {w : World} {S : Nat → Prop} : ∀ {t : Ty} {m : Mode} {x : den t} {vs : List Value} {bs : List Nat}, Rd w S t m x vs bs → ∀ b ∈ bs, b < w.heap.size := by
 intro t
 induction t with
 | int k => rintro m x vs bs ⟨_, rfl⟩ b hb; cases hb
 | bool => rintro m x vs bs ⟨_, rfl⟩ b hb; cases hb
 | str => rintro m x vs bs ⟨_, rfl⟩ b hb; cases hb
 | pair a b iha ihb =>
  rintro m x vs bs ⟨v1, v2, b1, b2, rfl, rfl, h1, h2⟩ q hq
  rcases List.mem_append.1 hq with h | h
  ·exact iha h1 q h
  ·exact ihb h2 q h
 | sl e ih =>
  rintro m x vs bs ⟨y, rfl, ad, c, hy, hc, hx, hr⟩ q hq
  rcases hr with ⟨_, _, _, rfl⟩ | ⟨b, o, bss, had, hlen, ho, hro, hh, hel⟩
  ·cases hq
  cases hm : m.isOwn with
  | false => rw [(hro hm).1] at hq; cases hq
  | true =>
   obtain ⟨h1, h2⟩ := ho hm
   rw [h1] at hq
   rcases List.mem_cons.1 hq with rfl | hq
   ·exact h2.lt
   ·obtain ⟨b', hb', hq'⟩ := List.mem_flatten.1 hq
    obtain ⟨i, hi, rfl⟩ := List.mem_iff_getElem.1 hb'
    have hil : i < x.length := by rw [← hlen]; exact hi
    obtain ⟨vs, _, _, hx'⟩ := hel i x[i] bss[i] (by simp) (List.getElem?_eq_getElem hil) (List.getElem?_eq_getElem hi)
    exact ih hx' q hq'
theorem Step.refl (w : World) (g : Gh) (mem : Mem) : Step w g mem w g mem :=
 ⟨fun _ h => h, fun _ _ h => h, fun k e he => ⟨e, he, Nat.le_refl _, Nat.le_refl _, fun _ z hz => ⟨rfl, hz, fun _ i c z h1 h2 => ⟨h1, rfl⟩⟩⟩⟩
theorem Step.bump {w : World} {g g' : Gh} {σ : St} {k : Nat} {e e' : Ent} (he : σ.mem k = some e) (h0 : e.v0 < e'.v0) (h1 : e.v1 ≤ e'.v1)
  (hS : ∀ b, g.S b → g'.S b) (had : ∀ q a, g.ad q = some a → g'.ad q = some a) (hhv : ∀ q, q ≠ k → g'.hv q = g.hv q) :
  Step w g σ.mem w g' (σ.setM k e').mem := by
 refine ⟨hS, had, fun q x hx => ?_⟩
 by_cases hq : q = k
 ·subst hq
  rw [he] at hx; cases hx
  exact ⟨e', by rw [St.mem_setM]; simp, Nat.le_of_lt h0, h1, fun h => by omega⟩
 ·refine ⟨x, by rw [St.mem_setM]; simp [hq, hx], Nat.le_refl _, Nat.le_refl _, fun _ z hz => ⟨hhv q hq, hz, fun _ i c z h2 h3 => ?_⟩⟩
  simp only [leafAt, hdrAt, St.mem_setM, hq, if_false, hhv q hq] at h2 ⊢
  exact ⟨h2, trivial⟩
theorem Step.fresh {w : World} {g g' : Gh} {σ : St} {k : Nat} {e' : Ent} (he : σ.mem k = none)
  (hS : ∀ b, g.S b → g'.S b) (had : ∀ q a, g.ad q = some a → g'.ad q = some a) (hhv : ∀ q, q ≠ k → g'.hv q = g.hv q) :
  Step w g σ.mem w g' (σ.setM k e').mem := by
 refine ⟨hS, had, fun q x hx => ?_⟩
 have hq : q ≠ k := fun h => by subst h; rw [he] at hx; cases hx
 refine ⟨x, by rw [St.mem_setM]; simp [hq, hx], Nat.le_refl _, Nat.le_refl _, fun _ z hz => ⟨hhv q hq, hz, fun _ i c z h2 h3 => ?_⟩⟩
 simp only [leafAt, hdrAt, St.mem_setM, hq, if_false, hhv q hq] at h2 ⊢
 exact ⟨h2, trivial⟩
theorem SlR.hdr {w : World} {S : Nat → Prop} {α : Type} {n : Nat} {m : Mode} {hole : Option Nat} {el : α → List Value → List Nat → Prop} {l : List α} {y : Value} {bs : List Nat}
  (h : SlR w S n m hole el l y bs) {i : Nat} (hi : i < l.length) : ∃ b o c, y = .slice (some ⟨b, o, none⟩) l.length c ∧ l.length ≤ c ∧ (S b ∨ b ∈ bs) := by
 obtain ⟨ad, c, rfl, hc, hx, hr⟩ := h
 rcases hr with ⟨_, rfl, _, _⟩ | ⟨b, o, bss, rfl, hlen, ho, hro, hh, hel⟩
 ·simp at hi
 ·refine ⟨b, o, c, rfl, hc, ?_⟩
  cases hm : m.isOwn with
  | true => exact .inr (by rw [(ho hm).1]; exact List.mem_cons_self)
  | false => exact .inl ((hro hm).2.2 (by intro h; rw [h] at hi; simp at hi))
theorem Step.world {w w' : World} {g g' : Gh} {σ : St} {ts : Array Value} {H : Hand} (h : Rel w g σ ts H)
  (hw : ∀ b, (g.S b ∨ ∃ k, b ∈ g.bl k) → w'.heap[b]? = w.heap[b]?) (hS : ∀ b, g.S b → g'.S b) (had : ∀ q a, g.ad q = some a → g'.ad q = some a)
  (hhv : g'.hv = g.hv) : Step w g σ.mem w' g' σ.mem := by
 refine ⟨hS, had, fun q x hx => ⟨x, hx, Nat.le_refl _, Nat.le_refl _, fun _ z hz => ⟨by rw [hhv], hz, fun _ i c z h2 h3 => ⟨h2, ?_⟩⟩⟩⟩
 obtain ⟨x', t, q', hx', hl, hi⟩ := h3
 rw [hx] at hx'; cases hx'
 obtain ⟨xc, xv0, xv1⟩ := x
 have hm := h.mem q _ hx
 cases xc with
 | s m t l =>
  obtain ⟨y, hy, hs⟩ := (hm : Rd w g.S (.sl t) m l [g.hv q] (g.bl q))
  simp only [List.cons.injEq, and_true] at hy
  subst hy
  simp only [lstOf, Option.some.injEq, Prod.mk.injEq] at hl
  obtain ⟨b, o, c', hy, _, hb⟩ := hs.hdr (i := i) (by omega)
  simp only [hdrAt, hhv, hy, hx]
  exact A4 (hw b (hb.imp id fun h => ⟨q, h⟩))
 | h m t l e c => simp [leafAt, hx] at h2
 | q m t l p => simp [leafAt, hx] at h2
 | _ => simp [leafAt, hx] at h2
theorem X0i {w : World} {S : Nat → Prop} : ∀ {c : List Leaf} {v : List Value} {b : List (List Nat)}, Cs w S c v b → ∀ q ∈ b.flatten, q < w.heap.size
 | [], [], [], _ => by simp
 | c :: cs, v :: vs, b :: bs, ⟨h1, h2⟩ => by
  intro q hq
  simp only [List.flatten_cons, List.mem_append] at hq
  rcases hq with hq | hq
  ·cases c with
   | v x => rw [h1.2] at hq; cases hq
   | s m t l => exact Ld (t := .sl t) h1 q hq
   | _ => exact h1.elim
  ·exact X0i h2 q hq
 | [], _ :: _, _, h => h.elim
 | [], [], _ :: _, h => h.elim
 | _ :: _, [], _, h => h.elim
 | _ :: _, _ :: _, [], h => h.elim
theorem X6d {w : World} {S : Nat → Prop} {t : Ty} {m : Mode} {c : Nat} {z : Bool × den t} {vs : List Value} {bs : List Nat} (h : ElR w S t m c z vs bs) : ∀ b ∈ bs, b < w.heap.size := by
 obtain ⟨f, x⟩ := z
 cases f with
 | false => exact Ld (show Rd w S t m x vs bs from h)
 | true =>
  obtain ⟨v, bss, h1, rfl⟩ := h
  exact X0i h1
theorem Xaq {w : World} {g : Gh} {mem : Mem} {m : Mode} {t : Ty} {l : List (den t)} {i c : Nat} {y : Value} {bs : List Nat} (h : LfR w g mem (.h m t l i c) y bs) : ∀ b ∈ bs, b < w.heap.size := by
 intro b hb
 obtain ⟨ad, cc, hy, hcc, hx, hr⟩ := (h : SlR w g.S (wd t) m none (fun z vs bs => ElR w g.S t m.nest c z vs bs) (H7 l i) y bs)
 rcases hr with ⟨_, _, _, h4⟩ | ⟨b', o, bss, had, hlen, ho, hro, hh, hel⟩
 ·rw [h4] at hb; cases hb
 cases hmo : m.isOwn with
 | false => rw [(hro hmo).1] at hb; cases hb
 | true =>
  obtain ⟨h1, h2⟩ := ho hmo
  rw [h1] at hb
  rcases List.mem_cons.1 hb with rfl | hq
  ·exact h2.lt
  ·obtain ⟨q, hq', hq2⟩ := List.mem_flatten.1 hq
   obtain ⟨j, hj, rfl⟩ := List.mem_iff_getElem.1 hq'
   have hjl : j < (H7 l i).length := by rw [← hlen]; exact hj
   obtain ⟨vs, _, _, hx'⟩ := hel j (H7 l i)[j] bss[j] (by simp) (List.getElem?_eq_getElem hjl) (List.getElem?_eq_getElem hj)
   exact X6d hx' b hq2
theorem Xa3 {w : World} {g : Gh} {mem : Mem} {m : Mode} {t : Ty} {l : List (den t)} {p : Int} {y : Value} {bs : List Nat} (h : LfR w g mem (.q m t l p) y bs) : ∀ b ∈ bs, b < w.heap.size := by
 intro b hb
 obtain ⟨ad, cc, hy, hcc, hx, hr⟩ := (h : SlR w g.S (wd t) m none (fun z vs bs => QlR w g.S t m.nest z vs bs) (Ec l p) y bs)
 rcases hr with ⟨_, _, _, h4⟩ | ⟨b', o, bss, had, hlen, ho, hro, hh, hel⟩
 ·rw [h4] at hb; cases hb
 cases hmo : m.isOwn with
 | false => rw [(hro hmo).1] at hb; cases hb
 | true =>
  obtain ⟨h1, h2⟩ := ho hmo
  rw [h1] at hb
  rcases List.mem_cons.1 hb with rfl | hq
  ·exact h2.lt
  ·obtain ⟨q, hq', hq2⟩ := List.mem_flatten.1 hq
   obtain ⟨j, hj, rfl⟩ := List.mem_iff_getElem.1 hq'
   have hjl : j < (Ec l p).length := by rw [← hlen]; exact hj
   obtain ⟨vs, _, _, hx'⟩ := hel j (Ec l p)[j] bss[j] (by simp) (List.getElem?_eq_getElem hjl) (List.getElem?_eq_getElem hj)
   generalize (Ec l p)[j] = z at hx'
   obtain ⟨f, x⟩ := z
   cases f with
   | false => exact Ld (show Rd w g.S t m.nest x vs bss[j] from hx') b hq2
   | true => rw [show bss[j] = [] from hx'] at hq2; cases hq2
theorem Rel.grow {w w' : World} {g : Gh} {σ : St} {ts : Array Value} {H : Hand} (h : Rel w g σ ts H) (hw : ∀ b, b < w.heap.size → w'.heap[b]? = w.heap[b]?)
  (hsz : w.heap.size ≤ w'.heap.size) : Rel w' g σ ts H := by
 have hbl : ∀ k b, b ∈ g.bl k → b < w.heap.size := by
  intro k b hb
  cases hm : σ.mem k with
  | none => rw [(h.pres k hm).2] at hb; cases hb
  | some e =>
   have := h.mem k e hm
   cases hc : e.c with
   | v x => rw [hc] at this; rw [this.2] at hb; cases hb
   | s m t l => rw [hc] at this; exact Ld (t := .sl t) this b hb
   | h m t l i c =>
    rw [hc] at this
    exact Xaq this b hb
   | q m t l p =>
    rw [hc] at this
    exact Xa3 this b hb
   | a p v0 v1 wi => rw [hc] at this; rw [this.1] at hb; cases hb
   | ptr p n v0 => rw [hc] at this; rw [this.1] at hb; cases hb
   | fn f cs => rw [hc] at this; rw [this.1] at hb; cases hb
   | it f t l n => rw [hc] at this; rw [this.1] at hb; cases hb
   | d => rw [hc] at this; rw [show g.bl k = [] from this] at hb; cases hb
 have hS : ∀ b, (g.S b ∨ ∃ k, b ∈ g.bl k) → w'.heap[b]? = w.heap[b]? := by
  rintro b (hb | ⟨k, hb⟩)
  ·exact hw b (h.st b hb).2.2
  ·exact hw b (hbl k b hb)
 have hst := Step.world (g' := g) h hS (fun _ h => h) (fun _ _ h => h) rfl
 refine ⟨fun k e he => (h.mem k e he).step hst fun b hb => hS b (hb.imp id fun h => ⟨k, h⟩), ?_, h.inj, h.pres, fun t => (h.tmps t).step hst fun b hb => hS b (.inl hb), h.len, h.nd, h.dj, h.box,
  fun b hb => ⟨(h.st b hb).1, (h.st b hb).2.1, Nat.lt_of_lt_of_le (h.st b hb).2.2 hsz⟩, h.hnd, h.hdj, ?_⟩
 ·intro k b o ha
  obtain ⟨h1, h2⟩ := h.cell k b o ha
  exact ⟨(A4 (hw b h2.lt)).trans h1, h2.same (hw b h2.lt)⟩
 ·intro x hx
  have := h.hand x hx
  obtain ⟨xl, xv, xb⟩ := x
  cases xl with
  | v z => exact this
  | s m t l =>
   have h2 : Rd w g.S (.sl t) m l [xv] xb := this
   refine h2.imp (fun _ h => h) fun b hb => ?_
   rcases hb with hb | hb
   ·exact hS b (.inl hb)
   ·exact hw b (Ld h2 b hb)
  | _ => exact this.elim
end Go.Rf
end

section
set_option linter.unusedVariables false
namespace Go.Rf
theorem Hand.bs_cons (x : Leaf × Value × List Nat) (H : Hand) : Hand.bs (x :: H) = x.2.2 ++ Hand.bs H := by simp [Hand.bs]
theorem LfV.imp {w w' : World} {S S' : Nat → Prop} {x : Leaf} {y : Value} {bs : List Nat} (h : LfV w S x y bs) (hS : ∀ b, S b → S' b)
  (hw : ∀ b, (S b ∨ b ∈ bs) → w'.heap[b]? = w.heap[b]?) : LfV w' S' x y bs := by
 cases x with
 | v z => exact h
 | s m t l => exact Rd.imp (t := .sl t) hS h hw
 | _ => exact h.elim
theorem LfV.lt {w : World} {S : Nat → Prop} {x : Leaf} {y : Value} {bs : List Nat} (h : LfV w S x y bs) : ∀ b ∈ bs, b < w.heap.size := by
 cases x with
 | v z => intro b hb; rw [h.2] at hb; cases hb
 | s m t l => exact Ld (t := .sl t) h
 | _ => exact h.elim
theorem Rel.setKey {w : World} {g g' : Gh} {σ : St} {ts : Array Value} {H H' : Hand} {k : Nat} {e' : Ent} (h : Rel w g σ ts H)
  (hst : Step w g σ.mem w g' (σ.setM k e').mem) (had : g'.ad = g.ad) (hhv : ∀ q, q ≠ k → g'.hv q = g.hv q) (hbl : ∀ q, q ≠ k → g'.bl q = g.bl q)
  (hcell : ∀ b o, g.ad k = some (b, o) → g'.hv k = g.hv k)
  (hk : LfR w g' (σ.setM k e').mem e'.c (g'.hv k) (g'.bl k))
  (hS : ∀ b, g'.S b → g.S b ∨ b ∈ g.bl k ∨ b ∈ H.bs)
  (hSlt : ∀ b, g'.S b → b < w.heap.size)
  (hnd : (g'.bl k ++ H'.bs).Nodup) (hsub : ∀ b, b ∈ g'.bl k ∨ b ∈ H'.bs → b ∈ g.bl k ∨ b ∈ H.bs)
  (hSd : ∀ b, g'.S b → b ∉ g'.bl k ∧ b ∉ H'.bs)
  (hand : ∀ x ∈ H', LfV w g'.S x.1 x.2.1 x.2.2) : Rel w g' (σ.setM k e') ts H' := by
 obtain ⟨n1, n2, n3⟩ := List.nodup_append.1 hnd
 have hbd : ∀ q, q ≠ k → ∀ b ∈ g.bl q, b ∉ g.bl k ∧ b ∉ H.bs := fun q hq b hb => ⟨h.dj q k hq b hb, h.hdj q b hb⟩
 refine ⟨?_, ?_, by rw [had]; exact h.inj, ?_, fun t => (h.tmps t).step hst fun _ _ => rfl, h.len, ?_, ?_, ?_, ?_, n2, ?_, hand⟩
 ·intro q e he
  rw [St.mem_setM] at he
  by_cases hq : q = k
  ·subst hq; simp at he; subst he; exact hk
  ·simp only [hq, if_false] at he
   rw [hhv q hq, hbl q hq]
   exact (h.mem q e he).step hst fun _ _ => rfl
 ·intro q b o ha
  rw [had] at ha
  by_cases hq : q = k
  ·subst hq; rw [hcell b o ha]; exact h.cell q b o ha
  ·rw [hhv q hq]; exact h.cell q b o ha
 ·intro q hq
  rw [St.mem_setM] at hq
  by_cases hqk : q = k
  ·subst hqk; simp at hq
  ·simp only [hqk, if_false] at hq
   rw [had, hbl q hqk]; exact h.pres q hq
 ·intro q
  by_cases hq : q = k
  ·subst hq; exact n1
  ·rw [hbl q hq]; exact h.nd q
 ·intro q q' hne b hb hb'
  by_cases hq : q = k
  ·subst hq
   rw [hbl q' (Ne.symm hne)] at hb'
   obtain ⟨h1, h2⟩ := hbd q' (Ne.symm hne) b hb'
   exact (hsub b (.inl hb)).elim h1 h2
  ·by_cases hq' : q' = k
   ·subst hq'
    rw [hbl q hq] at hb
    obtain ⟨h1, h2⟩ := hbd q hq b hb
    exact (hsub b (.inl hb')).elim h1 h2
   ·rw [hbl q hq] at hb; rw [hbl q' hq'] at hb'
    exact h.dj q q' hne b hb hb'
 ·intro q b o ha
  rw [had] at ha
  obtain ⟨h1, h2, h3⟩ := h.box q b o ha
  refine ⟨fun q' hb => ?_, fun hb => (hsub b (.inr hb)).elim (h1 k) h2, fun hs => (hS b hs).elim h3 fun h4 => h4.elim (h1 k) h2⟩
  by_cases hq' : q' = k
  ·subst hq'; exact (hsub b (.inl hb)).elim (h1 q') h2
  ·rw [hbl q' hq'] at hb; exact h1 q' hb
 ·intro b hs
  obtain ⟨d1, d2⟩ := hSd b hs
  refine ⟨fun q hb => ?_, d2, hSlt b hs⟩
  by_cases hq : q = k
  ·subst hq; exact d1 hb
  ·rw [hbl q hq] at hb
   rcases hS b hs with h1 | h1 | h1
   ·exact (h.st b h1).1 q hb
   ·exact (hbd q hq b hb).1 h1
   ·exact (hbd q hq b hb).2 h1
 ·intro q b hb hb'
  by_cases hq : q = k
  ·subst hq; exact n3 b hb b hb' rfl
  ·rw [hbl q hq] at hb
   obtain ⟨h1, h2⟩ := hbd q hq b hb
   exact (hsub b (.inr hb')).elim h1 h2
theorem Rel.take {w : World} {g : Gh} {σ : St} {ts : Array Value} {H : Hand} (h : Rel w g σ ts H) {k : Nat} {m : Mode} {t : Ty} {l : List (den t)} {v0 v1 : Nat}
  {wi : Option (Nat × Nat)} {y : Value} (he : σ.mem k = some ⟨.s m t l, v0, v1⟩) (hm : m ≠ .rox) (hy : P8 (wd t) l.length wi (g.hv k) y) :
  ∃ bs, (∀ b ∈ bs, b ∈ g.bl k) ∧ Rel w { g with bl := Bu g.bl k [] } (σ.setM k ⟨.d, v0 + 1, v1⟩) ts ((.s m t (Rf.win wi l), y, bs) :: H) := by
 obtain ⟨y', hy', hs⟩ := (h.mem k _ he : Rd w g.S (.sl t) m l [g.hv k] (g.bl k))
 simp only [List.cons.injEq, and_true] at hy'
 subst hy'
 obtain ⟨bs, hsub, hs'⟩ := hs.win hm hy
 have hst : Step w g σ.mem w { g with bl := Bu g.bl k [] } (σ.setM k ⟨.d, v0 + 1, v1⟩).mem :=
  Step.bump he (by simp) (Nat.le_refl _) (fun _ h => h) (fun _ _ h => h) (fun _ _ => rfl)
 have hr : Rd w g.S (.sl t) m (Rf.win wi l) [y] bs := ⟨y, rfl, hs'⟩
 refine ⟨bs, fun b hb => hsub.subset hb, h.setKey hst rfl (fun _ _ => rfl) (fun q hq => Ax _ _ hq) (fun _ _ _ => rfl) (by simp [LfR, Ac]) (fun b hb => .inl hb) (fun b hb => (h.st b hb).2.2) ?_ ?_ ?_ ?_⟩
 ·simp only [Ac, List.nil_append, Hand.bs_cons]
  exact List.nodup_append.2 ⟨List.Nodup.sublist hsub (h.nd k), h.hnd, fun a ha b hb hab => by subst hab; exact h.hdj k a (hsub.subset ha) hb⟩
 ·intro b hb
  simp only [Ac, Hand.bs_cons, List.mem_append] at hb
  rcases hb with hb | hb | hb
  ·cases hb
  ·exact .inl (hsub.subset hb)
  ·exact .inr hb
 ·intro b hb
  simp only [Ac, Hand.bs_cons, List.mem_append]
  refine ⟨by simp, ?_⟩
  rintro (h1 | h1)
  ·exact (h.st b hb).1 k (hsub.subset h1)
  ·exact (h.st b hb).2.1 h1
 ·intro x hx
  rcases List.mem_cons.1 hx with rfl | hx
  ·exact hr
  ·exact h.hand x hx
theorem Rel.drop {w : World} {g : Gh} {σ : St} {ts : Array Value} {x : Leaf × Value × List Nat} {H : Hand} (h : Rel w g σ ts (x :: H)) : Rel w g σ ts H := by
 have hs : ∀ b, b ∈ Hand.bs H → b ∈ Hand.bs (x :: H) := fun b hb => by rw [Hand.bs_cons]; exact List.mem_append_right _ hb
 refine ⟨h.mem, h.cell, h.inj, h.pres, h.tmps, h.len, h.nd, h.dj, fun k b o ha => ⟨(h.box k b o ha).1, fun hb => (h.box k b o ha).2.1 (hs b hb), (h.box k b o ha).2.2⟩,
  fun b hb => ⟨(h.st b hb).1, fun hb' => (h.st b hb).2.1 (hs b hb'), (h.st b hb).2.2⟩, ?_, fun k b hb hb' => h.hdj k b hb (hs b hb'), fun y hy => h.hand y (List.mem_cons_of_mem _ hy)⟩
 have := h.hnd
 rw [Hand.bs_cons] at this
 exact (List.nodup_append.1 this).2.1
theorem Rel.root {w : World} {g : Gh} {σ : St} {ts : Array Value} {x : Leaf} {y : Value} {bs : List Nat} {H : Hand} {k : Nat} (h : Rel w g σ ts ((x, y, bs) :: H))
  (he : σ.mem k = none) : Rel w { g with hv := Bu g.hv k y, bl := Bu g.bl k bs } (σ.setM k ⟨x, 0, 0⟩) ts H := by
 have hxv := h.hand (x, y, bs) List.mem_cons_self
 have hst : Step w g σ.mem w { g with hv := Bu g.hv k y, bl := Bu g.bl k bs } (σ.setM k ⟨x, 0, 0⟩).mem :=
  Step.fresh he (fun _ h => h) (fun _ _ h => h) (fun q hq => Ax _ _ hq)
 obtain ⟨ha, hb0⟩ := h.pres k he
 have hnd := h.hnd
 rw [Hand.bs_cons] at hnd
 have hbs : ∀ b, b ∈ bs → b ∈ Hand.bs ((x, y, bs) :: H) := fun b hb => by rw [Hand.bs_cons]; exact List.mem_append_left _ hb
 have hHs : ∀ b, b ∈ Hand.bs H → b ∈ Hand.bs ((x, y, bs) :: H) := fun b hb => by rw [Hand.bs_cons]; exact List.mem_append_right _ hb
 refine h.setKey hst rfl (fun q hq => Ax _ _ hq) (fun q hq => Ax _ _ hq) (fun b o h1 => by rw [ha] at h1; cases h1) ?_ (fun b hb => .inl hb) (fun b hb => (h.st b hb).2.2) ?_ ?_ ?_ ?_
 ·simp only [Ac]
  cases x with
  | v z => exact hxv
  | s m t l => exact hxv
  | _ => exact hxv.elim
 ·simp only [Ac]; exact hnd
 ·intro b hb
  simp only [Ac] at hb
  exact .inr (hb.elim (hbs b) (hHs b))
 ·intro b hb
  simp only [Ac]
  exact ⟨fun h1 => (h.st b hb).2.1 (hbs b h1), fun h1 => (h.st b hb).2.1 (hHs b h1)⟩
 ·exact fun z hz => h.hand z (List.mem_cons_of_mem _ hz)
theorem Rel.rootAlias {w : World} {g : Gh} {σ : St} {m : Mode} {t : Ty} {l : List (den t)} {y : Value} {bs : List Nat} {k : Nat} (hy : ∃ ad n c, y = .slice ad n c) :
  LfR w { g with hv := Bu g.hv k y, bl := Bu g.bl k bs } (σ.setM k ⟨.s m t l, 0, 0⟩).mem (.a (.cell k) 0 0 none) y [] := by
 refine ⟨rfl, hy, ⟨.s m t l, 0, 0⟩, by simp [Ib, St.mem_setM], Nat.le_refl _, Nat.le_refl _, fun _ => ⟨trivial, t, l.length, y, ?_, ?_, rfl⟩⟩
 ·simp [leafAt, St.mem_setM, lstOf]
 ·simp [hdrAt, Ac]
theorem Rel.setT {w : World} {g : Gh} {σ : St} {ts : Array Value} {H : Hand} (h : Rel w g σ ts H) {t : Nat} {x : A} {y : Value} (hx : AR w g σ.mem x y) :
  Rel w g (σ.setT t x) (ts.setIfInBounds t y) H := by
 refine ⟨h.mem, h.cell, h.inj, h.pres, ?_, by simp [St.setT, Ui, h.len], h.nd, h.dj, h.box, h.st, h.hnd, h.hdj, h.hand⟩
 intro q
 have hm : (σ.setT t x).mem = σ.mem := rfl
 rw [hm]
 simp only [St.tmp, St.setT, Jn]
 by_cases hq : q = t ∧ t < σ.ts.length
 ·rw [if_pos hq]
  obtain ⟨rfl, hlt⟩ := hq
  have : (ts.setIfInBounds q y).getD q undef = y := by
   rw [h.len] at hlt
   simp [Array.getD, hlt]
  rw [this]; exact hx
 ·rw [if_neg hq]
  have : (ts.setIfInBounds t y).getD q undef = ts.getD q undef := by
   by_cases hqt : q = t
   ·subst hqt
    have hge : ¬ q < ts.size := fun h' => hq ⟨rfl, by rw [h.len]; exact h'⟩
    simp [Array.getD, hge]
   ·simp only [Array.getD_eq_getD_getElem?]
    rw [Array.getElem?_setIfInBounds_ne (Ne.symm hqt)]
  rw [this]; exact h.tmps q
end Go.Rf
end

section
set_option linter.unusedVariables false
namespace Go.Rf
theorem run_bind {tab : Tab} {α β γ : Type} (q : α → Pg β) (k : β → St → Option γ) : ∀ (p : Pg α) (σ : St),
  (p.bind q).run tab σ k = p.run tab σ fun a σ' => (q a).run tab σ' k := by
 intro p
 induction p with
 | ret a => intro σ; rfl
 | fail => intro σ; rfl
 | getT t p ih => intro σ; simp only [Pg.bind, Pg.run, ih]
 | setT t x p ih => intro σ; simp only [Pg.bind, Pg.run, ih]
 | getM κ p ih => intro σ; simp only [Pg.bind, Pg.run, ih]
 | setM κ e p ih => intro σ; simp only [Pg.bind, Pg.run, ih]
 | br b p q ihp ihq => intro σ; simp only [Pg.bind, Pg.run, ihp, ihq]
 | brT t p q u ihp ihq ihu => intro σ; simp only [Pg.bind, Pg.run, ihp, ihq, ihu]
 | call f as p ih => intro σ; simp only [Pg.bind, Pg.run, ih]
section
variable {tab : Tab} {γ : Type} {σ : St} {r : γ}
theorem A2 {k : Nat} {K : Ent → St → Option γ} (h : (C1 k).run tab σ K = some r) : ∃ e, σ.mem k = some e ∧ K e σ = some r := by
 simp only [C1, Pg.run] at h
 cases hm : σ.mem k with
 | none => rw [hm] at h; simp [Pg.run] at h
 | some e => rw [hm] at h; exact ⟨e, rfl, h⟩
theorem An {b : Bool} {K : Unit → St → Option γ} (h : (C8 b).run tab σ K = some r) : b = true ∧ K () σ = some r := by
 cases b with
 | true => exact ⟨rfl, h⟩
 | false => simp [C8, Pg.run] at h
theorem Cm {b : Bool} {K : Unit → St → Option γ} (h : (N6 b).run tab σ K = some r) : b = true ∧ K () σ = some r := by
 cases b with
 | true => exact ⟨rfl, h⟩
 | false => simp [N6, Pg.run] at h
theorem E9 {α : Type} {b : Bool} {p q : Pg α} {K : α → St → Option γ} (h : (Pg.br b p q).run tab σ K = some r) :
  (b = true ∧ p.run tab σ K = some r) ∨ (b = false ∧ q.run tab σ K = some r) := by
 cases b with
 | true => exact .inl ⟨rfl, h⟩
 | false => exact .inr ⟨rfl, h⟩
end
def Own (g : Gh) (H : Hand) (b : Nat) : Prop := (∃ k, b ∈ g.bl k) ∨ b ∈ H.bs
structure Io (w w' : World) : Prop where
 os : w'.os = w.os
 tape : w'.tape = w.tape
 output : w'.output = w.output
theorem Io.refl (w : World) : Io w w := ⟨rfl, rfl, rfl⟩
theorem Io.trans {a b c : World} (h : Io a b) (h' : Io b c) : Io a c := ⟨h'.os.trans h.os, h'.tape.trans h.tape, h'.output.trans h.output⟩
structure Mv (w : World) (g : Gh) (σ : St) (H : Hand) (w' : World) (g' : Gh) (σ' : St) (H' : Hand) : Prop where
 st : Step w g σ.mem w' g' σ'.mem
 own : ∀ b, Own g' H' b → Own g H b ∨ w.heap.size ≤ b
 S : ∀ b, g'.S b → g.S b ∨ Own g H b ∨ w.heap.size ≤ b
 ad : ∀ k a, g'.ad k = some a → g.ad k = some a ∨ w.heap.size ≤ a.1
 sz : w.heap.size ≤ w'.heap.size
 io : Io w w'
theorem Step.trans {w1 w2 w3 : World} {g1 g2 g3 : Gh} {m1 m2 m3 : Mem} (h : Step w1 g1 m1 w2 g2 m2) (h' : Step w2 g2 m2 w3 g3 m3) : Step w1 g1 m1 w3 g3 m3 := by
 refine ⟨fun b hb => h'.S b (h.S b hb), fun k a ha => h'.ad k a (h.ad k a ha), fun k e he => ?_⟩
 obtain ⟨e2, he2, a0, a1, ha⟩ := h.key k e he
 obtain ⟨e3, he3, b0, b1, hb⟩ := h'.key k e2 he2
 refine ⟨e3, he3, Nat.le_trans a0 b0, Nat.le_trans a1 b1, fun hv z0 hz0 => ?_⟩
 have hv1 : e.v0 = e2.v0 := by omega
 have hv2 : e2.v0 = e3.v0 := by omega
 obtain ⟨x1, x2, x3⟩ := ha hv1 _ hz0
 obtain ⟨y1, y2, y3⟩ := hb hv2 _ x2
 refine ⟨y1.trans x1, y2, fun hw i c z hz hr => ?_⟩
 obtain ⟨u1, u2⟩ := x3 (by omega) i c z hz hr
 obtain ⟨t1, t2⟩ := y3 (by omega) i c z u1 (h.inR he he2 hv1 hr)
 exact ⟨t1, t2.trans u2⟩
theorem Mv.refl (w : World) (g : Gh) (σ : St) (H : Hand) : Mv w g σ H w g σ H :=
 ⟨Step.refl _ _ _, fun _ h => .inl h, fun _ h => .inl h, fun _ _ h => .inl h, Nat.le_refl _, Io.refl _⟩
theorem Mv.trans {w1 w2 w3 : World} {g1 g2 g3 : Gh} {s1 s2 s3 : St} {H1 H2 H3 : Hand} (h : Mv w1 g1 s1 H1 w2 g2 s2 H2) (h' : Mv w2 g2 s2 H2 w3 g3 s3 H3) :
  Mv w1 g1 s1 H1 w3 g3 s3 H3 := by
 have hs := h.sz
 refine ⟨h.st.trans h'.st, fun b hb => ?_, fun b hb => ?_, fun k a ha => ?_, Nat.le_trans h.sz h'.sz, h.io.trans h'.io⟩
 ·rcases h'.own b hb with h1 | h1
  ·exact h.own b h1
  ·exact .inr (by omega)
 ·rcases h'.S b hb with h1 | h1 | h1
  ·exact h.S b h1
  ·rcases h.own b h1 with h2 | h2
   ·exact .inr (.inl h2)
   ·exact .inr (.inr h2)
  ·exact .inr (.inr (by omega))
 ·rcases h'.ad k a ha with h1 | h1
  ·exact h.ad k a h1
  ·exact .inr (by omega)
theorem Rel.take2 {w : World} {g : Gh} {σ : St} {ts : Array Value} {H : Hand} (h : Rel w g σ ts H) {k : Nat} {m : Mode} {t : Ty} {l : List (den t)} {v0 v1 : Nat}
  {wi : Option (Nat × Nat)} {y : Value} (he : σ.mem k = some ⟨.s m t l, v0, v1⟩) (hm : m ≠ .rox) (hy : P8 (wd t) l.length wi (g.hv k) y) :
  ∃ bs g', Rel w g' (σ.setM k ⟨.d, v0 + 1, v1⟩) ts ((.s m t (Rf.win wi l), y, bs) :: H) ∧ Mv w g σ H w g' (σ.setM k ⟨.d, v0 + 1, v1⟩) ((.s m t (Rf.win wi l), y, bs) :: H) := by
 obtain ⟨bs, hs, hr⟩ := h.take he hm hy
 refine ⟨bs, _, hr, Step.bump he (by simp) (Nat.le_refl _) (fun _ h => h) (fun _ _ h => h) (fun _ _ => rfl), ?_, fun b hb => .inl hb, fun _ _ h => .inl h, Nat.le_refl _, Io.refl _⟩
 intro b hb
 left
 rcases hb with ⟨q, hq⟩ | hb
 ·by_cases hqk : q = k
  ·subst hqk; simp [Bu] at hq
  ·simp only [Bu, hqk, if_false] at hq; exact .inl ⟨q, hq⟩
 ·rw [Hand.bs_cons] at hb
  rcases List.mem_append.1 hb with hb | hb
  ·exact .inl ⟨k, hs b hb⟩
  ·exact .inr hb
theorem Rel.rehand {w : World} {g : Gh} {σ : St} {ts : Array Value} {H H' : Hand} (h : Rel w g σ ts H) (F : Nat → Prop)
  (hF : ∀ b, F b → (∀ k, b ∉ g.bl k) ∧ ¬ g.S b ∧ (∀ k o, g.ad k ≠ some (b, o)))
  (hFlt : ∀ b, F b → b < w.heap.size)
  (hs : ∀ b ∈ H'.bs, b ∈ H.bs ∨ F b) (hnd : H'.bs.Nodup)
  (hand : ∀ x ∈ H', LfV w (fun b => g.S b ∨ (b ∈ H.bs ∨ F b) ∧ b ∉ H'.bs) x.1 x.2.1 x.2.2) :
  Rel w { g with S := fun b => g.S b ∨ (b ∈ H.bs ∨ F b) ∧ b ∉ H'.bs } σ ts H' := by
 have hlt : ∀ b ∈ H.bs, b < w.heap.size := by
  intro b hb
  obtain ⟨x, hx, hb⟩ := List.mem_flatMap.1 hb
  exact (h.hand x hx).lt b hb
 have hst : Step w g σ.mem w { g with S := fun b => g.S b ∨ (b ∈ H.bs ∨ F b) ∧ b ∉ H'.bs } σ.mem := Step.world h (fun _ _ => rfl) (fun b hb => .inl hb) (fun _ _ h => h) rfl
 refine ⟨fun k e he => (h.mem k e he).step hst fun _ _ => rfl, h.cell, h.inj, h.pres, fun t => (h.tmps t).step hst fun _ _ => rfl, h.len, h.nd, h.dj, ?_, ?_, hnd, ?_, hand⟩
 ·intro k b o ha
  obtain ⟨h1, h2, h3⟩ := h.box k b o ha
  refine ⟨h1, fun hb => (hs b hb).elim h2 fun hf => (hF b hf).2.2 k o ha, ?_⟩
  rintro (h4 | ⟨h4 | h4, _⟩)
  ·exact h3 h4
  ·exact h2 h4
  ·exact (hF b h4).2.2 k o ha
 ·rintro b (hb | ⟨hb, hb'⟩)
  ·refine ⟨(h.st b hb).1, fun h4 => (hs b h4).elim (h.st b hb).2.1 fun hf => (hF b hf).2.1 hb, (h.st b hb).2.2⟩
  ·rcases hb with hb | hb
   ·exact ⟨fun k hk => h.hdj k b hk hb, hb', hlt b hb⟩
   ·exact ⟨(hF b hb).1, hb', hFlt b hb⟩
 ·intro k b hb hb'
  exact (hs b hb').elim (h.hdj k b hb) fun hf => (hF b hf).1 k hb
theorem Mv.rehand {w : World} {g : Gh} {σ : St} {ts : Array Value} {H H' : Hand} (h : Rel w g σ ts H) (F : Nat → Prop) {w0 : World} {g0 : Gh} {s0 : St} {H0 : Hand}
  (hF : ∀ b, F b → w0.heap.size ≤ b) (hs : ∀ b ∈ H'.bs, b ∈ H.bs ∨ F b) (hm : Mv w0 g0 s0 H0 w g σ H) :
  Mv w0 g0 s0 H0 w { g with S := fun b => g.S b ∨ (b ∈ H.bs ∨ F b) ∧ b ∉ H'.bs } σ H' := by
 have hst : Step w g σ.mem w { g with S := fun b => g.S b ∨ (b ∈ H.bs ∨ F b) ∧ b ∉ H'.bs } σ.mem := Step.world h (fun _ _ => rfl) (fun b hb => .inl hb) (fun _ _ h => h) rfl
 refine ⟨hm.st.trans hst, fun b hb => ?_, fun b hb => ?_, hm.ad, hm.sz, hm.io⟩
 ·rcases hb with ⟨k, hb⟩ | hb
  ·exact hm.own b (.inl ⟨k, hb⟩)
  ·rcases hs b hb with h1 | h1
   ·exact hm.own b (.inr h1)
   ·exact .inr (hF b h1)
 ·rcases hb with hb | ⟨hb | hb, _⟩
  ·exact hm.S b hb
  ·exact .inr (hm.own b (.inr hb))
  ·exact .inr (.inr (hF b hb))
theorem Rel.push {w : World} {g : Gh} {σ : St} {ts : Array Value} {H : Hand} (h : Rel w g σ ts H) {x : Leaf} {y : Value} (hx : LfV w g.S x y []) :
  Rel w g σ ts ((x, y, []) :: H) := by
 have hb : Hand.bs ((x, y, []) :: H) = H.bs := by rw [Hand.bs_cons]; rfl
 refine ⟨h.mem, h.cell, h.inj, h.pres, h.tmps, h.len, h.nd, h.dj, by rw [hb]; exact h.box, by rw [hb]; exact h.st, by rw [hb]; exact h.hnd, by rw [hb]; exact h.hdj, ?_⟩
 intro z hz
 rcases List.mem_cons.1 hz with rfl | hz
 ·exact hx
 ·exact h.hand z hz
theorem Mv.push (w : World) (g : Gh) (σ : St) (H : Hand) (x : Leaf) (y : Value) : Mv w g σ H w g σ ((x, y, []) :: H) :=
 ⟨Step.refl _ _ _, fun b hb => .inl (by unfold Own at *; rw [Hand.bs_cons] at hb; simpa using hb), fun _ h => .inl h, fun _ _ h => .inl h, Nat.le_refl _, Io.refl _⟩
theorem Rel.perm {w : World} {g : Gh} {σ : St} {ts : Array Value} {H H' : Hand} (h : Rel w g σ ts H) (hp : H.Perm H') : Rel w g σ ts H' := by
 have hb : (Hand.bs H).Perm (Hand.bs H') := hp.flatMap_right _
 refine ⟨h.mem, h.cell, h.inj, h.pres, h.tmps, h.len, h.nd, h.dj, fun k b o ha => ⟨(h.box k b o ha).1, fun h1 => (h.box k b o ha).2.1 (hb.mem_iff.2 h1), (h.box k b o ha).2.2⟩,
  fun b hs => ⟨(h.st b hs).1, fun h1 => (h.st b hs).2.1 (hb.mem_iff.2 h1), (h.st b hs).2.2⟩, hb.nodup_iff.1 h.hnd, fun k b h1 h2 => h.hdj k b h1 (hb.mem_iff.2 h2),
  fun x hx => h.hand x (hp.mem_iff.2 hx)⟩
theorem Mv.perm {w w' : World} {g g' : Gh} {σ σ' : St} {H H1 H2 : Hand} (h : Mv w g σ H w' g' σ' H1) (hp : H1.Perm H2) : Mv w g σ H w' g' σ' H2 := by
 have hb : (Hand.bs H1).Perm (Hand.bs H2) := hp.flatMap_right _
 exact ⟨h.st, fun b hb' => h.own b (hb'.imp id fun h => hb.mem_iff.2 h), h.S, h.ad, h.sz, h.io⟩
section
variable {tab : Tab} {γ : Type} {σ : St} {r : γ} {w : World} {g : Gh} {ts : Array Value} {H : Hand}
theorem Hy {m : Mode} (h : m.isOwn = true) : m ≠ .rox := by rintro rfl; cases h
theorem Fm (h : Rel w g σ ts H) {k v0 v1 : Nat} {wi : Option (Nat × Nat)} {y : Value} (hy : AOk w g σ.mem (.cell k) v0 v1 wi y)
  {K : Leaf → St → Option γ} (hr : (F4 k v0 wi).run tab σ K = some r) :
  ∃ x bs g' σ', K x σ' = some r ∧ Rel w g' σ' ts ((x, y, bs) :: H) ∧ Mv w g σ H w g' σ' ((x, y, bs) :: H) ∧ ∃ m t l, x = .s m t l := by
 simp only [F4, run_bind] at hr
 obtain ⟨e, he, hr⟩ := A2 hr
 obtain ⟨hv, hr⟩ := An hr
 obtain ⟨_, e2, he2, h0, h1, hc⟩ := hy
 simp only [Ib] at he2
 rw [he] at he2; cases he2
 obtain ⟨_, t', q, hh, r1, r2, r3⟩ := hc hv
 obtain ⟨ec, ev0, ev1⟩ := e
 cases ec with
 | s m t l =>
  simp only [leafAt, he, Option.map_some, Option.bind_some, lstOf, Option.some.injEq, Prod.mk.injEq] at r1
  obtain ⟨rfl, rfl⟩ := r1
  simp only [hdrAt, Option.some.injEq] at r2
  subst r2
  simp only at hr
  cases hm : m.isOwn with
  | true =>
   rw [hm] at hr
   simp only [cond_true, Pg.run] at hr
   obtain ⟨bs, g', h1, h2⟩ := h.take2 he (Hy hm) r3
   exact ⟨_, bs, g', _, hr, h1, h2, _, _, _, rfl⟩
  | false =>
   rw [hm] at hr
   simp only [cond_false, Pg.run] at hr
   have hmem : Rd w g.S (.sl t) m l [g.hv k] (g.bl k) := h.mem k _ he
   obtain ⟨y', hy', hs⟩ := (hmem.toRo : Rd w _ (.sl t) .ro l [g.hv k] [])
   simp only [List.cons.injEq, and_true] at hy'
   subst hy'
   obtain ⟨bs, hsub, hs'⟩ := hs.win (by simp) r3
   have hb : bs = [] := by simpa using hsub
   subst hb
   have hbl : g.bl k = [] := by
    obtain ⟨_, _, ad, c, _, _, _, hr0⟩ := hmem
    rcases hr0 with ⟨_, _, _, h4⟩ | ⟨_, _, _, _, _, _, hro, _⟩
    ·exact h4
    ·exact (hro hm).1
   refine ⟨_, [], g, σ, hr, h.push ?_, Mv.push _ _ _ _ _ _, _, _, _, rfl⟩
   refine Rd.imp (t := .sl t) (w := w) (S := fun b => g.S b ∨ b ∈ g.bl k) (fun b hb => ?_) ⟨_, rfl, hs'⟩ fun _ _ => rfl
   rcases hb with hb | hb
   ·exact hb
   ·rw [hbl] at hb; cases hb
 | _ => simp [Pg.run] at hr
theorem Sh {m m' : Mode} : ∀ {t : Ty} {x : den t} {i : Nat}, ((enc m t x)[i]?).bind lstOf = ((enc m' t x)[i]?).bind lstOf := by
 intro t
 induction t with
 | pair a b iha ihb =>
  intro x i
  simp only [enc]
  by_cases hi : i < wd a
  ·rw [List.getElem?_append_left (by rw [A8]; exact hi), List.getElem?_append_left (by rw [A8]; exact hi)]; exact iha
  ·rw [List.getElem?_append_right (by rw [A8]; omega), List.getElem?_append_right (by rw [A8]; omega), A8, A8]; exact ihb
 | sl e ih => intro x i; cases i <;> rfl
 | _ => intro x i; cases i <;> rfl
theorem Rel.freezeKey (h : Rel w g σ ts H) {k : Nat} {m : Mode} {t : Ty} {l : List (den t)} {v0 v1 : Nat} (he : σ.mem k = some ⟨.s m t l, v0, v1⟩) :
  ∃ g', Rel w g' (σ.setM k ⟨.s .ro t l, v0, v1⟩) ts H ∧ Mv w g σ H w g' (σ.setM k ⟨.s .ro t l, v0, v1⟩) H ∧ (∀ b ∈ g.bl k, g'.S b) ∧ (∀ q b, b ∈ g.bl q → b ∈ g'.bl q ∨ g'.S b) ∧ g'.hv = g.hv ∧ g'.ad = g.ad ∧ ∀ q, q ≠ k → g'.bl q = g.bl q := by
 have hrd : Rd w g.S (.sl t) m l [g.hv k] (g.bl k) := h.mem k _ he
 have hst : Step w g σ.mem w { g with bl := Bu g.bl k [], S := fun b => g.S b ∨ b ∈ g.bl k } (σ.setM k ⟨.s .ro t l, v0, v1⟩).mem := by
  refine ⟨fun b hb => .inl hb, fun _ _ h => h, fun q x hx => ?_⟩
  by_cases hq : q = k
  ·subst hq
   rw [he] at hx; cases hx
   refine ⟨⟨.s .ro t l, v0, v1⟩, by rw [St.mem_setM]; simp, Nat.le_refl _, Nat.le_refl _, fun _ z hz => ⟨rfl, hz, fun _ i c z' h1 h2 => ?_⟩⟩
   simp only [leafAt, he, hdrAt, St.mem_setM, if_true] at h1 ⊢
   refine ⟨?_, ?_⟩
   ·rw [Cc] at h1 ⊢
    rw [← h1]
    exact Sh
   ·cases g.hv q with
    | slice ad len cap => cases ad <;> rfl
    | _ => rfl
  ·refine ⟨x, by rw [St.mem_setM]; simp [hq, hx], Nat.le_refl _, Nat.le_refl _, fun _ z hz => ⟨rfl, hz, fun _ i c z' h1 h2 => ?_⟩⟩
   simp only [leafAt, hdrAt, St.mem_setM, hq, if_false] at h1 ⊢
   exact ⟨h1, trivial⟩
 refine ⟨{ g with bl := Bu g.bl k [], S := fun b => g.S b ∨ b ∈ g.bl k }, ?_, ⟨hst, ?_, ?_, fun _ _ h => .inl h, Nat.le_refl _, Io.refl _⟩, fun b hb => .inr hb, fun q b hb => ?_, rfl, rfl, fun q hq => Ax _ _ hq⟩
 ·refine h.setKey hst rfl (fun _ _ => rfl) (fun q hq => Ax _ _ hq) (fun _ _ _ => rfl) ?_ (fun b hb => ?_) ?_ ?_ ?_ ?_ (fun x hx => (h.hand x hx).imp (fun b hb => .inl hb) fun _ _ => rfl)
  ·simp only [Ac]; exact hrd.toRo
  ·exact hb.elim .inl fun hb => .inr (.inl hb)
  ·rintro b (hb | hb)
   ·exact (h.st b hb).2.2
   ·exact Ld hrd b hb
  ·simp only [Ac, List.nil_append]; exact h.hnd
  ·intro b hb; simp only [Ac] at hb; exact hb.elim (fun h => by cases h) .inr
  ·rintro b (hb | hb)
   ·exact ⟨by simp [Ac], (h.st b hb).2.1⟩
   ·exact ⟨by simp [Ac], h.hdj k b hb⟩
 ·rintro b (⟨q, hb⟩ | hb)
  ·by_cases hq : q = k
   ·subst hq; simp [Ac] at hb
   ·simp only [Ax _ _ hq] at hb; exact .inl (.inl ⟨q, hb⟩)
  ·exact .inl (.inr hb)
 ·rintro b (hb | hb)
  ·exact .inl hb
  ·exact .inr (.inl (.inl ⟨k, hb⟩))
 ·by_cases hq : q = k
  ·subst hq; exact .inr (.inr hb)
  ·exact .inl (by simp only [Ax _ _ hq]; exact hb)
theorem Rel.shareKey (h : Rel w g σ ts H) {k : Nat} {m : Mode} {t : Ty} {l : List (den t)} {v0 v1 : Nat} (he : σ.mem k = some ⟨.s m t l, v0, v1⟩) (hm : m.isOwn = true) :
  ∃ g', Rel w g' (σ.setM k ⟨.s .sown t l, v0, v1⟩) ts H ∧ Mv w g σ H w g' (σ.setM k ⟨.s .sown t l, v0, v1⟩) H ∧ g'.hv = g.hv := by
 have hrd : Rd w g.S (.sl t) m l [g.hv k] (g.bl k) := h.mem k _ he
 obtain ⟨bs', hsub, hr⟩ := hrd.weaken (m := .sown) hm (by simp) (h.nd k)
 have hst : Step w g σ.mem w { g with bl := Bu g.bl k bs', S := fun b => g.S b ∨ b ∈ g.bl k ∧ b ∉ bs' } (σ.setM k ⟨.s .sown t l, v0, v1⟩).mem := by
  refine ⟨fun b hb => .inl hb, fun _ _ h => h, fun q x hx => ?_⟩
  by_cases hq : q = k
  ·subst hq
   rw [he] at hx; cases hx
   refine ⟨⟨.s .sown t l, v0, v1⟩, by rw [St.mem_setM]; simp, Nat.le_refl _, Nat.le_refl _, fun _ z hz => ⟨rfl, hz, fun _ i c z' h1 h2 => ?_⟩⟩
   simp only [leafAt, he, hdrAt, St.mem_setM, if_true] at h1 ⊢
   refine ⟨?_, ?_⟩
   ·rw [Cc] at h1 ⊢
    rw [← h1]
    exact Sh
   ·cases g.hv q with
    | slice ad len cap => cases ad <;> rfl
    | _ => rfl
  ·refine ⟨x, by rw [St.mem_setM]; simp [hq, hx], Nat.le_refl _, Nat.le_refl _, fun _ z hz => ⟨rfl, hz, fun _ i c z' h1 h2 => ?_⟩⟩
   simp only [leafAt, hdrAt, St.mem_setM, hq, if_false] at h1 ⊢
   exact ⟨h1, trivial⟩
 refine ⟨{ g with bl := Bu g.bl k bs', S := fun b => g.S b ∨ b ∈ g.bl k ∧ b ∉ bs' }, ?_, ⟨hst, ?_, ?_, fun _ _ h => .inl h, Nat.le_refl _, Io.refl _⟩, rfl⟩
 ·refine h.setKey hst rfl (fun _ _ => rfl) (fun q hq => Ax _ _ hq) (fun _ _ _ => rfl) ?_ (fun b hb => ?_) ?_ ?_ ?_ ?_ (fun x hx => (h.hand x hx).imp (fun b hb => .inl hb) fun _ _ => rfl)
  ·simp only [Ac]; exact hr
  ·exact hb.elim .inl fun hb => .inr (.inl hb.1)
  ·rintro b (hb | hb)
   ·exact (h.st b hb).2.2
   ·exact Ld hrd b hb.1
  ·simp only [Ac]
   exact List.nodup_append.2 ⟨(h.nd k).sublist hsub, h.hnd, fun a ha b hb hab => h.hdj k a (hsub.subset ha) (hab ▸ hb)⟩
  ·intro b hb; simp only [Ac] at hb; exact hb.elim (fun h => .inl (hsub.subset h)) .inr
  ·rintro b (hb | hb)
   ·refine ⟨?_, (h.st b hb).2.1⟩
    simp only [Ac]
    exact fun hb' => (h.st b hb).1 k (hsub.subset hb')
   ·exact ⟨by simp only [Ac]; exact hb.2, h.hdj k b hb.1⟩
 ·rintro b (⟨q, hb⟩ | hb)
  ·by_cases hq : q = k
   ·subst hq; simp only [Ac] at hb; exact .inl (.inl ⟨_, hsub.subset hb⟩)
   ·simp only [Ax _ _ hq] at hb; exact .inl (.inl ⟨q, hb⟩)
  ·exact .inl (.inr hb)
 ·rintro b (hb | hb)
  ·exact .inl hb
  ·exact .inr (.inl (.inl ⟨k, hb.1⟩))
theorem Hr (h : Rel w g σ ts H) {k i v0 v1 : Nat} {m : Mode} {t : Ty} {l : List (den t)} (he : σ.mem k = some ⟨.s m t l, v0, v1⟩) (hi : i < l.length) :
  ∃ b o cap vs bss, g.hv k = .slice (some ⟨b, o, none⟩) l.length cap ∧ Cs w g.S (enc m.nest t (nthD l i (Be t))) vs bss ∧ vs.length = wd t ∧
   (∀ j, j < wd t → cellAt w b (o + i * wd t + j) = vs[j]?) ∧ (∀ q ∈ bss.flatten, q ∈ g.bl k) := by
 obtain ⟨y, hy, hs⟩ := (h.mem k _ he : Rd w g.S (.sl t) m l [g.hv k] (g.bl k))
 simp only [List.cons.injEq, and_true] at hy
 subst hy
 obtain ⟨ad, c, hy, hc, hx, hr⟩ := hs
 rcases hr with ⟨_, hl, _, _⟩ | ⟨b, o, bss, rfl, hlen, ho, hro, hh, hel⟩
 ·rw [hl] at hi; simp at hi
 have hib : i < bss.length := by omega
 obtain ⟨vs, hvs, hcell, hx'⟩ := hel i l[i] bss[i] (by simp) (List.getElem?_eq_getElem hi) (List.getElem?_eq_getElem hib)
 obtain ⟨bs2, hcs, hfl⟩ := hx'.cs
 have hn : nthD l i (Be t) = l[i] := by rw [Bw]; simp [List.getD, hi]
 refine ⟨b, o, c, vs, bs2, hy, by rw [hn]; exact hcs, hvs, hcell, fun q hq => ?_⟩
 have hq' : q ∈ bss.flatten := List.mem_flatten.2 ⟨_, List.getElem_mem hib, by rw [hfl]; exact hq⟩
 cases hm : m.isOwn with
 | true => rw [(ho hm).1]; exact List.mem_cons_of_mem _ hq'
 | false => rw [(hro hm).2.1] at hq'; cases hq'
theorem Pm {α : Type} {l : List α} {p : Int} {i : Nat} {x : α} (h : l[i]? = some x) : (Ec l p)[i]? = some (decide ((i : Int) < p), x) := by
 simp [Ec, List.getElem?_mapIdx, h]
theorem Bj {α : Type} {l : List α} {p : Int} : (Ec l p).length = l.length := by simp [Ec]
theorem q_hv (h : Rel w g σ ts H) {k i v0 v1 : Nat} {m : Mode} {t : Ty} {l : List (den t)} {p : Int} (he : σ.mem k = some ⟨.q m t l p, v0, v1⟩) (hi : i < l.length) :
  ∃ b o cap, g.hv k = .slice (some ⟨b, o, none⟩) l.length cap := by
 obtain ⟨ad, cp, hy, hcap, hx, hr⟩ := (h.mem k _ he : SlR w g.S (wd t) m none (fun z vs bs => QlR w g.S t m.nest z vs bs) (Ec l p) (g.hv k) (g.bl k))
 rw [Bj] at hy
 rcases hr with ⟨_, hl, _, _⟩ | ⟨b', o', bss0, rfl, hlen, ho, hro, hh, hel⟩
 ·have := congrArg List.length hl; rw [Bj] at this; simp at this; rw [this] at hi; simp at hi
 ·exact ⟨b', o', cp, hy⟩
theorem Xa7 (h : Rel w g σ ts H) {k i v0 v1 : Nat} {m : Mode} {t : Ty} {l : List (den t)} {p : Int} (he : σ.mem k = some ⟨.q m t l p, v0, v1⟩) (hi : i < l.length) (hp : decide ((i : Int) < p) = false) :
  ∃ b o cap vs bss, g.hv k = .slice (some ⟨b, o, none⟩) l.length cap ∧ Cs w g.S (enc m.nest t (nthD l i (Be t))) vs bss ∧ vs.length = wd t ∧
   (∀ j, j < wd t → cellAt w b (o + i * wd t + j) = vs[j]?) := by
 obtain ⟨ad, c, hy, hc, hx, hr⟩ := (h.mem k _ he : SlR w g.S (wd t) m none (fun z vs bs => QlR w g.S t m.nest z vs bs) (Ec l p) (g.hv k) (g.bl k))
 rw [Bj] at hy
 rcases hr with ⟨_, hl, _, _⟩ | ⟨b, o, bss, rfl, hlen, ho, hro, hh, hel⟩
 ·have := congrArg List.length hl; rw [Bj] at this; simp at this; rw [this] at hi; simp at hi
 rw [Bj] at hlen
 have hib : i < bss.length := by omega
 obtain ⟨vs, hvs, hcell, hx'⟩ := hel i _ bss[i] (by simp) (Pm (List.getElem?_eq_getElem hi)) (List.getElem?_eq_getElem hib)
 rw [hp] at hx'
 obtain ⟨bs2, hcs, hfl⟩ := (show Rd w g.S t m.nest l[i] vs bss[i] from hx').cs
 have hn : nthD l i (Be t) = l[i] := by rw [Bw]; simp [List.getD, hi]
 exact ⟨b, o, c, vs, bs2, hy, by rw [hn]; exact hcs, hvs, hcell⟩
theorem Xmu {m : Mode} : ∀ {t : Ty} {x : den t} {c : Nat} {n : Mode} {u : Ty} {l' : List (den u)}, (enc m t x)[c]? = some (.s n u l') → n = m := by
 intro t
 induction t with
 | pair a b iha ihb =>
  intro x c n u l' h1
  simp only [enc] at h1
  by_cases hp : c < (enc m a x.1).length
  ·rw [List.getElem?_append_left hp] at h1; exact iha h1
  ·rw [List.getElem?_append_right (by omega)] at h1; exact ihb h1
 | sl e _ => intro x c n u l' h1; cases c with
  | zero => simp [enc] at h1; exact h1.1.symm
  | succ c => simp [enc] at h1
 | _ => intro x c n u l' h1; cases c with
  | zero => simp [enc] at h1
  | succ c => simp [enc] at h1
theorem Mp (h : Rel w g σ ts H) {k e c v0 v1 : Nat} {wi : Option (Nat × Nat)} {y : Value} (hy : AOk w g σ.mem (.elem k e c) v0 v1 wi y)
  {K : Leaf → St → Option γ} (hr : (Np k e c v0 v1 wi).run tab σ K = some r) :
  ∃ x bs g' σ', K x σ' = some r ∧ Rel w g' σ' ts ((x, y, bs) :: H) ∧ Mv w g σ H w g' σ' ((x, y, bs) :: H) ∧ bs = [] := by
 simp only [Np, run_bind] at hr
 obtain ⟨x, hx, hr1⟩ := A2 hr
 obtain ⟨hv, hr2⟩ := An hr1
 clear hr hr1
 obtain ⟨_, x2, hx2, _, _, hch⟩ := hy
 simp only [Ib] at hx2
 rw [hx] at hx2; cases hx2
 obtain ⟨hin, t', q, hd, r1, r2, r3⟩ := hch hv
 obtain ⟨x0, t0, q0, hx0, hl0, hi0⟩ := hin
 rw [hx] at hx0; cases hx0
 obtain ⟨ec, ev0, ev1⟩ := x
 cases ec with
 | s m t l =>
  simp only [lstOf, Option.some.injEq, Prod.mk.injEq] at hl0
  obtain ⟨rfl, rfl⟩ := hl0
  simp only [run_bind] at hr2
  have key : ∃ g1 σ1, Rel w g1 σ1 ts H ∧ Mv w g σ H w g1 σ1 H ∧ g1.hv = g.hv ∧ (∃ m1, m1.nest = .ro ∧ σ1.mem k = some ⟨.s m1 t l, ev0, ev1⟩) ∧
    (match Dw (enc .ro t (nthD l e (Be t))) c with
     | some (Leaf.s _ u l') => Pg.ret (Leaf.s .ro u (win wi l'))
     | _ => .fail).run tab σ1 K = some r := by
   cases hm : m.isOwn with
   | true =>
    rw [hm] at hr2
    simp only [cond_true, Pg.run] at hr2
    obtain ⟨g1, h1, m1, e1⟩ := h.shareKey hx hm
    exact ⟨g1, _, h1, m1, e1, ⟨.sown, rfl, by rw [St.mem_setM]; simp⟩, hr2⟩
   | false =>
    rw [hm] at hr2
    simp only [cond_false, Pg.run] at hr2
    exact ⟨g, σ, h, Mv.refl _ _ _ _, rfl, ⟨m, by cases m <;> simp_all [Mode.isOwn, Mode.nest], hx⟩, hr2⟩
  obtain ⟨g1, σ1, h1, m1, ehv, ⟨mm, hmm, hx1⟩, hr3⟩ := key
  clear hr2
  split at hr3
  ·rename_i n u l' hc
   have hr := hr3
   clear hr3
   simp only [Pg.run] at hr
   rw [Cc] at hc
   have hn := Xmu hc
   subst hn
   obtain ⟨b, o, cap, vs, bss, a1, a2, a3, a4, a5⟩ := Hr h1 hx1 hi0
   rw [hmm] at a2
   obtain ⟨yv, qv, b1, b2, b3⟩ := G6 a2 hc
   have hcw : c < wd t := by rw [← A8 .ro t (nthD l e (Be t))]; exact (List.getElem?_eq_some_iff.1 hc).1
   have hyd : yv = hd := by
    rw [ehv] at a1
    simp only [hdrAt, a1, hx] at r2
    have h5 := a4 c hcw
    rw [r2, b1] at h5
    exact (Option.some.inj h5).symm
   subst hyd
   have hlt : (some (t', q) : Option (Ty × Nat)) = some (u, l'.length) := by
    rw [← r1]
    simp only [leafAt, hx, Cc]
    rw [Sh (m' := .ro), hc]
    rfl
   simp only [Option.some.injEq, Prod.mk.injEq] at hlt
   obtain ⟨rfl, rfl⟩ := hlt
   obtain ⟨y', hy', hs⟩ := (Rd.toRo (t := .sl t') b3 : Rd w _ (.sl t') .ro l' [yv] [])
   simp only [List.cons.injEq, and_true] at hy'
   subst hy'
   obtain ⟨bs, hsub, hs'⟩ := hs.win (by simp) r3
   have hb : bs = [] := by simpa using hsub
   subst hb
   have hq0 : qv = [] := by
    obtain ⟨_, _, ad, c2, _, _, _, hr0⟩ := (b3 : Rd w g1.S (.sl t') .ro l' [yv] qv)
    rcases hr0 with ⟨_, _, _, h4⟩ | ⟨_, _, _, _, _, _, hro, _⟩
    ·exact h4
    ·exact (hro rfl).1
   refine ⟨_, [], g1, σ1, hr, h1.push ?_, m1.trans (Mv.push _ _ _ _ _ _), rfl⟩
   refine Rd.imp (t := .sl t') (w := w) (S := fun b => g1.S b ∨ b ∈ qv) (fun b hb => ?_) ⟨_, rfl, hs'⟩ fun _ _ => rfl
   rcases hb with hb | hb
   ·exact hb
   ·rw [hq0] at hb; cases hb
  ·simp [Pg.run] at hr3
 | _ => simp [Pg.run] at hr2
theorem Ca (h : Rel w g σ ts H) {x : Leaf} {y : Value} (hx : LfR w g σ.mem x y [])
  {K : Leaf → St → Option γ} (hr : (resolve x).run tab σ K = some r) :
  ∃ x' bs g' σ', K x' σ' = some r ∧ Rel w g' σ' ts ((x', y, bs) :: H) ∧ Mv w g σ H w g' σ' ((x', y, bs) :: H) := by
 cases x with
 | v z => exact ⟨.v z, [], g, σ, hr, h.push hx, Mv.push _ _ _ _ _ _⟩
 | s m t l => exact ⟨.s m t l, [], g, σ, hr, h.push hx, Mv.push _ _ _ _ _ _⟩
 | a p v0 v1 wi =>
  cases p with
  | cell k =>
   obtain ⟨x', bs, g', σ', h1, h2, h3, _⟩ := Fm h hx.2 hr
   exact ⟨x', bs, g', σ', h1, h2, h3⟩
  | elem k e c =>
   obtain ⟨x', bs, g', σ', h1, h2, h3, _⟩ := Mp h hx.2 hr
   exact ⟨x', bs, g', σ', h1, h2, h3⟩
 | _ => simp [resolve, Pg.run] at hr
def hz : List Leaf → List Value → List (List Nat) → Hand
 | x :: xs, y :: ys, b :: bs => (x, y, b) :: hz xs ys bs
 | _, _, _ => []
theorem LsR.tail {mem : Mem} {x : Leaf} {xs : List Leaf} {y : Value} {ys : List Value} (h : LsR w g mem (x :: xs) (y :: ys)) : LfR w g mem x y [] ∧ LsR w g mem xs ys :=
 ⟨h.2 0 x y rfl rfl, by simpa using h.1, fun i a z h1 h2 => h.2 (i + 1) a z (by simpa using h1) (by simpa using h2)⟩
theorem Cu : ∀ {xs : List Leaf} {ys : List Value} {g : Gh} {σ : St} {H : Hand} (h : Rel w g σ ts H) (hx : LsR w g σ.mem xs ys)
  {K : List Leaf → St → Option γ} (hr : (Pg.mapL resolve xs).run tab σ K = some r),
  ∃ xs' bss g' σ', K xs' σ' = some r ∧ xs'.length = xs.length ∧ bss.length = xs.length ∧ Rel w g' σ' ts (hz xs' ys bss ++ H) ∧ Mv w g σ H w g' σ' (hz xs' ys bss ++ H)
 | [], ys, g, σ, H, h, hx, K, hr => ⟨[], [], g, σ, hr, rfl, rfl, h, Mv.refl _ _ _ _⟩
 | x :: xs, ys, g, σ, H, h, hx, K, hr => by
  match ys, hx with
  | [], hx => have := hx.1; simp at this
  | y :: ys, hx =>
   simp only [Pg.mapL, run_bind] at hr
   obtain ⟨hx1, hx2⟩ := hx.tail
   obtain ⟨x', b, g1, σ1, hr, h1, m1⟩ := Ca h hx1 hr
   obtain ⟨xs', bss, g2, σ2, hr, l1, l2, h2, m2⟩ := Cu h1 (hx2.step m1.st fun _ _ => rfl) hr
   have hp : (hz xs' ys bss ++ ((x', y, b) :: H)).Perm (hz (x' :: xs') (y :: ys) (b :: bss) ++ H) := by
    simp only [hz, List.cons_append]
    exact List.perm_middle
   exact ⟨x' :: xs', b :: bss, g2, σ2, hr, by simp [l1], by simp [l2], h2.perm hp, (m1.trans m2).perm hp⟩
theorem Sr {S : Nat → Prop} : ∀ {xs : List Leaf} {ys : List Value} {bss : List (List Nat)}, xs.length = ys.length → bss.length = ys.length →
  (∀ z ∈ hz xs ys bss, LfV w S z.1 z.2.1 z.2.2) → Cs w S xs ys bss
 | [], [], [], _, _, _ => trivial
 | x :: xs, y :: ys, b :: bss, h1, h2, h => ⟨h (x, y, b) (by simp [hz]), Sr (by simpa using h1) (by simpa using h2) fun z hz' => h z (by simp [hz, hz'])⟩
 | [], _ :: _, _, h, _, _ => by simp at h
 | _ :: _, [], _, h, _, _ => by simp at h
 | _ :: _, _ :: _, [], _, h, _ => by simp at h
 | [], [], _ :: _, _, h, _ => by simp at h
theorem Un : ∀ {xs : List Leaf} {ys : List Value} {bss : List (List Nat)}, xs.length = ys.length → bss.length = ys.length → Hand.bs (hz xs ys bss) = bss.flatten
 | [], [], [], _, _ => rfl
 | x :: xs, y :: ys, b :: bss, h1, h2 => by simp only [hz, Hand.bs_cons, List.flatten_cons]; rw [Un (by simpa using h1) (by simpa using h2)]
 | [], _ :: _, _, h, _ => by simp at h
 | _ :: _, [], _, h, _ => by simp at h
 | _ :: _, _ :: _, [], _, h => by simp at h
 | [], [], _ :: _, _, h => by simp at h
end
end Go.Rf
end

section
set_option linter.unusedVariables false
namespace Go.Rf
theorem C4 {w : World} {S : Nat → Prop} {t : Ty} {m : Mode} {l : List (den t)} {vs : List Value} {bs : List Nat} (h : Rd w S (.sl t) m l vs bs)
  (hm : m.isOwn = false) : bs = [] := by
 obtain ⟨_, _, ad, c, _, _, _, hr⟩ := h
 rcases hr with ⟨_, _, _, h4⟩ | ⟨_, _, _, _, _, _, hro, _⟩
 ·exact h4
 ·exact (hro hm).1
theorem Br {w : World} {S : Nat → Prop} {t : Ty} {m : Mode} {l : List (den t)} {y : Value} {bs : List Nat} (h : Rd w S (.sl t) m l [y] bs) :
  ∃ ad c, y = .slice ad l.length c := by
 obtain ⟨y', hy, ad, c, h1, _⟩ := h
 simp only [List.cons.injEq, and_true] at hy
 subst hy
 exact ⟨ad, c, h1⟩
section
variable {w : World} {g : Gh} {σ : St} {ts : Array Value} {H : Hand}
theorem Xee (h : Rel w g σ ts H) {k : Nat} {e : Ent} (he : σ.mem k = some e) : LfR w g σ.mem (Tx (.cell k) e) (g.hv k) [] := by
 obtain ⟨c, v0, v1⟩ := e
 have hm := h.mem k _ he
 cases c with
 | v x => exact ⟨hm.1, rfl⟩
 | s m t l =>
  have hr : Rd w g.S (.sl t) m l [g.hv k] (g.bl k) := hm
  simp only [Tx]
  cases hmo : m.isOwn with
  | true =>
   simp only [cond_true]
   obtain ⟨ad, c, hy⟩ := Br hr
   exact ⟨rfl, ⟨ad, _, c, hy⟩, _, he, Nat.le_refl _, Nat.le_refl _, fun _ => ⟨trivial, t, l.length, g.hv k, by simp [leafAt, he, lstOf], rfl, rfl⟩⟩
  | false =>
   simp only [cond_false]
   rw [C4 hr hmo] at hr
   exact hr
 | h m t l e c => rfl
 | q m t l p => rfl
 | a p u0 u1 wi => exact ⟨rfl, hm.2⟩
 | ptr p n u => exact ⟨rfl, hm.2⟩
 | fn f cs => exact ⟨rfl, hm.2⟩
 | it f t l n => exact ⟨rfl, hm.2⟩
 | d => rfl
theorem Xjl {tab : Tab} {γ : Type} {r : γ} (h : Rel w g σ ts H) : ∀ {n k : Nat} {K : List Leaf → St → Option γ}, (Xit k n).run tab σ K = some r →
  ∃ ys, K ys σ = some r ∧ ys.length = n ∧ ∀ i x, ys[i]? = some x → LfR w g σ.mem x (g.hv (k + i)) [] := by
 intro n
 induction n with
 | zero => intro k K hr; exact ⟨[], hr, rfl, fun i x hx => by simp at hx⟩
 | succ n ih =>
  intro k K hr
  simp only [Xit, run_bind] at hr
  obtain ⟨e, he, hr⟩ := A2 hr
  obtain ⟨ys, hr, hl, hy⟩ := ih hr
  refine ⟨_, hr, by simp [hl], fun i x hx => ?_⟩
  cases i with
  | zero => simp at hx; subst hx; exact Xee h he
  | succ i =>
   have := hy i x (by simpa using hx)
   rwa [show k + (i + 1) = k + 1 + i by omega]
theorem Nv (k e v0 v1 : Nat) : ∀ (c : Nat) (xs : List Leaf) (i : Nat), (Dy k e v0 v1 c xs)[i]? = (xs[i]?).map fun y => Tx (.elem k e (c + i)) ⟨y, v0, v1⟩
 | c, [], i => by simp [Dy]
 | c, y :: r, 0 => by simp [Dy]
 | c, y :: r, i + 1 => by
  simp only [Dy, List.getElem?_cons_succ, Nv k e v0 v1 (c + 1) r i]
  rw [show c + 1 + i = c + (i + 1) by omega]
theorem Ha (k e v0 v1 : Nat) : ∀ (c : Nat) (xs : List Leaf), (Dy k e v0 v1 c xs).length = xs.length
 | c, [] => rfl
 | c, y :: r => by simp [Dy, Ha k e v0 v1 (c + 1) r]
theorem Xe5 (h : Rel w g σ ts H) {k i c v0 v1 : Nat} {m : Mode} {t : Ty} {l : List (den t)} (he : σ.mem k = some ⟨.s m t l, v0, v1⟩) (hi : i < l.length)
  {x : Leaf} {y : Value} {q : List Nat} {b o cap : Nat} (hh : g.hv k = .slice (some ⟨b, o, none⟩) l.length cap)
  (hx : (enc m.nest t (nthD l i (Be t)))[c]? = some x) (hy : cellAt w b (o + i * wd t + c) = some y) (hl : LfV w g.S x y q) :
  LfR w g σ.mem (Tx (.elem k i c) ⟨x, v0, v1⟩) y [] := by
 cases x with
 | v z => exact ⟨hl.1, rfl⟩
 | s n u l' =>
  have hr : Rd w g.S (.sl u) n l' [y] q := hl
  simp only [Tx]
  cases hmo : n.isOwn with
  | true =>
   simp only [cond_true]
   obtain ⟨ad, c', hy'⟩ := Br hr
   refine ⟨rfl, ⟨ad, _, c', hy'⟩, _, he, Nat.le_refl _, Nat.le_refl _, fun _ => ⟨⟨_, t, l.length, he, rfl, hi⟩, u, l'.length, y, ?_, ?_, rfl⟩⟩
   ·simp [leafAt, he, Cc, hx, lstOf]
   ·simp [hdrAt, hh, he, hy]
  | false =>
   simp only [cond_false]
   rw [C4 hr hmo] at hr
   exact hr
 | _ => exact hl.elim
theorem Xbf {tab : Tab} {γ : Type} {r : γ} (h : Rel w g σ ts H) {p : Loc} {n n0 v0 : Nat} {y : Value} (hp : POk g σ.mem p n0 v0 y) (hn : n ≤ n0)
  {K : List Leaf → St → Option γ} (hr : (W8 p v0 n).run tab σ K = some r) :
  ∃ ys vs b o, K ys σ = some r ∧ ys.length = n ∧ vs.length = n ∧ (0 < n → y = .pointer (some ⟨b, o, none⟩)) ∧ LsR w g σ.mem ys vs ∧ ∀ j v, vs[j]? = some v → cellAt w b (o + j) = some v := by
 cases p with
 | cell k =>
  obtain ⟨b, o, hy, had⟩ := hp
  obtain ⟨ys, hr, hl, hys⟩ := Xjl h hr
  refine ⟨ys, (List.range n).map fun j => g.hv (k + j), b, o, hr, hl, by simp, fun _ => hy, ⟨by simp [hl], fun i x z hx hz => ?_⟩, fun j v hv => ?_⟩
  ·have := hys i x hx
   simp only [List.getElem?_map] at hz
   have hi : i < n := by rw [← hl]; exact (List.getElem?_eq_some_iff.1 hx).1
   rw [List.getElem?_range hi] at hz
   simp at hz
   subst hz
   exact this
  ·have hj : j < n := by have := (List.getElem?_eq_some_iff.1 hv).1; simpa using this
   rw [List.getElem?_map, List.getElem?_range hj] at hv
   simp at hv
   subst hv
   exact (h.cell _ _ _ (had j (by omega))).1
 | elem k i c =>
  simp only [W8, run_bind] at hr
  obtain ⟨e, he, hr⟩ := A2 hr
  obtain ⟨hv, hr⟩ := An hr
  obtain ⟨_, x, hx, h0, hc⟩ := hp
  rw [he] at hx; cases hx
  obtain ⟨t', q, a, len, cap, r1, r2, r3, r4, r5⟩ := hc (Nat.eq_of_beq_eq_true hv)
  obtain ⟨ec, ev0, ev1⟩ := e
  cases ec with
  | s m t l =>
   simp only [lstOf, Option.some.injEq, Prod.mk.injEq] at r1
   obtain ⟨rfl, rfl⟩ := r1
   simp only [Pg.run] at hr
   obtain ⟨b, o, cap', vs, bss, hh, hcs, hvl, hcell, _⟩ := Hr h he r2
   rw [hh] at r4
   simp only [Value.slice.injEq, Option.some.injEq, Addr.mk.injEq, and_true] at r4
   obtain ⟨⟨hb, ho⟩, _, _⟩ := r4
   obtain ⟨hle, _⟩ := Ji hcs
   have hel := A8 m.nest t (nthD l i (Be t))
   refine ⟨_, (vs.drop c).take n, b, o + i * wd t + c, hr, ?_, ?_, fun _ => by rw [r5, ← hb, ← ho], ⟨?_, ?_⟩, ?_⟩
   ·rw [Ha]; simp [hel]; omega
   ·simp [hvl]; omega
   ·rw [Ha]; simp [hel, hvl]
   ·intro j x z hx hz
    rw [Nv] at hx
    have hjn : j < n := by have := (List.getElem?_eq_some_iff.1 hz).1; simp at this; omega
    rw [List.getElem?_take_of_lt hjn, List.getElem?_drop] at hx hz
    cases hxx : (enc m.nest t (nthD l i (Be t)))[c + j]? with
    | none => rw [hxx] at hx; simp at hx
    | some x0 =>
     rw [hxx] at hx
     simp only [Option.map_some, Option.some.injEq] at hx
     subst hx
     obtain ⟨y0, q0, hy0, _, hlv⟩ := G6 hcs hxx
     rw [hz] at hy0; cases hy0
     have hlt : c + j < wd t := by rw [← hel]; exact (List.getElem?_eq_some_iff.1 hxx).1
     exact Xe5 h he r2 hh hxx (by rw [hcell _ hlt]; exact hz) hlv
   ·intro j v hv
    have hjn : j < n := by have := (List.getElem?_eq_some_iff.1 hv).1; simp at this; omega
    rw [List.getElem?_take_of_lt hjn, List.getElem?_drop] at hv
    have hlt : c + j < wd t := by rw [← hvl]; exact (List.getElem?_eq_some_iff.1 hv).1
    rw [← hv, ← hcell _ hlt]
    congr 1
    omega
  | q m t l p =>
   simp only [lstOf, Option.some.injEq, Prod.mk.injEq] at r1
   obtain ⟨rfl, rfl⟩ := r1
   simp only [run_bind] at hr
   obtain ⟨hp, hr1⟩ := Cm hr
   obtain ⟨hall, hr2⟩ := An hr1
   simp only [Pg.run] at hr2
   simp only [Bool.not_eq_true'] at hp
   obtain ⟨b, o, cap', vs, bss, hh, hcs, hvl, hcell⟩ := Xa7 h he r2 hp
   rw [hh] at r4
   simp only [Value.slice.injEq, Option.some.injEq, Addr.mk.injEq, and_true] at r4
   obtain ⟨⟨hb, ho⟩, _, _⟩ := r4
   have hel := A8 m.nest t (nthD l i (Be t))
   refine ⟨_, (vs.drop c).take n, b, o + i * wd t + c, hr2, ?_, ?_, fun _ => by rw [r5, ← hb, ← ho], ⟨?_, ?_⟩, ?_⟩
   ·simp [hel]; omega
   ·simp [hvl]; omega
   ·simp [hel, hvl]
   ·intro j x z hx hz
    have hjn : j < n := by have := (List.getElem?_eq_some_iff.1 hz).1; simp at this; omega
    have hv := List.all_eq_true.1 hall x (List.mem_of_getElem? hx)
    rw [List.getElem?_take_of_lt hjn, List.getElem?_drop] at hx hz
    obtain ⟨y0, q0, hy0, _, hlv⟩ := G6 hcs hx
    rw [hz] at hy0; cases hy0
    cases x with
    | v x0 => exact ⟨hlv.1, rfl⟩
    | _ => simp [isV] at hv
   ·intro j v hv
    have hjn : j < n := by have := (List.getElem?_eq_some_iff.1 hv).1; simp at this; omega
    rw [List.getElem?_take_of_lt hjn, List.getElem?_drop] at hv
    have hlt : c + j < wd t := by rw [← hvl]; exact (List.getElem?_eq_some_iff.1 hv).1
    rw [← hv, ← hcell _ hlt]
    congr 1
    omega
  | _ => simp [Pg.run] at hr
theorem Pi {tab : Tab} {γ : Type} {r : γ} (h : Rel w g σ ts H) {x : Leaf} {y : Value} (hx : LfR w g σ.mem x y [])
  {K : Leaf → St → Option γ} (hr : (I2 x).run tab σ K = some r) :
  ∃ x', K x' σ = some r ∧ ((∃ z, x' = .v z ∧ y = z) ∨ ∃ m t l, x' = .s m t l ∧ Rd w (fun b => g.S b ∨ ∃ p v0 v1 wi, x = .a p v0 v1 wi ∧ b ∈ g.bl (Ib p)) (.sl t) m l [y] []) := by
 cases x with
 | v z => exact ⟨_, hr, .inl ⟨z, rfl, hx.1⟩⟩
 | s m t l => exact ⟨_, hr, .inr ⟨m, t, l, rfl, Rd.imp (t := .sl t) (fun b hb => .inl hb) hx fun _ _ => rfl⟩⟩
 | a p v0 v1 wi =>
  simp only [I2, run_bind] at hr
  obtain ⟨_, _, e, he, h0, h1, hc⟩ := hx
  cases p with
  | cell k =>
   simp only [Hl] at hr
   obtain ⟨e', he', hr⟩ := A2 hr
   simp only [Ib] at he
   rw [he] at he'; cases he'
   obtain ⟨hv, hr⟩ := An hr
   obtain ⟨_, t', q, hh, r1, r2, r3⟩ := hc hv
   obtain ⟨ec, ev0, ev1⟩ := e
   cases ec with
   | s m t l =>
    simp only [leafAt, he, Option.map_some, Option.bind_some, lstOf, Option.some.injEq, Prod.mk.injEq] at r1
    obtain ⟨rfl, rfl⟩ := r1
    simp only [hdrAt, Option.some.injEq] at r2
    subst r2
    refine ⟨_, hr, .inr ⟨.ro, t, _, rfl, ?_⟩⟩
    have hmem : Rd w g.S (.sl t) m l [g.hv k] (g.bl k) := h.mem k _ he
    obtain ⟨y', hy', hs⟩ := hmem.toRo
    simp only [List.cons.injEq, and_true] at hy'
    subst hy'
    obtain ⟨bs, hsub, hs'⟩ := hs.win (by simp) r3
    have hb : bs = [] := by simpa using hsub
    subst hb
    exact Rd.imp (t := .sl t) (fun b hb => hb.imp id fun h => ⟨_, _, _, _, rfl, h⟩) ⟨_, rfl, hs'⟩ fun _ _ => rfl
   | v z => simp [leafAt, he, lstOf] at r1
   | h m t l e c => simp [Pg.run] at hr
   | _ => simp [Pg.run] at hr
  | elem k i c =>
   simp only [Hl, run_bind] at hr
   obtain ⟨e', he', hr⟩ := A2 hr
   simp only [Ib] at he
   rw [he] at he'; cases he'
   obtain ⟨ec, ev0, ev1⟩ := e
   cases ec with
   | s m t l =>
    simp only at hr
    cases hn : Dw (enc m.nest t (nthD l i (Be t))) c with
    | none => rw [hn] at hr; simp [Pg.run] at hr
    | some y0 =>
     rw [hn] at hr
     simp only [Pg.run] at hr
     obtain ⟨hv, hr⟩ := An hr
     obtain ⟨hin, t', q, hh, r1, r2, r3⟩ := hc hv
     obtain ⟨x', t2, q2, hx', hl2, hi⟩ := hin
     rw [he] at hx'; cases hx'
     simp only [lstOf, Option.some.injEq, Prod.mk.injEq] at hl2
     obtain ⟨rfl, rfl⟩ := hl2
     obtain ⟨b, o, cap', vs, bss, hhv, hcs, hvl, hcell, hbl⟩ := Hr h he hi
     have hx0 : (enc m.nest t (nthD l i (Be t)))[c]? = some y0 := by rw [← Cc]; exact hn
     obtain ⟨y1, q1, hy1, hq1, hlv⟩ := G6 hcs hx0
     have hlt : c < wd t := by rw [← A8 m.nest t (nthD l i (Be t))]; exact (List.getElem?_eq_some_iff.1 hx0).1
     simp only [leafAt, he, hn, Option.bind_some] at r1
     simp only [hdrAt, hhv, he, hcell c hlt, hy1, Option.some.injEq] at r2
     subst r2
     cases y0 with
     | s n u l' =>
      simp only [lstOf, Option.some.injEq, Prod.mk.injEq] at r1
      obtain ⟨rfl, rfl⟩ := r1
      refine ⟨_, hr, .inr ⟨.ro, u, _, rfl, ?_⟩⟩
      have hr2 : Rd w g.S (.sl u) n l' [y1] q1 := hlv
      obtain ⟨y', hy', hs⟩ := hr2.toRo
      simp only [List.cons.injEq, and_true] at hy'
      subst hy'
      obtain ⟨bs, hsub, hs'⟩ := hs.win (by simp) r3
      have hb : bs = [] := by simpa using hsub
      subst hb
      refine Rd.imp (t := .sl u) (fun b hb => hb.imp id fun h => ⟨_, _, _, _, rfl, hbl b ?_⟩) ⟨_, rfl, hs'⟩ fun _ _ => rfl
      exact List.mem_flatten.2 ⟨_, List.mem_of_getElem? hq1, h⟩
     | v z => simp [lstOf] at r1
     | _ => exact hlv.elim
   | _ => simp [Pg.run] at hr
 | _ => simp [I2, Pg.run] at hr
theorem Ns {tab : Tab} {γ : Type} {r : γ} (h : Rel w g σ ts H) {x : Leaf} {y : Value} (hx : LfR w g σ.mem x y [])
  {K : Leaf → St → Option γ} (hr : (I2 x).run tab σ K = some r) :
  ∃ x', K x' σ = some r ∧ ((∃ z, x' = .v z ∧ y = z) ∨ ∃ m t l, x' = .s m t l ∧ Rd w (fun b => g.S b ∨ Own g [] b) (.sl t) m l [y] []) := by
 obtain ⟨x', h1, h2⟩ := Pi h hx hr
 refine ⟨x', h1, h2.imp id ?_⟩
 rintro ⟨m, t, l, rfl, hrd⟩
 refine ⟨m, t, l, rfl, Rd.imp (t := .sl t) (fun b hb => hb.imp id ?_) hrd fun _ _ => rfl⟩
 rintro ⟨p, v0, v1, wi, _, hb⟩
 exact .inl ⟨_, hb⟩
end
end Go.Rf
end

section
set_option linter.unusedVariables false
set_option linter.unusedSimpArgs false
namespace Go.Rf
def zv : Ty → List Value
 | .int k => [.int k 0]
 | .bool => [.bool false]
 | .str => [.string ⟨#[]⟩]
 | .sl _ => [.slice none 0 0]
 | .pair a b => zv a ++ zv b
def aggD : TypeDesc → Bool
 | .struct _ | .array _ _ => true
 | _ => false
structure TyOk (P : Program) (t : Nat) (i : TyI) : Prop where
 info : ∃ f, P.info? t = some f ∧ f.size = wd i.ty ∧ ∃ z, f.zero = some z ∧ z.cells.toList = zv i.ty
 agg : ∃ d, P.underlying t = some d ∧ aggD d = i.agg
 int : ∀ k, i.ty = .int k → i.agg = false → P.underlying t = some (.int k)
 bool : i.ty = .bool → i.agg = false → P.underlying t = some .bool
 str : i.ty = .str → i.agg = false → P.underlying t = some .string
 sl : ∀ e, i.ty = .sl e → i.agg = false → ∃ te f, P.underlying t = some (.slice te) ∧ P.info? te = some f ∧ f.size = wd e ∧ f.bytes = i.eb ∧ ∃ z, f.zero = some z ∧ z.cells.toList = zv e
 slI : ∀ k, i.ty = .sl (.int k) → i.agg = false → ∃ te, P.underlying t = some (.slice te) ∧ P.underlying te = some (.int k)
structure FldOk (P : Program) (s f : Nat) (o n : Nat) (g : Bool) : Prop where
 ok : ∃ fs fd i d, P.underlying s = some (.struct fs) ∧ fs[f]? = some fd ∧ fd.offset = o ∧ P.info? fd.type = some i ∧ i.size = n ∧ n ≠ 0 ∧ P.underlying fd.type = some d ∧ aggD d = g
def ObjLike (p : Nat → Prop) (o1 o2 : Option Obj) : Prop :=
 o1 = o2 ∨ ∃ c1 c2 te fz, o1 = some (.cells c1 te fz) ∧ o2 = some (.cells c2 te fz) ∧ c1.size = c2.size ∧ ∀ j, ¬ p j → c1[j]? = c2[j]?
def Frm (w : World) (g : Gh) (w' : World) : Prop :=
 ∀ b, b < w.heap.size → ¬ Own g [] b → ObjLike (fun o => ∃ k, g.ad k = some (b, o)) w.heap[b]? w'.heap[b]?
theorem Frm.refl (w : World) (g : Gh) : Frm w g w := fun b _ _ => .inl rfl
def Out (P : Program) (w : World) (g : Gh) (σ : St) (ts : Array Value) (x : A) (σ' : St) : Result Next → Prop
 | .ok (.value v) w' => ∃ g', Rel w' g' σ' ts [] ∧ AR w' g' σ'.mem x v ∧ Mv w g σ [] w' g' σ' [] ∧ Frm w g w'
 | .ok .skip w' => ∃ g', Rel w' g' σ' ts [] ∧ AR w' g' σ'.mem x undef ∧ Mv w g σ [] w' g' σ' [] ∧ Frm w g w'
 | .ok (.enter f args) w' => Calls P f args w' fun e w'' => ∃ v, e = .returned v ∧ ∃ g', Rel w'' g' σ' ts [] ∧ AR w'' g' σ'.mem x v ∧
   Mv w g σ [] w'' g' σ' [] ∧ Frm w g w''
 | _ => False
section
variable {P : Program} {w : World} {g : Gh} {σ : St} {ts : Array Value} {tab : Tab} {γ : Type} {r : γ}
theorem Out.same (h : Rel w g σ ts []) {x : A} {v : Value} (hx : AR w g σ.mem x v) : Out P w g σ ts x σ (.ok (.value v) w) :=
 ⟨g, h, hx, Mv.refl _ _ _ _, Frm.refl _ _⟩
theorem A9 {a : Act} {H : Hand} (h : Rel w g σ a.tmps H) {x : Operand} {K : A → St → Option γ} (hr : (Mc x).run tab σ K = some r) :
  ∃ v, K v σ = some r ∧ AR w g σ.mem v (a.eval x) := by
 cases x with
 | tmp t => exact ⟨_, hr, h.tmps t⟩
 | const v =>
  cases v with
  | agg cs =>
   refine ⟨_, hr, cs.toList, by simp [Act.eval], by simp, fun i x z hx hz => ?_⟩
   simp only [List.getElem?_map, hz, Option.map_some, Option.some.injEq] at hx
   subst hx
   exact ⟨rfl, rfl⟩
  | _ => exact ⟨_, hr, rfl, rfl⟩
 | global g => simp [Mc, Pg.run] at hr
 | func f => exact ⟨_, hr, rfl, [], by simp [Act.eval], rfl, fun i p n v0 z h1 h2 => by simp at h1⟩
theorem U5 {mem : Mem} {x : A} {y : Value} (hx : AR w g mem x y) {K : Leaf → St → Option γ} (hr : (Xg6 x).run tab σ K = some r) :
  ∃ z, x = .one z ∧ K z σ = some r ∧ LfR w g mem z y [] := by
 cases x with
 | one z => exact ⟨z, rfl, hr, hx⟩
 | _ => simp [Xg6, Pg.run] at hr
theorem Vo {mem : Mem} {x : A} {y : Value} (hx : AR w g mem x y) {K : IntKind × Int → St → Option γ} (hr : (intOf x).run tab σ K = some r) :
  ∃ k n, y = .int k n ∧ K (k, n) σ = some r := by
 unfold intOf at hr
 split at hr
 ·rename_i k n; exact ⟨k, n, hx.1, hr⟩
 ·simp [Pg.run] at hr
theorem Fz {mem : Mem} {x : A} {y : Value} (hx : AR w g mem x y) {K : List Leaf → St → Option γ} (hr : (cellsOf x).run tab σ K = some r) :
  ∃ xs ys, K xs σ = some r ∧ LsR w g mem xs ys ∧ ((∃ z, x = .one z ∧ xs = [z] ∧ ys = [y] ∧ D8 z = true) ∨ (x = .agg xs ∧ y = .agg ys.toArray)) := by
 cases x with
 | one z =>
  simp only [cellsOf, run_bind] at hr
  obtain ⟨hok, hr⟩ := An hr
  refine ⟨[z], [y], hr, ⟨rfl, fun i a b h1 h2 => ?_⟩, .inl ⟨z, rfl, rfl, rfl, hok⟩⟩
  cases i with
  | zero => simp at h1 h2; subst h1; subst h2; exact hx
  | succ i => simp at h1
 | agg xs =>
  obtain ⟨ys, hy, hl⟩ := hx
  exact ⟨xs, ys, hr, hl, .inr ⟨rfl, hy⟩⟩
 | tup xs => simp [cellsOf, Pg.run] at hr
theorem AR.int (k : IntKind) (n : Int) {mem : Mem} : AR w g mem (.one (.v (.int k n))) (.int k n) := ⟨rfl, rfl⟩
theorem Ao {t : Nat} {d : TypeDesc} (h : P.underlying t = some d) : (underlying t).run P w = .ok d w := by
 simp [underlying, h]
theorem Xqx {op : BinOp} {k : IntKind} {x y : Int} {K : A → St → Option γ} (hr : (X3q op k x y).run tab σ K = some r) (t : Nat) :
  ∃ v, K (.one (.v v)) σ = some r ∧ (binOp op t (.int k x) (.int k y)).run P w = .ok v w := by
 cases op with
 | quo =>
  rcases E9 hr with ⟨_, hr⟩ | ⟨hb, hr⟩
  ·simp [Pg.run] at hr
  ·exact ⟨_, hr, by simp at hb; simp [binOp, Op.intDiv, hb]⟩
 | rem =>
  rcases E9 hr with ⟨_, hr⟩ | ⟨hb, hr⟩
  ·simp [Pg.run] at hr
  ·exact ⟨_, hr, by simp at hb; simp [binOp, Op.intDiv, hb]⟩
 | add => exact ⟨_, hr, by simp [binOp, Op.intArith]⟩
 | sub => exact ⟨_, hr, by simp [binOp, Op.intArith]⟩
 | mul => exact ⟨_, hr, by simp [binOp, Op.intArith]⟩
 | and => exact ⟨_, hr, by simp [binOp, Op.intBits, Cf]⟩
 | or => exact ⟨_, hr, by simp [binOp, Op.intBits, Cf]⟩
 | xor => exact ⟨_, hr, by simp [binOp, Op.intBits, Cf]⟩
 | andNot => exact ⟨_, hr, by simp [binOp, Op.intBits, Cf]⟩
 | eql => exact ⟨_, hr, by simp [binOp, Op.intCmp]⟩
 | neq => exact ⟨_, hr, by simp [binOp, Op.intCmp]⟩
 | lss => exact ⟨_, hr, by simp [binOp, Op.intCmp]⟩
 | leq => exact ⟨_, hr, by simp [binOp, Op.intCmp]⟩
 | gtr => exact ⟨_, hr, by simp [binOp, Op.intCmp]⟩
 | geq => exact ⟨_, hr, by simp [binOp, Op.intCmp]⟩
 | _ => simp [X3q, Pg.run] at hr
end
end Go.Rf
end

section
set_option linter.unusedVariables false
namespace Go.Rf
section
variable {w w' : World} {g g' : Gh} {σ : St} {ts : Array Value} {H H' : Hand}
theorem Rel.bllt (h : Rel w g σ ts H) : ∀ k b, b ∈ g.bl k → b < w.heap.size := by
 intro k b hb
 cases hm : σ.mem k with
 | none => rw [(h.pres k hm).2] at hb; cases hb
 | some e =>
  have := h.mem k e hm
  cases hc : e.c with
  | v x => rw [hc] at this; rw [this.2] at hb; cases hb
  | s m t l => rw [hc] at this; exact Ld (t := .sl t) this b hb
  | h m t l i c =>
   rw [hc] at this
   exact Xaq this b hb
  | q m t l p =>
   rw [hc] at this
   exact Xa3 this b hb
  | a p v0 v1 wi => rw [hc] at this; rw [this.1] at hb; cases hb
  | ptr p n v0 => rw [hc] at this; rw [this.1] at hb; cases hb
  | fn f cs => rw [hc] at this; rw [this.1] at hb; cases hb
  | it f t l n => rw [hc] at this; rw [this.1] at hb; cases hb
  | d => rw [hc] at this; rw [show g.bl k = [] from this] at hb; cases hb
theorem Rel.hdlt (h : Rel w g σ ts H) : ∀ b ∈ H.bs, b < w.heap.size := by
 intro b hb
 obtain ⟨x, hx, hb⟩ := List.mem_flatMap.1 hb
 exact (h.hand x hx).lt b hb
theorem Rel.adlt (h : Rel w g σ ts H) {k b o : Nat} (ha : g.ad k = some (b, o)) : b < w.heap.size := (h.cell k b o ha).2.lt
theorem Step.updW (h : Rel w g σ ts H) {k : Nat} {e e' : Ent} (he : σ.mem k = some e) (h0 : e.v0 ≤ e'.v0) (h1 : e.v1 ≤ e'.v1)
  (hk : e.v0 = e'.v0 → lstOf e.c = none) (hS : ∀ b, g.S b → g'.S b) (had : ∀ q a, g.ad q = some a → g'.ad q = some a)
  (hhv : ∀ q, q ≠ k → g'.hv q = g.hv q) (hw : ∀ b, (g.S b ∨ ∃ q, q ≠ k ∧ b ∈ g.bl q) → w'.heap[b]? = w.heap[b]?) :
  Step w g σ.mem w' g' (σ.setM k e').mem := by
 refine ⟨hS, had, fun q x hx => ?_⟩
 by_cases hq : q = k
 ·subst hq
  rw [he] at hx; cases hx
  exact ⟨e', by rw [St.mem_setM]; simp, h0, h1, fun hv z hz => by rw [hk hv] at hz; cases hz⟩
 ·refine ⟨x, by rw [St.mem_setM]; simp [hq, hx], Nat.le_refl _, Nat.le_refl _, fun _ z hz => ⟨hhv q hq, hz, fun _ i c z h2 h3 => ?_⟩⟩
  refine ⟨?_, ?_⟩
  ·simpa only [leafAt, St.mem_setM, hq, if_false] using h2
  obtain ⟨x', t, q', hx', hl, hi⟩ := h3
  rw [hx] at hx'; cases hx'
  obtain ⟨xc, xv0, xv1⟩ := x
  have hm := h.mem q _ hx
  cases xc with
  | s m t l =>
   obtain ⟨y, hy, hs⟩ := (hm : Rd w g.S (.sl t) m l [g.hv q] (g.bl q))
   simp only [List.cons.injEq, and_true] at hy
   subst hy
   simp only [lstOf, Option.some.injEq, Prod.mk.injEq] at hl
   obtain ⟨b, o, c', hy, _, hb⟩ := hs.hdr (i := i) (by omega)
   simp only [hdrAt, St.mem_setM, hq, if_false, hhv q hq, hy, hx]
   exact A4 (hw b (hb.imp id fun h => ⟨q, hq, h⟩))
  | h m t l e => simp [leafAt, hx] at h2
  | _ => simp [leafAt, hx] at h2
theorem Rel.setKeyW {k : Nat} {e' : Ent} (h : Rel w g σ ts H)
  (hst : Step w g σ.mem w' g' (σ.setM k e').mem) (had : g'.ad = g.ad) (hhv : ∀ q, q ≠ k → g'.hv q = g.hv q) (hbl : ∀ q, q ≠ k → g'.bl q = g.bl q)
  (hpres : σ.mem k ≠ none)
  (hcell : ∀ q b o, g.ad q = some (b, o) → cellAt w' b o = some (g'.hv q) ∧ BlkOk w' b (o + 1))
  (hk : LfR w' g' (σ.setM k e').mem e'.c (g'.hv k) (g'.bl k))
  (hw : ∀ b, (g.S b ∨ ∃ q, q ≠ k ∧ b ∈ g.bl q) → w'.heap[b]? = w.heap[b]?) (hsz : w.heap.size ≤ w'.heap.size)
  (hS : ∀ b, g'.S b → g.S b ∨ b ∈ g.bl k ∨ b ∈ H.bs ∨ w.heap.size ≤ b)
  (hSlt : ∀ b, g'.S b → b < w'.heap.size)
  (hnd : (g'.bl k ++ H'.bs).Nodup) (hsub : ∀ b, b ∈ g'.bl k ∨ b ∈ H'.bs → b ∈ g.bl k ∨ b ∈ H.bs ∨ w.heap.size ≤ b)
  (hSd : ∀ b, g'.S b → b ∉ g'.bl k ∧ b ∉ H'.bs)
  (hand : ∀ x ∈ H', LfV w' g'.S x.1 x.2.1 x.2.2) : Rel w' g' (σ.setM k e') ts H' := by
 obtain ⟨n1, n2, n3⟩ := List.nodup_append.1 hnd
 have hbd : ∀ q, q ≠ k → ∀ b ∈ g.bl q, b ∉ g.bl k ∧ b ∉ H.bs ∧ ¬ w.heap.size ≤ b :=
  fun q hq b hb => ⟨h.dj q k hq b hb, h.hdj q b hb, by have := h.bllt q b hb; omega⟩
 refine ⟨?_, ?_, by rw [had]; exact h.inj, ?_, fun t => (h.tmps t).step hst fun b hb => hw b (.inl hb), h.len, ?_, ?_, ?_, ?_, n2, ?_, hand⟩
 ·intro q e he
  rw [St.mem_setM] at he
  by_cases hq : q = k
  ·subst hq; simp at he; subst he; exact hk
  ·simp only [hq, if_false] at he
   rw [hhv q hq, hbl q hq]
   exact (h.mem q e he).step hst fun b hb => hw b (hb.imp id fun hb => ⟨q, hq, hb⟩)
 ·intro q b o ha
  rw [had] at ha
  exact hcell q b o ha
 ·intro q hq
  rw [St.mem_setM] at hq
  by_cases hqk : q = k
  ·subst hqk; simp at hq
  ·simp only [hqk, if_false] at hq
   rw [had, hbl q hqk]; exact h.pres q hq
 ·intro q
  by_cases hq : q = k
  ·subst hq; exact n1
  ·rw [hbl q hq]; exact h.nd q
 ·intro q q' hne b hb hb'
  by_cases hq : q = k
  ·subst hq
   rw [hbl q' (Ne.symm hne)] at hb'
   obtain ⟨h1, h2, h3⟩ := hbd q' (Ne.symm hne) b hb'
   rcases hsub b (.inl hb) with h4 | h4 | h4
   ·exact h1 h4
   ·exact h2 h4
   ·exact h3 h4
  ·by_cases hq' : q' = k
   ·subst hq'
    rw [hbl q hq] at hb
    obtain ⟨h1, h2, h3⟩ := hbd q hq b hb
    rcases hsub b (.inl hb') with h4 | h4 | h4
    ·exact h1 h4
    ·exact h2 h4
    ·exact h3 h4
   ·rw [hbl q hq] at hb; rw [hbl q' hq'] at hb'
    exact h.dj q q' hne b hb hb'
 ·intro q b o ha
  rw [had] at ha
  obtain ⟨h1, h2, h3⟩ := h.box q b o ha
  have h0 := h.adlt ha
  refine ⟨fun q' hb => ?_, fun hb => ?_, fun hs => ?_⟩
  ·by_cases hq' : q' = k
   ·subst hq'
    rcases hsub b (.inl hb) with h4 | h4 | h4
    ·exact h1 q' h4
    ·exact h2 h4
    ·omega
   ·rw [hbl q' hq'] at hb; exact h1 q' hb
  ·rcases hsub b (.inr hb) with h4 | h4 | h4
   ·exact h1 k h4
   ·exact h2 h4
   ·omega
  ·rcases hS b hs with h4 | h4 | h4 | h4
   ·exact h3 h4
   ·exact h1 k h4
   ·exact h2 h4
   ·omega
 ·intro b hs
  obtain ⟨d1, d2⟩ := hSd b hs
  refine ⟨fun q hb => ?_, d2, hSlt b hs⟩
  by_cases hq : q = k
  ·subst hq; exact d1 hb
  ·rw [hbl q hq] at hb
   obtain ⟨e1, e2, e3⟩ := hbd q hq b hb
   rcases hS b hs with h1 | h1 | h1 | h1
   ·exact (h.st b h1).1 q hb
   ·exact e1 h1
   ·exact e2 h1
   ·exact e3 h1
 ·intro q b hb hb'
  by_cases hq : q = k
  ·subst hq; exact n3 b hb b hb' rfl
  ·rw [hbl q hq] at hb
   obtain ⟨h1, h2, h3⟩ := hbd q hq b hb
   rcases hsub b (.inr hb') with h4 | h4 | h4
   ·exact h1 h4
   ·exact h2 h4
   ·exact h3 h4
theorem Au {w : World} {b o : Nat} {y : Value} {q : Nat} (h : q ≠ b) : (w.setCell ⟨b, o, none⟩ y).heap[q]? = w.heap[q]? := by
 simp only [World.setCell]
 rw [Array.getElem?_modify]
 simp [Ne.symm h]
theorem Dc {w : World} {b o : Nat} {y : Value} {cs : Array Value} {te : TypeId} {fz : Nat × Nat} (h : w.heap[b]? = some (.cells cs te fz)) :
  (w.setCell ⟨b, o, none⟩ y).heap[b]? = some (.cells (cs.setIfInBounds o y) te fz) := by
 simp only [World.setCell]
 rw [Array.getElem?_modify]
 simp [h]
theorem Fx {w : World} {b o : Nat} {cs : Array Value} {te : TypeId} {fz : Nat × Nat} (h : w.heap[b]? = some (.cells cs te fz)) : cellAt w b o = cs[o]? := by
 simp [cellAt, World.cell?, h]
theorem Ce {w : World} {b o : Nat} {y : Value} {q n : Nat} (h : BlkOk w q n) : BlkOk (w.setCell ⟨b, o, none⟩ y) q n := by
 obtain ⟨cs, te, h1, h2⟩ := h
 by_cases hq : q = b
 ·subst hq; exact ⟨_, te, Dc h1, by simpa using h2⟩
 ·exact ⟨cs, te, (Au hq).trans h1, h2⟩
theorem B4 (w : World) (a : Addr) (y : Value) : (w.setCell a y).heap.size = w.heap.size := by simp [World.setCell]
theorem Dd {w : World} {b o q p : Nat} {y : Value} {n : Nat} (h : BlkOk w b n) (ho : o < n) :
  cellAt (w.setCell ⟨b, o, none⟩ y) q p = if q = b ∧ p = o then some y else cellAt w q p := by
 obtain ⟨cs, te, h1, h2⟩ := h
 by_cases hq : q = b
 ·subst hq
  rw [Fx (Dc h1), Fx h1]
  by_cases hp : p = o
  ·subst hp
   have hlt : p < cs.size := by omega
   simp [hlt]
  ·simp [hp, Array.getElem?_setIfInBounds_ne (Ne.symm hp)]
 ·rw [A4 (Au hq)]; simp [hq]
theorem Rel.storeCell (h : Rel w g σ ts H) {k b o : Nat} {e : Ent} {x : Leaf} {y : Value} (he : σ.mem k = some e) (ha : g.ad k = some (b, o)) (hx : LfR w g σ.mem x y []) :
  Rel (w.setCell ⟨b, o, none⟩ y) { g with hv := Bu g.hv k y, bl := Bu g.bl k [] } (σ.setM k ⟨x, e.v0 + bump e.c, e.v1⟩) ts H ∧
  Step w g σ.mem (w.setCell ⟨b, o, none⟩ y) { g with hv := Bu g.hv k y, bl := Bu g.bl k [] } (σ.setM k ⟨x, e.v0 + bump e.c, e.v1⟩).mem := by
 obtain ⟨hc1, hc2⟩ := h.cell k b o ha
 obtain ⟨hb1, hb2, hb3⟩ := h.box k b o ha
 have hw : ∀ q, (g.S q ∨ ∃ p, p ≠ k ∧ q ∈ g.bl p) → (w.setCell ⟨b, o, none⟩ y).heap[q]? = w.heap[q]? := by
  rintro q hq
  refine Au ?_
  rintro rfl
  rcases hq with hq | ⟨p, _, hq⟩
  ·exact hb3 hq
  ·exact hb1 p hq
 have hst : Step w g σ.mem (w.setCell ⟨b, o, none⟩ y) { g with hv := Bu g.hv k y, bl := Bu g.bl k [] } (σ.setM k ⟨x, e.v0 + bump e.c, e.v1⟩).mem := by
  refine Step.updW h he (Nat.le_add_right _ _) (Nat.le_refl _) ?_ (fun _ h => h) (fun _ _ h => h) (fun q hq => Ax _ _ hq) hw
  intro hv
  have hb : bump e.c = 0 := by simp at hv; exact hv
  cases hc : e.c <;> simp [hc, bump] at hb <;> rfl
 refine ⟨h.setKeyW hst rfl (fun q hq => Ax _ _ hq) (fun q hq => Ax _ _ hq) (by rw [he]; simp) ?_ ?_ hw (by rw [B4]; exact Nat.le_refl _) (fun b hb => .inl hb) ?_ ?_ ?_ ?_ ?_, hst⟩
 ·intro q b' o' ha'
  obtain ⟨h1, h2⟩ := h.cell q b' o' ha'
  refine ⟨?_, Ce h2⟩
  rw [Dd hc2 (by omega)]
  by_cases hq : q = k
  ·subst hq
   rw [ha] at ha'; cases ha'
   simp [Ac]
  ·have : ¬ (b' = b ∧ o' = o) := by
    rintro ⟨rfl, rfl⟩
    exact hq (h.inj q k _ ha' ha)
   rw [if_neg this, h1]
   simp only [Ax _ _ hq]
 ·simp only [Ac]
  refine hx.step hst fun q hq => ?_
  rcases hq with hq | hq
  ·exact hw q (.inl hq)
  ·cases hq
 ·intro q hq; rw [B4]; exact (h.st q hq).2.2
 ·simp only [Ac, List.nil_append]; exact h.hnd
 ·intro q hq
  simp only [Ac] at hq
  rcases hq with hq | hq
  ·cases hq
  ·exact .inr (.inl hq)
 ·intro q hq
  simp only [Ac]
  exact ⟨by simp, (h.st q hq).2.1⟩
 ·intro z hz
  refine (h.hand z hz).imp (fun _ h => h) fun q hq => ?_
  rcases hq with hq | hq
  ·exact hw q (.inl hq)
  ·refine Au ?_
   rintro rfl
   exact hb2 (List.mem_flatMap.2 ⟨z, hz, hq⟩)
end
end Go.Rf
end

section
set_option linter.unusedVariables false
namespace Go.Rf
theorem ObjLike.trans {p p' : Nat → Prop} {o1 o2 o3 : Option Obj} (h : ObjLike p o1 o2) (h' : ObjLike p' o2 o3) (hp : ∀ j, p' j → p j) : ObjLike p o1 o3 := by
 rcases h with rfl | ⟨c1, c2, te, fz, e1, e2, hs, hj⟩
 ·rcases h' with rfl | ⟨c1, c2, te, fz, e1, e2, hs, hj⟩
  ·exact .inl rfl
  ·exact .inr ⟨c1, c2, te, fz, e1, e2, hs, fun j h => hj j fun h' => h (hp j h')⟩
 ·rcases h' with rfl | ⟨c1', c2', te', fz', e1', e2', hs', hj'⟩
  ·exact .inr ⟨c1, c2, te, fz, e1, e2, hs, hj⟩
  ·rw [e2] at e1'
   simp only [Option.some.injEq, Obj.cells.injEq] at e1'
   obtain ⟨rfl, rfl, rfl⟩ := e1'
   exact .inr ⟨c1, c2', te, fz, e1, e2', hs.trans hs', fun j h => (hj j h).trans (hj' j fun h' => h (hp j h'))⟩
theorem Frm.trans {w w1 w2 : World} {g g1 : Gh} {σ σ1 : St} (h : Frm w g w1) (h' : Frm w1 g1 w2) (hm : Mv w g σ [] w1 g1 σ1 []) : Frm w g w2 := by
 intro b hb ho
 have hs := hm.sz
 refine (h b hb ho).trans (h' b (by omega) fun ho' => ?_) fun j hj => ?_
 ·rcases hm.own b ho' with h1 | h1
  ·exact ho h1
  ·omega
 ·obtain ⟨k, hk⟩ := hj
  rcases hm.ad k _ hk with h1 | h1
  ·exact ⟨k, h1⟩
  ·simp at h1; omega
section
variable {P : Program} {w w' : World} {g g' : Gh} {σ : St} {ts : Array Value} {tab : Tab} {γ : Type} {r : γ}
theorem Mg {b o : Nat} {y : Value} (h : BlkOk w b (o + 1)) (hy : y.oneCell' = true) :
  (store ⟨b, o, none⟩ y).run P w = .ok () (w.setCell ⟨b, o, none⟩ y) := by
 obtain ⟨cs, te, h1, h2⟩ := h
 rw [run_store P w _ y _ hy]
 have hc : w.cell? ⟨b, o, none⟩ = some cs[o] := by simp [World.cell?, h1]
 have hf : w.frozen? ⟨b, o, none⟩ = false := by simp [World.frozen?, h1]
 simp [hc, hf]
theorem Hz {mem : Mem} {x : Leaf} {y : Value} {bs : List Nat} (h : D8 x = true) (hx : LfR w g mem x y bs) : y.oneCell' = true := by
 cases x with
 | v z =>
  obtain ⟨rfl, _⟩ := hx
  cases y <;> simp_all [D8, Value.oneCell']
 | s m t l => obtain ⟨ad, c, rfl⟩ := Br (hx : Rd w g.S (.sl t) m l [y] bs); rfl
 | h m t l e => simp [D8] at h
 | q m t l p => simp [D8] at h
 | a p v0 v1 wi => obtain ⟨_, ⟨ad, n, c, rfl⟩, _⟩ := hx; rfl
 | ptr p n v0 =>
  obtain ⟨_, hp⟩ := hx
  cases p with
  | cell k => obtain ⟨b, o, rfl, _⟩ := hp; rfl
  | elem k e c => obtain ⟨⟨a, rfl⟩, _⟩ := hp; rfl
 | fn f cs => obtain ⟨_, ys, rfl, _⟩ := hx; rfl
 | it f t l n => simp [D8] at h
 | d => simp [D8] at h
theorem Rel.narrow (h : Rel w g σ ts []) {k b o : Nat} {m : Mode} {t : Ty} {l : List (den t)} {v0 v1 : Nat} {wi : Option (Nat × Nat)} {y : Value}
  (he : σ.mem k = some ⟨.s m t l, v0, v1⟩) (hm : m ≠ .rox) (ha : g.ad k = some (b, o)) (hy : P8 (wd t) l.length wi (g.hv k) y) :
  ∃ g', g'.ad = g.ad ∧ Rel (w.setCell ⟨b, o, none⟩ y) g' (σ.setM k ⟨.s m t (Rf.win wi l), v0 + 1, v1⟩) ts [] ∧
   Mv w g σ [] (w.setCell ⟨b, o, none⟩ y) g' (σ.setM k ⟨.s m t (Rf.win wi l), v0 + 1, v1⟩) [] := by
 obtain ⟨y', hy', hs⟩ := (h.mem k _ he : Rd w g.S (.sl t) m l [g.hv k] (g.bl k))
 simp only [List.cons.injEq, and_true] at hy'
 subst hy'
 obtain ⟨bs, hsub, hs'⟩ := hs.win hm hy
 have hr : Rd w g.S (.sl t) m (Rf.win wi l) [y] bs := ⟨y, rfl, hs'⟩
 obtain ⟨hc1, hc2⟩ := h.cell k b o ha
 obtain ⟨hb1, hb2, hb3⟩ := h.box k b o ha
 have hw : ∀ q, (g.S q ∨ ∃ p, q ∈ g.bl p) → (w.setCell ⟨b, o, none⟩ y).heap[q]? = w.heap[q]? := by
  rintro q hq
  refine Au ?_
  rintro rfl
  rcases hq with hq | ⟨p, hq⟩
  ·exact hb3 hq
  ·exact hb1 p hq
 have hst : Step w g σ.mem (w.setCell ⟨b, o, none⟩ y) { g with hv := Bu g.hv k y, bl := Bu g.bl k bs } (σ.setM k ⟨.s m t (Rf.win wi l), v0 + 1, v1⟩).mem := by
  refine Step.updW h he (by simp) (Nat.le_refl _) (fun hv => by simp at hv) (fun _ h => h) (fun _ _ h => h) (fun q hq => Ax _ _ hq) fun q hq => hw q ?_
  exact hq.imp id fun ⟨p, _, h⟩ => ⟨p, h⟩
 have hrel : Rel (w.setCell ⟨b, o, none⟩ y) { g with hv := Bu g.hv k y, bl := Bu g.bl k bs } (σ.setM k ⟨.s m t (Rf.win wi l), v0 + 1, v1⟩) ts [] := by
  refine h.setKeyW hst rfl (fun q hq => Ax _ _ hq) (fun q hq => Ax _ _ hq) (by rw [he]; simp) ?_ ?_ (fun q hq => hw q (hq.imp id fun ⟨p, _, h⟩ => ⟨p, h⟩)) (by rw [B4]; exact Nat.le_refl _) (fun b hb => .inl hb) ?_ ?_ ?_ ?_ ?_
  ·intro q b' o' ha'
   obtain ⟨h1, h2⟩ := h.cell q b' o' ha'
   refine ⟨?_, Ce h2⟩
   rw [Dd hc2 (by omega)]
   by_cases hq : q = k
   ·subst hq
    rw [ha] at ha'; cases ha'
    simp [Ac]
   ·have : ¬ (b' = b ∧ o' = o) := by
     rintro ⟨rfl, rfl⟩
     exact hq (h.inj q k _ ha' ha)
    rw [if_neg this, h1]
    simp only [Ax _ _ hq]
  ·simp only [Ac]
   exact hr.imp (t := .sl t) (fun _ h => h) fun q hq => hw q (hq.imp id fun hq => ⟨k, hsub.subset hq⟩)
  ·intro q hq; rw [B4]; exact (h.st q hq).2.2
  ·simp only [Ac]
   have : Hand.bs ([] : Hand) = [] := rfl
   rw [this, List.append_nil]; exact List.Nodup.sublist hsub (h.nd k)
  ·intro q hq
   simp only [Ac] at hq
   rcases hq with hq | hq
   ·exact .inl (hsub.subset hq)
   ·exact .inr (.inl hq)
  ·intro q hq
   simp only [Ac]
   exact ⟨fun h1 => (h.st q hq).1 k (hsub.subset h1), (h.st q hq).2.1⟩
  ·intro z hz; cases hz
 refine ⟨{ g with hv := Bu g.hv k y, bl := Bu g.bl k bs }, rfl, hrel, hst, ?_, fun q hq => .inl hq, fun _ _ h => .inl h, by rw [B4]; exact Nat.le_refl _, ⟨rfl, rfl, rfl⟩⟩
 intro q hq
 left
 rcases hq with ⟨p, hp⟩ | hq
 ·by_cases hpk : p = k
  ·subst hpk; simp only [Ac] at hp; exact .inl ⟨p, hsub.subset hp⟩
  ·simp only [Ax _ _ hpk] at hp; exact .inl ⟨p, hp⟩
 ·exact .inr hq
theorem Xbj {b o : Nat} {y : Value} {k : Nat} (h : BlkOk w b (o + 1)) (ha : g.ad k = some (b, o)) : Frm w g (w.setCell ⟨b, o, none⟩ y) := by
 intro q hq ho
 by_cases hqb : q = b
 ·subst hqb
  obtain ⟨cs, te, h1, h2⟩ := h
  refine .inr ⟨cs, _, te, (0, 0), h1, Dc h1, by simp, fun j hj => ?_⟩
  have : j ≠ o := fun h => hj ⟨k, by rw [h]; exact ha⟩
  rw [Array.getElem?_setIfInBounds_ne (Ne.symm this)]
 ·exact .inl (Au hqb).symm
theorem S8 {k : Nat} {x : Leaf} {v0 : Nat} {wi : Option (Nat × Nat)} (h : Ki k x = some (v0, wi)) : ∃ v1, x = .a (.cell k) v0 v1 wi := by
 unfold Ki at h
 split at h
 ·rename_i k' u0 u1 w'
  cases hb : Nat.beq k k' with
  | false => rw [hb] at h; simp at h
  | true =>
   rw [hb] at h
   simp only [cond_true, Option.some.injEq, Prod.mk.injEq] at h
   obtain ⟨rfl, rfl⟩ := h
   rw [Nat.eq_of_beq_eq_true hb]
   exact ⟨u1, rfl⟩
 ·simp at h
theorem V4 : ∀ {xs : List Leaf} {ys : List Value} {w : World} {g : Gh} {σ : St} {k b o i : Nat} (h : Rel w g σ ts [])
  (hx : LsR w g σ.mem xs ys) (had : ∀ j, j < xs.length → g.ad (k + j) = some (b, o + i + j)) {K : Unit → St → Option γ} (hr : (U7 k xs).run tab σ K = some r),
  ∃ w' g' σ', K () σ' = some r ∧ (storeCells ⟨b, o, none⟩ ys i).run P w = .ok () w' ∧ g'.ad = g.ad ∧ Rel w' g' σ' ts [] ∧ Mv w g σ [] w' g' σ' [] ∧ Frm w g w'
 | [], ys, w, g, σ, k, b, o, i, h, hx, had, K, hr => by
  have : ys = [] := List.length_eq_zero_iff.1 hx.1
  subst this
  exact ⟨w, g, σ, hr, rfl, rfl, h, Mv.refl _ _ _ _, Frm.refl _ _⟩
 | x :: xs, [], w, g, σ, k, b, o, i, h, hx, had, K, hr => by have := hx.1; simp at this
 | x :: xs, y :: ys, w, g, σ, k, b, o, i, h, hx, had, K, hr => by
  obtain ⟨hx1, hx2⟩ := hx.tail
  simp only [U7, run_bind] at hr
  obtain ⟨hok, hr⟩ := An hr
  obtain ⟨e, he, hr⟩ := A2 hr
  have ha := had 0 (by simp)
  simp only [Nat.add_zero] at ha
  obtain ⟨hc1, hc2⟩ := h.cell k _ _ ha
  have hone := Hz hok hx1
  have hst1 : (store ((⟨b, o, none⟩ : Addr).add i) y).run P w = .ok () (w.setCell ⟨b, o + i, none⟩ y) := by
   rw [Bh]; exact Mg hc2 hone
  have one : ∃ g1 σ1, g1.ad = g.ad ∧ Rel (w.setCell ⟨b, o + i, none⟩ y) g1 σ1 ts [] ∧ Mv w g σ [] (w.setCell ⟨b, o + i, none⟩ y) g1 σ1 [] ∧
    (U7 (k + 1) xs).run tab σ1 K = some r := by
   cases hsa : Ki k x with
   | none =>
    rw [hsa] at hr
    simp only [Pg.run] at hr
    obtain ⟨h1, h2⟩ := h.storeCell he ha hx1
    refine ⟨{ g with hv := Bu g.hv k y, bl := Bu g.bl k [] }, _, rfl, h1, ⟨h2, ?_, fun q hq => .inl hq, fun _ _ h => .inl h, by rw [B4]; exact Nat.le_refl _, ⟨rfl, rfl, rfl⟩⟩, hr⟩
    intro q hq
    left
    rcases hq with ⟨p, hp⟩ | hq
    ·by_cases hpk : p = k
     ·subst hpk; simp only [Ac] at hp; cases hp
     ·simp only [Ax _ _ hpk] at hp; exact .inl ⟨p, hp⟩
    ·exact .inr hq
   | some z =>
    obtain ⟨u0, wi⟩ := z
    obtain ⟨u1, rfl⟩ := S8 hsa
    rw [hsa] at hr
    simp only [run_bind] at hr
    obtain ⟨hv, hr⟩ := An hr
    obtain ⟨ec, ev0, ev1⟩ := e
    cases ec with
    | s m t l =>
     simp only [run_bind] at hr
     obtain ⟨hm, hr⟩ := An hr
     simp only [Pg.run] at hr
     obtain ⟨_, _, e2, he2, h0, h1, hc⟩ := hx1
     simp only [Ib] at he2
     rw [he] at he2; cases he2
     obtain ⟨_, t', q, hh, r1, r2, r3⟩ := hc hv
     simp only [leafAt, he, Option.map_some, Option.bind_some, lstOf, Option.some.injEq, Prod.mk.injEq] at r1
     obtain ⟨rfl, rfl⟩ := r1
     simp only [hdrAt, Option.some.injEq] at r2
     subst r2
     obtain ⟨g1, had1, hr1, hm1⟩ := h.narrow he (Hy hm) ha r3
     exact ⟨g1, _, had1, hr1, hm1, hr⟩
    | _ => simp [Pg.run] at hr
  obtain ⟨g1, σ1, had1, hr1, hm1, hr⟩ := one
  have hw1 : ∀ q, g.S q → (w.setCell ⟨b, o + i, none⟩ y).heap[q]? = w.heap[q]? := by
   intro q hq
   refine Au ?_
   rintro rfl
   exact (h.box k _ _ ha).2.2 hq
  obtain ⟨w2, g2, σ2, hr, hs2, had2, hr2, hm2, hf2⟩ := V4 (i := i + 1) hr1 (hx2.step hm1.st hw1)
   (fun j hj => by rw [had1, show k + 1 + j = k + (j + 1) by omega, had (j + 1) (by simpa using hj), show o + i + (j + 1) = o + (i + 1) + j by omega]) hr
  refine ⟨w2, g2, σ2, hr, ?_, had2.trans had1, hr2, hm1.trans hm2, (Xbj hc2 ha).trans hf2 hm1⟩
  simp only [storeCells, Sem.run_bind, hst1, Result.andThen_ok, hs2]
end
end Go.Rf
end

section
set_option linter.unusedVariables false
namespace Go.Rf
theorem Xlp {m : Mode} : ∀ {t : Ty} {cs r : List Leaf} {z : den t}, N8 m t cs = some (z, r) →
  ∃ c1, cs = c1 ++ r ∧ c1.length = wd t ∧ ∀ (j : Nat) (x : Leaf), c1[j]? = some x → ∃ x', (enc m t z)[j]? = some x' ∧ (∀ q, lstOf x = some q → lstOf x' = some q) ∧ (Gq [x] = false → lstOf x' = none) := by
 intro t
 induction t with
 | int k =>
  intro cs r z h
  obtain ⟨c, rfl, hf⟩ := Bp h
  refine ⟨[c], rfl, rfl, fun j x hx => ?_⟩
  cases j with
  | succ j => simp at hx
  | zero =>
   simp at hx; subst hx
   refine ⟨_, rfl, fun q hq => ?_, fun _ => rfl⟩
   unfold Xlm at hf
   split at hf <;> first | (simp [lstOf] at hq; done) | (simp at hf; done)
 | bool =>
  intro cs r z h
  obtain ⟨c, rfl, hf⟩ := Bp h
  refine ⟨[c], rfl, rfl, fun j x hx => ?_⟩
  cases j with
  | succ j => simp at hx
  | zero =>
   simp at hx; subst hx
   refine ⟨_, rfl, fun q hq => ?_, fun _ => rfl⟩
   unfold Xj6 at hf
   split at hf <;> first | (simp [lstOf] at hq; done) | (simp at hf; done)
 | str =>
  intro cs r z h
  obtain ⟨c, rfl, hf⟩ := Bp h
  refine ⟨[c], rfl, rfl, fun j x hx => ?_⟩
  cases j with
  | succ j => simp at hx
  | zero =>
   simp at hx; subst hx
   refine ⟨_, rfl, fun q hq => ?_, fun _ => rfl⟩
   unfold Xk1 at hf
   split at hf <;> first | (simp [lstOf] at hq; done) | (simp at hf; done)
 | sl e ih =>
  intro cs r z h
  obtain ⟨c, rfl, hf⟩ := Bp h
  refine ⟨[c], rfl, rfl, fun j x hx => ?_⟩
  cases j with
  | succ j => simp at hx
  | zero =>
   simp at hx; subst hx
   refine ⟨_, rfl, fun q hq => ?_, fun ha => ?_⟩
   ·unfold Xkw at hf
    split at hf
    ·rename_i n u l
     cases hfi : L2 m n with
     | false => rw [hfi] at hf; simp at hf
     | true =>
      rw [hfi] at hf
      simp only [cond_true] at hf
      split at hf
      ·rename_i hu
       subst hu
       simp only [Option.some.injEq] at hf
       subst hf
       exact hq
      ·simp at hf
    ·simp [lstOf] at hq
    ·simp at hf
   ·unfold Xkw at hf
    split at hf <;> first | (simp [Gq] at ha; done) | (simp at hf; done)
 | pair a b iha ihb =>
  intro cs r z h
  simp only [N8] at h
  split at h <;> try (simp at h; done)
  rename_i y r1 h1
  split at h <;> try (simp at h; done)
  rename_i z' r2 h2
  simp only [Option.some.injEq, Prod.mk.injEq] at h
  obtain ⟨rfl, rfl⟩ := h
  obtain ⟨c1, rfl, l1, p1⟩ := iha h1
  obtain ⟨c2, rfl, l2, p2⟩ := ihb h2
  refine ⟨c1 ++ c2, by simp, by simp [wd, l1, l2], fun j x hx => ?_⟩
  simp only [enc]
  by_cases hj : j < c1.length
  ·rw [List.getElem?_append_left hj] at hx
   obtain ⟨x', hx', h3, h4⟩ := p1 j x hx
   exact ⟨x', by rw [List.getElem?_append_left (by rw [A8, ← l1]; exact hj)]; exact hx', h3, h4⟩
  ·rw [List.getElem?_append_right (by omega)] at hx
   obtain ⟨x', hx', h3, h4⟩ := p2 _ x hx
   refine ⟨x', ?_, h3, h4⟩
   rw [List.getElem?_append_right (by rw [A8, ← l1]; omega), A8, ← l1]
   exact hx'
theorem Xra {m : Mode} {t : Ty} {cs : List Leaf} {z : den t} (h : M0 m t cs = some z) :
  cs.length = wd t ∧ ∀ (j : Nat) (x : Leaf), cs[j]? = some x → ∃ x', (enc m t z)[j]? = some x' ∧ (∀ q, lstOf x = some q → lstOf x' = some q) ∧ (Gq [x] = false → lstOf x' = none) := by
 unfold M0 at h
 split at h <;> try (simp at h; done)
 rename_i y hd
 simp only [Option.some.injEq] at h
 subst h
 obtain ⟨c1, h1, h2, h3⟩ := Xlp hd
 simp only [List.append_nil] at h1
 subst h1
 exact ⟨h2, h3⟩
theorem Xrv {m : Mode} : ∀ {t : Ty} {cs r : List Leaf} {z : den t}, N8 m t cs = some (z, r) →
  ∃ c1, cs = c1 ++ r ∧ ∀ v, Leaf.v v ∈ c1 → v.oneCell' = true := by
 intro t
 induction t with
 | pair a b iha ihb =>
  intro cs r z h
  simp only [N8] at h
  split at h <;> try (simp at h; done)
  rename_i y r1 h1
  split at h <;> try (simp at h; done)
  rename_i z' r2 h2
  simp only [Option.some.injEq, Prod.mk.injEq] at h
  obtain ⟨rfl, rfl⟩ := h
  obtain ⟨c1, rfl, p1⟩ := iha h1
  obtain ⟨c2, rfl, p2⟩ := ihb h2
  exact ⟨c1 ++ c2, by simp, fun v hv => (List.mem_append.1 hv).elim (p1 v) (p2 v)⟩
 | int k =>
  intro cs r z h
  obtain ⟨c, rfl, hf⟩ := Bp h
  refine ⟨[c], rfl, fun v hv => ?_⟩
  have hc : c = .v v := (List.mem_singleton.1 hv).symm
  subst hc
  cases v <;> first | rfl | (simp [Xlm] at hf; done)
 | bool =>
  intro cs r z h
  obtain ⟨c, rfl, hf⟩ := Bp h
  refine ⟨[c], rfl, fun v hv => ?_⟩
  have hc : c = .v v := (List.mem_singleton.1 hv).symm
  subst hc
  cases v <;> first | rfl | (simp [Xj6] at hf; done)
 | str =>
  intro cs r z h
  obtain ⟨c, rfl, hf⟩ := Bp h
  refine ⟨[c], rfl, fun v hv => ?_⟩
  have hc : c = .v v := (List.mem_singleton.1 hv).symm
  subst hc
  cases v <;> first | rfl | (simp [Xk1] at hf; done)
 | sl e ih =>
  intro cs r z h
  obtain ⟨c, rfl, hf⟩ := Bp h
  refine ⟨[c], rfl, fun v hv => ?_⟩
  have hc : c = .v v := (List.mem_singleton.1 hv).symm
  subst hc
  cases v <;> first | rfl | (simp [Xkw] at hf; done)
theorem Xhs {m : Mode} {t : Ty} {cs : List Leaf} {z : den t} (h : M0 m t cs = some z) : ∀ v, Leaf.v v ∈ cs → v.oneCell' = true := by
 unfold M0 at h
 split at h <;> try (simp at h; done)
 rename_i y hd
 obtain ⟨c1, h1, h2⟩ := Xrv hd
 simp only [List.append_nil] at h1
 subst h1
 exact h2
theorem U9 : ∀ {ys : List Leaf}, Gq ys = false → ∀ x ∈ ys, Gq [x] = false
 | [], _, x, hx => by cases hx
 | y :: r, h, x, hx => by
  cases y with
  | v z =>
   cases z with
   | slice a n c => simp [Gq] at h
   | _ =>
    simp only [Gq] at h
    rcases List.mem_cons.1 hx with rfl | hx
    ·rfl
    ·exact U9 h x hx
  | _ => simp [Gq] at h
section
variable {P : Program} {w : World} {g : Gh} {σ : St} {ts : Array Value} {H : Hand}
theorem D7 {b o : Nat} : ∀ {vs : List Value} {i : Nat} {w : World}, BlkOk w b (o + i + vs.length) → (∀ v ∈ vs, v.oneCell' = true) →
  ∃ w', (storeCells ⟨b, o, none⟩ vs i).run P w = .ok () w' ∧ (∀ q, q ≠ b → w'.heap[q]? = w.heap[q]?) ∧ (∀ n, BlkOk w b n → BlkOk w' b n) ∧
   (∀ p, cellAt w' b p = if o + i ≤ p ∧ p < o + i + vs.length then vs[p - (o + i)]? else cellAt w b p) ∧ w'.heap.size = w.heap.size ∧ Io w w'
 | [], i, w, hb, h1 => ⟨w, rfl, fun _ _ => rfl, fun _ h => h, fun p => by rw [if_neg (by simp only [List.length_nil]; omega)], rfl, Io.refl _⟩
 | v :: vs, i, w, hb, h1 => by
  have hb1 : BlkOk w b (o + i + 1) := by obtain ⟨cs, te, h2, h3⟩ := hb; exact ⟨cs, te, h2, by simp at h3; omega⟩
  have hs : (store ((⟨b, o, none⟩ : Addr).add i) v).run P w = .ok () (w.setCell ⟨b, o + i, none⟩ v) := by rw [Bh]; exact Mg hb1 (h1 v (by simp))
  obtain ⟨w', hr, hq, hblk, hcell, hsz, hio⟩ := D7 (b := b) (o := o) (vs := vs) (i := i + 1) (w := w.setCell ⟨b, o + i, none⟩ v)
   (Ce (by obtain ⟨cs, te, h2, h3⟩ := hb; exact ⟨cs, te, h2, by simp at h3; omega⟩)) (fun x hx => h1 x (by simp [hx]))
  refine ⟨w', by simp only [storeCells, Sem.run_bind, hs, Result.andThen_ok, hr], fun q hne => (hq q hne).trans (Au hne), fun n hn => hblk n (Ce hn), fun p => ?_, hsz.trans (B4 _ _ _), (show Io w (w.setCell ⟨b, o + i, none⟩ v) from ⟨rfl, rfl, rfl⟩).trans hio⟩
  rw [hcell p]
  by_cases h2 : o + (i + 1) ≤ p ∧ p < o + (i + 1) + vs.length
  ·rw [if_pos h2, if_pos (by simp; omega)]
   rw [show p - (o + i) = (p - (o + (i + 1))) + 1 by omega, List.getElem?_cons_succ]
  ·rw [if_neg h2, Dd hb1 (by omega)]
   by_cases h3 : p = o + i
   ·subst h3
    simp
   ·rw [if_neg (by simp [h3]), if_neg (by simp; omega)]
theorem J8 {S : Nat → Prop} {cs : List Leaf} {vs : List Value} {bss : List (List Nat)} (h : Cs w S cs vs bss) (n : Nat) : Cs w S (cs.take n) (vs.take n) (bss.take n) ∧ Cs w S (cs.drop n) (vs.drop n) (bss.drop n) := by
 obtain ⟨l1, l2⟩ := Ji h
 have h' := h
 rw [← List.take_append_drop n cs] at h'
 obtain ⟨v1, v2, b1, b2, rfl, rfl, h1, h2⟩ := Xaw h'
 obtain ⟨e1, e2⟩ := Ji h1
 obtain ⟨e3, e4⟩ := Ji h2
 have hv : v1 = (v1 ++ v2).take n ∧ v2 = (v1 ++ v2).drop n := by
  by_cases hn : n ≤ cs.length
  ·have : v1.length = n := by rw [← e1]; simp [hn]
   exact ⟨by rw [← this]; simp, by rw [← this]; simp⟩
  ·have hc : cs.drop n = [] := List.drop_eq_nil_of_le (by omega)
   have : v2 = [] := by rw [hc] at e3; exact List.length_eq_zero_iff.1 e3.symm
   subst this
   have hl : v1.length ≤ n := by rw [← e1]; simp; omega
   exact ⟨by simp [List.take_of_length_le hl], by simp [List.drop_eq_nil_of_le hl]⟩
 have hb : b1 = (b1 ++ b2).take n ∧ b2 = (b1 ++ b2).drop n := by
  by_cases hn : n ≤ cs.length
  ·have : b1.length = n := by rw [e2, ← e1]; simp [hn]
   exact ⟨by rw [← this]; simp, by rw [← this]; simp⟩
  ·have hc : cs.drop n = [] := List.drop_eq_nil_of_le (by omega)
   have : b2 = [] := by rw [hc] at e3; simp at e3; rw [← e3] at e4; simpa using e4
   subst this
   have hl : b1.length ≤ n := by rw [e2, ← e1]; simp; omega
   exact ⟨by simp [List.take_of_length_le hl], by simp [List.drop_eq_nil_of_le hl]⟩
 rw [← hv.1, ← hv.2, ← hb.1, ← hb.2]
 exact ⟨h1, h2⟩
theorem Cw (q : Nat) : ∀ (bss : List (List Nat)) (i : Nat) (h : i < bss.length) (b' : List Nat),
  (bss.set i b').flatten.count q + (bss[i]).count q = bss.flatten.count q + b'.count q
 | a :: r, 0, h, b' => by simp [List.count_append]; omega
 | a :: r, i + 1, h, b' => by
  have := Cw q r i (by simpa using h) b'
  simp only [List.set_cons_succ, List.flatten_cons, List.count_append, List.getElem_cons_succ]
  omega
end
end Go.Rf
end

section
set_option linter.unusedVariables false
namespace Go.Rf
section
variable {P : Program} {w : World} {g : Gh} {σ : St} {ts : Array Value}
theorem Xya (m : Mode) : ∀ (t : Ty) (x y : den t) (p : Nat) (a b : Leaf), (enc m t x)[p]? = some a → (enc m t y)[p]? = some b → (lstOf a).isSome = (lstOf b).isSome := by
 intro t
 induction t with
 | pair t u iht ihu =>
  intro x y p a b h1 h2
  simp only [enc] at h1 h2
  by_cases hp : p < wd t
  ·rw [List.getElem?_append_left (by rw [A8]; exact hp)] at h1 h2
   exact iht _ _ p a b h1 h2
  ·rw [List.getElem?_append_right (by rw [A8]; omega), A8] at h1 h2
   exact ihu _ _ _ a b h1 h2
 | _ =>
  intro x y p a b h1 h2
  cases p with
  | zero => simp [enc] at h1 h2; subst h1; subst h2; rfl
  | succ p => simp [enc] at h1
theorem Vd {α : Type} {l : List α} {e i : Nat} {x : α} (h : l[i]? = some x) : (H7 l e)[i]? = some (Nat.beq i e, x) := by
 simp [H7, List.getElem?_mapIdx, h]
theorem C3 {α : Type} {l : List α} {e : Nat} : (H7 l e).length = l.length := by simp [H7]
theorem Rel.elemView {H : Hand} (h : Rel w g σ ts H) {k i c q v0 v1 : Nat} {m : Mode} {t : Ty} {l : List (den t)} {L : Leaf} {b o cap : Nat}
  (he : σ.mem k = some ⟨L, v0, v1⟩) (hL : L = .s m t l ∨ (L = .h m t l i c ∧ q = 1)) (hm : m.isOwn = true) (hi : i < l.length)
  (hhv : g.hv k = .slice (some ⟨b, o, none⟩) l.length cap) :
  ∃ (bss0 : List (List Nat)) (vs0 : List Value) (b0 : List (List Nat)), l.length ≤ cap ∧ ∃ hib : i < bss0.length, bss0.length = l.length ∧ g.bl k = b :: bss0.flatten ∧ BlkOk w b (o + cap * wd t) ∧ vs0.length = wd t ∧
   (∀ j, j < wd t → cellAt w b (o + i * wd t + j) = vs0[j]?) ∧ bss0[i] = b0.flatten ∧
   Cs w g.S ((enc m.nest t l[i]).take c) (vs0.take c) (b0.take c) ∧ Cs w g.S ((enc m.nest t l[i]).drop (c + q)) (vs0.drop (c + q)) (b0.drop (c + q)) ∧
   ∀ j x b', j ≠ i → l[j]? = some x → bss0[j]? = some b' → ∃ vs, vs.length = wd t ∧ (∀ p, p < wd t → cellAt w b (o + j * wd t + p) = vs[p]?) ∧ Rd w g.S t m.nest x vs b' := by
 rcases hL with rfl | ⟨rfl, rfl⟩
 ·obtain ⟨y', hy', hs⟩ := (h.mem k _ he : Rd w g.S (.sl t) m l [g.hv k] (g.bl k))
  simp only [List.cons.injEq, and_true] at hy'
  subst hy'
  obtain ⟨ad, cp, hy, hcap, hx, hr⟩ := hs
  rcases hr with ⟨_, hl, _, _⟩ | ⟨b', o', bss0, rfl, hlen, ho, hro, hh, hel⟩
  ·rw [hl] at hi; simp at hi
  rw [hhv] at hy
  simp only [Value.slice.injEq, Option.some.injEq, Addr.mk.injEq, and_true, true_and] at hy
  obtain ⟨⟨rfl, rfl⟩, rfl⟩ := hy
  obtain ⟨hbk, hblk⟩ := ho hm
  have hib : i < bss0.length := by omega
  obtain ⟨vs0, hv0, hcell0, hx0⟩ := hel i l[i] bss0[i] (by simp) (List.getElem?_eq_getElem hi) (List.getElem?_eq_getElem hib)
  obtain ⟨b0, hcs0, hfl0⟩ := hx0.cs
  obtain ⟨t1, t2⟩ := J8 hcs0 c
  obtain ⟨_, t3⟩ := J8 hcs0 (c + q)
  exact ⟨bss0, vs0, b0, hcap, hib, hlen, hbk, hblk, hv0, hcell0, hfl0, t1, t3, fun j x b' _ h1 h2 => hel j x b' (by simp) h1 h2⟩
 ·obtain ⟨ad, cp, hy, hcap, hx, hr⟩ := (h.mem k _ he : SlR w g.S (wd t) m none (fun z vs bs => ElR w g.S t m.nest c z vs bs) (H7 l i) (g.hv k) (g.bl k))
  rw [C3] at hy hcap
  rcases hr with ⟨_, hl, _, _⟩ | ⟨b', o', bss0, rfl, hlen, ho, hro, hh, hel⟩
  ·have := congrArg List.length hl; rw [C3] at this; simp at this; rw [this] at hi; simp at hi
  rw [C3] at hlen
  rw [hhv] at hy
  simp only [Value.slice.injEq, Option.some.injEq, Addr.mk.injEq, and_true, true_and] at hy
  obtain ⟨⟨rfl, rfl⟩, rfl⟩ := hy
  obtain ⟨hbk, hblk⟩ := ho hm
  have hib : i < bss0.length := by omega
  obtain ⟨vs0, hv0, hcell0, hx0⟩ := hel i (Nat.beq i i, l[i]) bss0[i] (by simp) (Vd (List.getElem?_eq_getElem hi)) (List.getElem?_eq_getElem hib)
  rw [Nat.beq_refl] at hx0
  obtain ⟨v, b0, hcs0, hfl0⟩ := (hx0 : ∃ v bss, Cs w g.S ((enc m.nest t l[i]).set c (.v v)) vs0 bss ∧ bss0[i] = bss.flatten)
  obtain ⟨t1, t2⟩ := J8 hcs0 c
  obtain ⟨_, t3⟩ := J8 hcs0 (c + 1)
  rw [List.take_set_of_le (Nat.le_refl c)] at t1
  rw [List.drop_set_of_lt (Nat.lt_succ_self c)] at t3
  refine ⟨bss0, vs0, b0, hcap, hib, hlen, hbk, hblk, hv0, hcell0, hfl0, t1, t3, fun j x b' hj h1 h2 => ?_⟩
  obtain ⟨vs, a1, a2, a3⟩ := hel j (Nat.beq j i, x) b' (by simp) (Vd h1) h2
  have hji : Nat.beq j i = false := by cases hb : Nat.beq j i with
   | false => rfl
   | true => exact absurd (Nat.eq_of_beq_eq_true hb) hj
  rw [hji] at a3
  exact ⟨vs, a1, a2, a3⟩
theorem Rel.storeElem {k i c v0 v1 n : Nat} {m : Mode} {t : Ty} {l : List (den t)} {L : Leaf} {ys : List Leaf} {vs : List Value} {bss : List (List Nat)} {z : den t} {b o cap : Nat}
  (h : Rel w g σ ts (hz ys vs bss)) (hl1 : ys.length = vs.length) (hl2 : bss.length = vs.length)
  (he : σ.mem k = some ⟨L, v0, v1⟩) (hL : L = .s m t l ∨ (L = .h m t l i c ∧ ys.length = 1)) (hm : m.isOwn = true) (hi : i < l.length) (hc : c + ys.length ≤ wd t)
  (hd : M0 m.nest t (Cb (enc m.nest t (nthD l i (Be t))) c ys) = some z)
  (hone : ∀ v ∈ vs, v.oneCell' = true) (hhv : g.hv k = .slice (some ⟨b, o, none⟩) l.length cap) (hn : (Gq ys = false ∧ L = .s m t l) ∨ 1 ≤ n) :
  ∃ w' g', (storeCells ⟨b, o + i * wd t + c, none⟩ vs 0).run P w = .ok () w' ∧ Rel w' g' (σ.setM k ⟨.s m t (l.set i z), v0, v1 + n⟩) ts [] ∧
   Mv w g σ (hz ys vs bss) w' g' (σ.setM k ⟨.s m t (l.set i z), v0, v1 + n⟩) [] ∧ Frm w g w' := by
 obtain ⟨bss0, vs0, b0, hcap, hib, hlen, hbk, hblk, hv0, hcell0, hfl0, t1, t3, hel⟩ := h.elemView he hL hm hi hhv
 have hLst : lstOf L = some (t, l.length) := by rcases hL with rfl | ⟨rfl, _⟩ <;> rfl
 have hn0 : nthD l i (Be t) = l[i] := by rw [Bw]; simp [List.getD, hi]
 rw [hn0] at hd
 have hHb : Hand.bs (hz ys vs bss) = bss.flatten := Un hl1 hl2
 have hcsH : Cs w g.S ys vs bss := Sr hl1 hl2 fun x hx => h.hand x hx
 have hN : (g.bl k ++ bss.flatten).Nodup := by
  rw [← hHb]
  exact List.nodup_append.2 ⟨h.nd k, h.hnd, fun a ha q hq hab => by subst hab; exact h.hdj k a ha hq⟩
 rw [hbk] at hN
 have hcnt := List.nodup_iff_count.1 hN
 have hbS : ¬ g.S b := fun hs => (h.st b hs).1 k (by rw [hbk]; exact List.mem_cons_self)
 have hb0 : b ∉ bss0.flatten ∧ b ∉ bss.flatten := by
  have := hcnt b
  simp only [List.cons_append, List.count_cons_self, List.count_append] at this
  exact ⟨fun hq => by have := List.count_pos_iff.2 hq; omega, fun hq => by have := List.count_pos_iff.2 hq; omega⟩
 have hmul : i * wd t + wd t ≤ cap * wd t := by
  have h1 : i + 1 ≤ cap := by omega
  have := Nat.mul_le_mul_right (wd t) h1
  rw [Nat.add_mul, Nat.one_mul] at this
  exact this
 obtain ⟨w', hrun, hq, hblk', hcell', hsz, hio⟩ := D7 (P := P) (b := b) (o := o + i * wd t + c) (vs := vs) (i := 0) (w := w)
  (by obtain ⟨cs, te, h1, h2⟩ := hblk; exact ⟨cs, te, h1, by omega⟩) hone
 simp only [Nat.add_zero] at hcell'
 have hel0 := A8 m.nest t l[i]
 have hcsp : Cs w g.S (Cb (enc m.nest t l[i]) c ys) (vs0.take c ++ vs ++ vs0.drop (c + ys.length)) (b0.take c ++ bss ++ b0.drop (c + ys.length)) :=
  Eo (Eo t1 hcsH) t3
 have hcountsp : ∀ q, (b0.take c ++ bss ++ b0.drop (c + ys.length)).flatten.count q ≤ b0.flatten.count q + bss.flatten.count q := by
  intro q
  simp only [List.flatten_append, List.count_append]
  have h1 : b0.flatten.count q = (b0.take c).flatten.count q + (b0.drop c).flatten.count q := by
   rw [← List.count_append, ← List.flatten_append, List.take_append_drop]
  have h2 : (b0.drop (c + ys.length)).flatten.count q ≤ (b0.drop c).flatten.count q := by
   rw [← List.drop_drop]
   exact (Qc (List.drop_sublist _ _)).count_le q
  omega
 have hcount0 : ∀ q, (bss0[i]).count q ≤ bss0.flatten.count q := fun q => by
  have := Cw q bss0 i hib []
  simp at this; omega
 have hndsp : (b0.take c ++ bss ++ b0.drop (c + ys.length)).flatten.Nodup := by
  refine List.nodup_iff_count.2 fun q => ?_
  have h1 := hcountsp q
  have h2 := hcount0 q
  have h3 := hcnt q
  simp only [List.cons_append, List.count_cons, List.count_append] at h3
  rw [hfl0] at h2
  omega
 have hmemsp : ∀ q, q ∈ (b0.take c ++ bss ++ b0.drop (c + ys.length)).flatten → q ∈ bss0.flatten ∨ q ∈ bss.flatten := by
  intro q hq
  have h0 := List.count_pos_iff.2 hq
  have h1 := hcountsp q
  have h2 := hcount0 q
  rw [hfl0] at h2
  by_cases h4 : 0 < bss.flatten.count q
  ·exact .inr (List.count_pos_iff.1 h4)
  ·exact .inl (List.count_pos_iff.1 (by omega))
 have hne : ∀ q, g.S q ∨ q ∈ bss0.flatten ∨ q ∈ bss.flatten → q ≠ b := by
  intro q h1 h2
  subst h2
  rcases h1 with h1 | h1 | h1
  ·exact hbS h1
  ·exact hb0.1 h1
  ·exact hb0.2 h1
 have hcsp' : Cs w' g.S (Cb (enc m.nest t l[i]) c ys) (vs0.take c ++ vs ++ vs0.drop (c + ys.length)) (b0.take c ++ bss ++ b0.drop (c + ys.length)) :=
  F8 (fun _ h => h) hcsp fun q hq' => hq q (hne q (hq'.imp id (hmemsp q)))
 obtain ⟨bs', hsub', hrd'⟩ := Xad (by cases m <;> simp [Mode.nest]) hd hcsp' hndsp
 have hcount' : ∀ q, (bss0.set i bs').flatten.count q ≤ bss0.flatten.count q + bss.flatten.count q := by
  intro q
  have h1 := Cw q bss0 i hib bs'
  have h2 := hsub'.count_le q
  have h3 := hcountsp q
  rw [hfl0] at h1
  omega
 have hmem' : ∀ q, q ∈ (bss0.set i bs').flatten → q ∈ bss0.flatten ∨ q ∈ bss.flatten := by
  intro q hq
  have h0 := List.count_pos_iff.2 hq
  have h1 := hcount' q
  by_cases h4 : 0 < bss.flatten.count q
  ·exact .inr (List.count_pos_iff.1 h4)
  ·exact .inl (List.count_pos_iff.1 (by omega))
 have hvl : (vs0.take c ++ vs ++ vs0.drop (c + ys.length)).length = wd t := by simp [hv0]; omega
 have hSS : ∀ q, (g.S q ∨ q ∈ (b0.take c ++ bss ++ b0.drop (c + ys.length)).flatten ∧ q ∉ bs') → q ∉ (bss0.set i bs').flatten := by
  rintro q (hq1 | ⟨hq1, hq2⟩) hq3
  ·rcases hmem' q hq3 with h4 | h4
   ·exact (h.st q hq1).1 k (by rw [hbk]; exact List.mem_cons_of_mem _ h4)
   ·exact (h.st q hq1).2.1 (by rw [hHb]; exact h4)
  ·have h1 := Cw q bss0 i hib bs'
   have h2 : bs'.count q = 0 := List.count_eq_zero.2 hq2
   have h3 := List.count_pos_iff.2 hq3
   have h5 := hcnt q
   have h6 := List.count_pos_iff.2 hq1
   have h7 := hcountsp q
   simp only [List.cons_append, List.count_cons, List.count_append] at h5
   rw [hfl0] at h1
   omega
 have hcellN : ∀ j p, j < l.length → p < wd t → cellAt w' b (o + j * wd t + p) = if j = i ∧ c ≤ p ∧ p < c + vs.length then vs[p - c]? else cellAt w b (o + j * wd t + p) := by
  intro j p hj hp
  rw [hcell']
  by_cases hji : j = i
  ·subst hji
   by_cases hpc : c ≤ p ∧ p < c + vs.length
   ·rw [if_pos (by omega), if_pos ⟨rfl, hpc⟩]; congr 1; omega
   ·rw [if_neg (by omega), if_neg (by simp; omega)]
  ·rw [if_neg, if_neg (by simp [hji])]
   rintro ⟨h1, h2⟩
   have hjj : j < i ∨ i < j := by omega
   rcases hjj with hjj | hjj
   ·have := Nat.mul_le_mul_right (wd t) (show j + 1 ≤ i from hjj)
    rw [Nat.add_mul, Nat.one_mul] at this
    omega
   ·have := Nat.mul_le_mul_right (wd t) (show i + 1 ≤ j from hjj)
    rw [Nat.add_mul, Nat.one_mul] at this
    omega
 have hnew : Rd w' (fun q => g.S q ∨ q ∈ (b0.take c ++ bss ++ b0.drop (c + ys.length)).flatten ∧ q ∉ bs') (.sl t) m (l.set i z) [g.hv k] (b :: (bss0.set i bs').flatten) := by
  refine ⟨_, rfl, some ⟨b, o, none⟩, cap, by rw [hhv]; simp, by simpa using hcap, fun h => absurd h (Hy hm), .inr ⟨b, o, bss0.set i bs', rfl, by simp [hlen], fun _ => ⟨rfl, hblk' _ hblk⟩, fun (hf : m.isOwn = false) => absurd (hm.symm.trans hf) (by simp), by simp, ?_⟩⟩
  intro j x b' _ hjx hjb
  have hjl : j < l.length := by have := (List.getElem?_eq_some_iff.1 hjx).1; simpa using this
  by_cases hji : j = i
  ·subst hji
   have hx : x = z := by rw [List.getElem?_set_self hi] at hjx; exact (Option.some.inj hjx).symm
   have hb' : b' = bs' := by rw [List.getElem?_set_self hib] at hjb; exact (Option.some.inj hjb).symm
   subst hx; subst hb'
   refine ⟨_, hvl, fun p hp => ?_, hrd'⟩
   rw [hcellN j p hjl hp]
   by_cases h1 : p < c
   ·rw [if_neg (by omega), hcell0 p hp, List.append_assoc, List.getElem?_append_left (by simp [hv0]; omega), List.getElem?_take_of_lt h1]
   ·by_cases h2 : p < c + vs.length
    ·rw [if_pos ⟨rfl, by omega, h2⟩, List.append_assoc, List.getElem?_append_right (by simp [hv0]; omega), List.getElem?_append_left (by simp [hv0]; omega)]
     congr 1
     simp [hv0]; omega
    ·rw [if_neg (by omega), hcell0 p hp, List.getElem?_append_right (by simp [hv0]; omega), List.getElem?_drop]
     congr 1
     simp [hv0]; omega
  ·rw [List.getElem?_set_ne (Ne.symm hji)] at hjx hjb
   obtain ⟨vs1, hv1, hc1, hx1⟩ := hel j x b' hji hjx hjb
   refine ⟨vs1, hv1, fun p hp => ?_, hx1.imp (fun q hq => .inl hq) fun q hq' => hq q (hne q ?_)⟩
   ·rw [hcellN j p hjl hp, if_neg (by simp [hji])]; exact hc1 p hp
   ·exact hq'.imp id fun hb => .inl (List.mem_flatten.2 ⟨b', List.mem_of_getElem? hjb, hb⟩)
 have hw : ∀ q, (g.S q ∨ ∃ p, p ≠ k ∧ q ∈ g.bl p) → w'.heap[q]? = w.heap[q]? := by
  rintro q hq'
  refine hq q ?_
  rintro rfl
  rcases hq' with hq' | ⟨p, hp, hq'⟩
  ·exact hbS hq'
  ·exact h.dj p k hp q hq' (by rw [hbk]; exact List.mem_cons_self)
 obtain ⟨hdl, hdb⟩ := Xra hd
 have hst : Step w g σ.mem w' { g with bl := Bu g.bl k (b :: (bss0.set i bs').flatten), S := fun q => g.S q ∨ q ∈ (b0.take c ++ bss ++ b0.drop (c + ys.length)).flatten ∧ q ∉ bs' } (σ.setM k ⟨.s m t (l.set i z), v0, v1 + n⟩).mem := by
  refine ⟨fun _ h => .inl h, fun _ _ h => h, fun q x hx => ?_⟩
  by_cases hqk : q = k
  ·subst hqk
   rw [he] at hx; cases hx
   refine ⟨⟨.s m t (l.set i z), v0, v1 + n⟩, by rw [St.mem_setM]; simp, Nat.le_refl _, Nat.le_add_right _ _, fun _ y hy => ⟨rfl, by rw [hLst] at hy; simpa [lstOf] using hy, fun hv j p y' hlj hin => ?_⟩⟩
   simp only at hv
   obtain ⟨hsl, rfl⟩ := hn.resolve_right (by omega)
   obtain ⟨x', t', q', hx', hl', hj⟩ := hin
   rw [he] at hx'; cases hx'
   simp only [lstOf, Option.some.injEq, Prod.mk.injEq] at hl'
   obtain ⟨rfl, rfl⟩ := hl'
   simp only [leafAt, he, Cc] at hlj
   have hnj : nthD l j (Be t) = l[j] := by rw [Bw]; simp [List.getD, hj]
   rw [hnj] at hlj
   cases hxj : (enc m.nest t l[j])[p]? with
   | none => rw [hxj] at hlj; simp at hlj
   | some x0 =>
    rw [hxj] at hlj
    simp only [Option.bind_some] at hlj
    have hp : p < wd t := by rw [← A8 m.nest t l[j]]; exact (List.getElem?_eq_some_iff.1 hxj).1
    by_cases hji : j = i
    ·subst hji
     have hns : ¬ (c ≤ p ∧ p < c + ys.length) := by
      rintro ⟨h1, h2⟩
      have hsp : (Cb (enc m.nest t l[j]) c ys)[p]? = ys[p - c]? := by
       unfold Cb
       rw [List.append_assoc, List.getElem?_append_right (by simp [hel0]; omega), List.getElem?_append_left (by simp [hel0]; omega)]
       congr 1
       simp [hel0]; omega
      have hyp : p - c < ys.length := by omega
      rw [List.getElem?_eq_getElem hyp] at hsp
      obtain ⟨x1, hx1, _, h4⟩ := hdb p _ hsp
      have h5 := h4 (U9 hsl _ (List.getElem_mem hyp))
      have h6 := Xya m.nest t l[j] z p x0 x1 hxj hx1
      rw [h5] at h6
      rw [hlj] at h6
      simp at h6
     have hsp : (Cb (enc m.nest t l[j]) c ys)[p]? = some x0 := by
      unfold Cb
      by_cases h1 : p < c
      ·rw [List.append_assoc, List.getElem?_append_left (by simp [hel0]; omega), List.getElem?_take_of_lt h1]; exact hxj
      ·rw [List.getElem?_append_right (by simp [hel0]; omega), List.getElem?_drop, ← hxj]
       congr 1
       simp [hel0]; omega
     obtain ⟨x1, hx1, h3, _⟩ := hdb p _ hsp
     refine ⟨?_, ?_⟩
     ·simp only [leafAt, St.mem_setM, if_true, Cc, Bw]
      have : (l.set j z).getD j (Be t) = z := by simp [List.getD, hj]
      rw [this, hx1]
      exact h3 _ hlj
     ·simp only [hdrAt, St.mem_setM, if_true, hhv, he]
      rw [hcellN j p hj hp, if_neg (by omega)]
    ·refine ⟨?_, ?_⟩
     ·simp only [leafAt, St.mem_setM, if_true, Cc, Bw]
      have : (l.set i z).getD j (Be t) = l[j] := by
       simp only [List.getD_eq_getElem?_getD]
       rw [List.getElem?_set_ne (Ne.symm hji), List.getElem?_eq_getElem hj]
       rfl
      rw [this, hxj]
      exact hlj
     ·simp only [hdrAt, St.mem_setM, if_true, hhv, he]
      rw [hcellN j p hj hp, if_neg (by simp [hji])]
  ·have hstw := (Step.updW (e' := ⟨.d, v0 + 1, v1⟩) (g' := g) h he (by simp) (Nat.le_refl _) (fun hv => by simp at hv) (fun _ h => h) (fun _ _ h => h) (fun q hq => rfl) hw).key q x hx
   obtain ⟨e2, g1, g2, g3, g4⟩ := hstw
   rw [St.mem_setM] at g1
   simp only [hqk, if_false] at g1
   refine ⟨e2, by rw [St.mem_setM]; simp [hqk, g1], g2, g3, fun hv y hy => ?_⟩
   obtain ⟨f1, f2, f3⟩ := g4 hv y hy
   refine ⟨f1, f2, fun hv1 j p y' h1 h2 => ?_⟩
   obtain ⟨f4, f5⟩ := f3 hv1 j p y' h1 h2
   refine ⟨by simpa only [leafAt, St.mem_setM, hqk, if_false] using f4, ?_⟩
   rw [← f5]
   simp only [hdrAt, St.mem_setM, hqk, if_false]
 refine ⟨w', _, hrun, h.setKeyW hst rfl (fun _ _ => rfl) (fun q hq => Ax _ _ hq) (by rw [he]; simp) ?_ ?_ hw (by omega) ?_ ?_ ?_ ?_ ?_ ?_, ⟨hst, ?_, ?_, fun _ _ h => .inl h, by omega, hio⟩, ?_⟩
 ·intro q b' o' ha
  obtain ⟨h1, h2⟩ := h.cell q b' o' ha
  have hqb : b' ≠ b := by rintro rfl; exact (h.box q _ _ ha).1 k (by rw [hbk]; exact List.mem_cons_self)
  exact ⟨(A4 (hq b' hqb)).trans h1, h2.same (hq b' hqb)⟩
 ·simp only [Ac]; exact hnew
 ·rintro q (hq1 | ⟨hq1, _⟩)
  ·exact .inl hq1
  ·rcases hmemsp q hq1 with h1 | h1
   ·exact .inr (.inl (by rw [hbk]; exact List.mem_cons_of_mem _ h1))
   ·exact .inr (.inr (.inl (by rw [hHb]; exact h1)))
 ·rintro q (hq1 | ⟨hq1, _⟩)
  ·rw [hsz]; exact (h.st q hq1).2.2
  ·rw [hsz]
   rcases hmemsp q hq1 with h1 | h1
   ·exact h.bllt k q (by rw [hbk]; exact List.mem_cons_of_mem _ h1)
   ·exact h.hdlt q (by rw [hHb]; exact h1)
 ·simp only [Ac]
  have : Hand.bs ([] : Hand) = [] := rfl
  rw [this, List.append_nil]
  refine List.nodup_iff_count.2 fun q => ?_
  have h1 := hcount' q
  have h2 := hcnt q
  simp only [List.cons_append, List.count_cons, List.count_append] at h2 ⊢
  omega
 ·intro q hq1
  simp only [Ac] at hq1
  rcases hq1 with hq1 | hq1
  ·rcases List.mem_cons.1 hq1 with rfl | hq1
   ·exact .inl (by rw [hbk]; exact List.mem_cons_self)
   ·rcases hmem' q hq1 with h1 | h1
    ·exact .inl (by rw [hbk]; exact List.mem_cons_of_mem _ h1)
    ·exact .inr (.inl (by rw [hHb]; exact h1))
  ·cases hq1
 ·intro q hq1
  simp only [Ac]
  refine ⟨?_, by intro h; cases h⟩
  intro h1
  rcases List.mem_cons.1 h1 with rfl | h1
  ·rcases hq1 with hq1 | ⟨hq1, _⟩
   ·exact hbS hq1
   ·exact hne q (.inr (hmemsp q hq1)) rfl
  ·exact hSS q hq1 h1
 ·intro x hx; cases hx
 ·intro q hq1
  left
  rcases hq1 with ⟨p, hp⟩ | hq1
  ·by_cases hpk : p = k
   ·subst hpk
    simp only [Ac] at hp
    rcases List.mem_cons.1 hp with rfl | hp
    ·exact .inl ⟨p, by rw [hbk]; exact List.mem_cons_self⟩
    ·rcases hmem' q hp with h1 | h1
     ·exact .inl ⟨p, by rw [hbk]; exact List.mem_cons_of_mem _ h1⟩
     ·exact .inr (by rw [hHb]; exact h1)
   ·simp only [Ax _ _ hpk] at hp; exact .inl ⟨p, hp⟩
  ·cases hq1
 ·rintro q (hq1 | ⟨hq1, _⟩)
  ·exact .inl hq1
  ·rcases hmemsp q hq1 with h1 | h1
   ·exact .inr (.inl (.inl ⟨k, by rw [hbk]; exact List.mem_cons_of_mem _ h1⟩))
   ·exact .inr (.inl (.inr (by rw [hHb]; exact h1)))
 ·intro q hq1 ho1
  refine .inl (hq q ?_).symm
  rintro rfl
  exact ho1 (.inl ⟨k, by rw [hbk]; exact List.mem_cons_self⟩)
theorem Hand.bs_append' (H H' : Hand) : Hand.bs (H ++ H') = Hand.bs H ++ Hand.bs H' := by simp [Hand.bs]
theorem Xt5 {S : Nat → Prop} {x : Leaf} {q : List Nat} : ∀ {cs : List Leaf} {vs : List Value} {bss : List (List Nat)} {c : Nat} {y : Value}, Cs w S cs vs bss → vs[c]? = some y → LfV w S x y q → Cs w S (cs.set c x) vs (bss.set c q)
 | a :: cs, v :: vs, b :: bss, 0, y, ⟨h1, h2⟩, hy, hx => by
  simp at hy; subst hy
  exact ⟨hx, h2⟩
 | a :: cs, v :: vs, b :: bss, c + 1, y, ⟨h1, h2⟩, hy, hx => ⟨h1, Xt5 h2 (by simpa using hy) hx⟩
 | [], [], [], c, y, h, hy, hx => by simp at hy
 | [], _ :: _, _, _, _, h, _, _ => h.elim
 | [], [], _ :: _, _, _, h, _, _ => h.elim
 | _ :: _, [], _, _, _, h, _, _ => h.elim
 | _ :: _, _ :: _, [], _, _, h, _, _ => h.elim
theorem Rel.takeHole {H : Hand} (h : Rel w g σ ts H) {k i c v0 v1 : Nat} {t u : Ty} {l : List (den t)} {n : Mode} {l' : List (den u)}
  (he : σ.mem k = some ⟨.s .own t l, v0, v1⟩) (hi : i < l.length) (hc : Dw (enc .own t (nthD l i (Be t))) c = some (.s n u l')) {v : Value} (hv : hdrAt w g σ.mem (.elem k i c) = some v) :
  ∃ q g', Rel w g' (σ.setM k ⟨.h .own t l i c, v0, v1 + 1⟩) ts ((.s n u l', v, q) :: H) ∧ Mv w g σ H w g' (σ.setM k ⟨.h .own t l i c, v0, v1 + 1⟩) ((.s n u l', v, q) :: H) := by
 obtain ⟨y', hy', hs⟩ := (h.mem k _ he : Rd w g.S (.sl t) .own l [g.hv k] (g.bl k))
 simp only [List.cons.injEq, and_true] at hy'
 subst hy'
 obtain ⟨ad, cap, hy, hcap, hx, hr⟩ := hs
 rcases hr with ⟨_, hl, _, _⟩ | ⟨b, o, bss0, rfl, hlen, ho, hro, hh, hel⟩
 ·rw [hl] at hi; simp at hi
 obtain ⟨hbk, hblk⟩ := ho rfl
 have hib : i < bss0.length := by omega
 obtain ⟨vs0, hv0, hcell0, hx0⟩ := hel i l[i] bss0[i] (by simp) (List.getElem?_eq_getElem hi) (List.getElem?_eq_getElem hib)
 obtain ⟨b0, hcs0, hfl0⟩ := hx0.cs
 have hn0 : nthD l i (Be t) = l[i] := by rw [Bw]; simp [List.getD, hi]
 rw [hn0] at hc
 rw [Cc] at hc
 obtain ⟨y, q, hyv, hq, hlf⟩ := G6 hcs0 hc
 have hcw : c < wd t := by rw [← A8 .own t l[i]]; exact (List.getElem?_eq_some_iff.1 hc).1
 have hyv' : y = v := by
  simp only [hdrAt, hy, he] at hv
  have h1 := hcell0 c hcw
  rw [h1, hyv] at hv
  exact Option.some.inj hv
 subst hyv'
 have hcb : c < b0.length := (List.getElem?_eq_some_iff.1 hq).1
 have hqe : b0[c] = q := (List.getElem?_eq_some_iff.1 hq).2
 have hcnt0 := fun p (b' : List Nat) => Cw p b0 c hcb b'
 have hcnt1 := fun p (b' : List Nat) => Cw p bss0 i hib b'
 rw [hqe] at hcnt0
 generalize hB : (b :: (bss0.set i (b0.set c []).flatten).flatten) = B
 have hperm : (g.bl k).Perm (B ++ q) := by
  rw [List.perm_iff_count]
  intro p
  have h1 := hcnt0 p []
  have h2 := hcnt1 p (b0.set c []).flatten
  rw [hfl0] at h2
  rw [hbk, ← hB]
  simp only [List.count_append, List.count_cons, List.count_nil] at h1 h2 ⊢
  omega
 have hst : Step w g σ.mem w { g with bl := Bu g.bl k B } (σ.setM k ⟨.h .own t l i c, v0, v1 + 1⟩).mem := by
  refine ⟨fun _ h => h, fun _ _ h => h, fun p x hx => ?_⟩
  by_cases hp : p = k
  ·subst hp
   rw [he] at hx; cases hx
   exact ⟨⟨.h .own t l i c, v0, v1 + 1⟩, by rw [St.mem_setM]; simp, Nat.le_refl _, Nat.le_succ _, fun _ z hz => ⟨rfl, hz, fun hv => by simp at hv⟩⟩
  ·refine ⟨x, by rw [St.mem_setM]; simp [hp, hx], Nat.le_refl _, Nat.le_refl _, fun _ z hz => ⟨rfl, hz, fun _ i c z' h1 h2 => ?_⟩⟩
   simp only [leafAt, hdrAt, St.mem_setM, hp, if_false] at h1 ⊢
   exact ⟨h1, trivial⟩
 have hmem : ∀ a, a ∈ g.bl k ↔ a ∈ B ∨ a ∈ q := fun a => by rw [hperm.mem_iff, List.mem_append]
 have hnd1 : (B ++ q).Nodup := hperm.nodup_iff.1 (h.nd k)
 refine ⟨q, { g with bl := Bu g.bl k B }, h.setKey hst rfl (fun _ _ => rfl) (fun p hp => Ax _ _ hp) (fun _ _ _ => rfl) ?_ (fun a ha => .inl ha) (fun a ha => (h.st a ha).2.2) ?_ ?_ ?_ ?_, ⟨hst, ?_, fun a ha => .inl ha, fun _ _ h => .inl h, Nat.le_refl _, Io.refl _⟩⟩
 ·simp only [Ac]
  refine ⟨some ⟨b, o, none⟩, cap, by rw [C3]; exact hy, by rw [C3]; exact hcap, (fun h => by cases h), .inr ⟨b, o, bss0.set i (b0.set c []).flatten, rfl, by simp [C3, hlen], fun _ => ⟨hB.symm, hblk⟩, fun hf => by simp [Mode.isOwn] at hf, by simp, ?_⟩⟩
  intro j z b' _ hjx hjb
  simp only [H7, List.getElem?_mapIdx] at hjx
  cases hjl : l[j]? with
  | none => rw [hjl] at hjx; simp at hjx
  | some x =>
   rw [hjl] at hjx
   simp only [Option.map_some, Option.some.injEq] at hjx
   subst hjx
   by_cases hji : j = i
   ·subst hji
    rw [Nat.beq_refl]
    rw [List.getElem?_set_self hib] at hjb
    have hxe : x = l[j] := by rw [List.getElem?_eq_getElem hi] at hjl; exact (Option.some.inj hjl).symm
    subst hxe
    refine ⟨vs0, hv0, hcell0, y, b0.set c [], ?_, (Option.some.inj hjb).symm⟩
    exact Xt5 hcs0 hyv ⟨rfl, rfl⟩
   ·rw [List.getElem?_set_ne (Ne.symm hji)] at hjb
    have hb : Nat.beq j i = false := by cases hb : Nat.beq j i with
     | false => rfl
     | true => exact absurd (Nat.eq_of_beq_eq_true hb) hji
    rw [hb]
    exact hel j x b' (by simp) hjl hjb
 ·simp only [Ac, Hand.bs_cons]
  rw [← List.append_assoc]
  exact List.nodup_append.2 ⟨hnd1, h.hnd, fun a ha a' ha' hab => h.hdj k a (hperm.mem_iff.2 ha) (hab ▸ ha')⟩
 ·intro a ha
  simp only [Ac, Hand.bs_cons, List.mem_append] at ha
  rcases ha with ha | ha | ha
  ·exact .inl ((hmem a).2 (.inl ha))
  ·exact .inl ((hmem a).2 (.inr ha))
  ·exact .inr ha
 ·intro a ha
  simp only [Ac, Hand.bs_cons, List.mem_append]
  have h1 := h.st a ha
  exact ⟨fun h2 => h1.1 k ((hmem a).2 (.inl h2)), fun h2 => h2.elim (fun h2 => h1.1 k ((hmem a).2 (.inr h2))) h1.2.1⟩
 ·intro x hx
  rcases List.mem_cons.1 hx with rfl | hx
  ·exact hlf
  ·exact h.hand x hx
 ·rintro a (⟨p, ha⟩ | ha)
  ·by_cases hp : p = k
   ·subst hp; simp only [Ac] at ha; exact .inl (.inl ⟨_, (hmem a).2 (.inl ha)⟩)
   ·simp only [Ax _ _ hp] at ha; exact .inl (.inl ⟨p, ha⟩)
  ·rw [Hand.bs_cons] at ha
   rcases List.mem_append.1 ha with ha | ha
   ·exact .inl (.inl ⟨k, (hmem a).2 (.inr ha)⟩)
   ·exact .inl (.inr ha)
theorem Xzj {S : Nat → Prop} : ∀ {xs : List Leaf} {ys : List Value} {bss : List (List Nat)}, Cs w S xs ys bss → ∀ z ∈ hz xs ys bss, LfV w S z.1 z.2.1 z.2.2
 | [], [], [], _, z, hz => by cases hz
 | x :: xs, y :: ys, b :: bss, ⟨h1, h2⟩, z, hz => by
  rcases List.mem_cons.1 hz with rfl | hz
  ·exact h1
  ·exact Xzj h2 z hz
 | [], _ :: _, _, h, _, _ => h.elim
 | [], [], _ :: _, h, _, _ => h.elim
 | _ :: _, [], _, h, _, _ => h.elim
 | _ :: _, _ :: _, [], h, _, _ => h.elim
theorem Rel.takeQ {H : Hand} (h : Rel w g σ ts H) {k i v0 v1 : Nat} {t : Ty} {l : List (den t)} {p : Int} {b o cap : Nat}
  (he : σ.mem k = some ⟨.q .own t l p, v0, v1⟩) (hi : i < l.length) (hp : (i : Int) = p) (hhv : g.hv k = .slice (some ⟨b, o, none⟩) l.length cap) :
  ∃ vs bss g', vs.length = wd t ∧ bss.length = wd t ∧ (∀ j, j < wd t → cellAt w b (o + i * wd t + j) = vs[j]?) ∧
   Rel w g' (σ.setM k ⟨.q .own t l (p + 1), v0, v1 + 1⟩) ts (hz (enc .own t (nthD l i (Be t))) vs bss ++ H) ∧
   Mv w g σ H w g' (σ.setM k ⟨.q .own t l (p + 1), v0, v1 + 1⟩) (hz (enc .own t (nthD l i (Be t))) vs bss ++ H) := by
 obtain ⟨ad, cp, hy, hcap, hx, hr⟩ := (h.mem k _ he : SlR w g.S (wd t) .own none (fun z vs bs => QlR w g.S t Mode.own.nest z vs bs) (Ec l p) (g.hv k) (g.bl k))
 rw [Bj] at hy hcap
 rcases hr with ⟨_, hl, _, _⟩ | ⟨b', o', bss0, rfl, hlen, ho, hro, hh, hel⟩
 ·have := congrArg List.length hl; rw [Bj] at this; simp at this; rw [this] at hi; simp at hi
 rw [Bj] at hlen
 rw [hhv] at hy
 simp only [Value.slice.injEq, Option.some.injEq, Addr.mk.injEq, and_true, true_and] at hy
 obtain ⟨⟨rfl, rfl⟩, rfl⟩ := hy
 obtain ⟨hbk, hblk⟩ := ho rfl
 have hib : i < bss0.length := by omega
 obtain ⟨vs0, hv0, hcell0, hx0⟩ := hel i _ bss0[i] (by simp) (Pm (List.getElem?_eq_getElem hi)) (List.getElem?_eq_getElem hib)
 rw [decide_eq_false (by omega)] at hx0
 obtain ⟨b0, hcs0, hfl0⟩ := (show Rd w g.S t .own l[i] vs0 bss0[i] from hx0).cs
 have hn0 : nthD l i (Be t) = l[i] := by rw [Bw]; simp [List.getD, hi]
 rw [hn0]
 have hcnt1 := fun q (b' : List Nat) => Cw q bss0 i hib b'
 generalize hB : (b :: (bss0.set i []).flatten) = B
 obtain ⟨hl1, hl2⟩ := Ji hcs0
 have hperm : (g.bl k).Perm (B ++ b0.flatten) := by
  rw [List.perm_iff_count]
  intro q
  have h2 := hcnt1 q []
  rw [hfl0] at h2
  rw [hbk, ← hB]
  simp only [List.count_append, List.count_cons, List.count_nil] at h2 ⊢
  omega
 have hHb : Hand.bs (hz (enc .own t l[i]) vs0 b0) = b0.flatten := Un (by rw [hl1]) (by rw [hl2])
 have hst : Step w g σ.mem w { g with bl := Bu g.bl k B } (σ.setM k ⟨.q .own t l (p + 1), v0, v1 + 1⟩).mem := by
  refine ⟨fun _ h => h, fun _ _ h => h, fun q x hx => ?_⟩
  by_cases hp : q = k
  ·subst hp
   rw [he] at hx; cases hx
   exact ⟨⟨.q .own t l (p + 1), v0, v1 + 1⟩, by rw [St.mem_setM]; simp, Nat.le_refl _, Nat.le_succ _, fun _ z hz => ⟨rfl, hz, fun hv => by simp at hv⟩⟩
  ·refine ⟨x, by rw [St.mem_setM]; simp [hp, hx], Nat.le_refl _, Nat.le_refl _, fun _ z hz => ⟨rfl, hz, fun _ i c z' h1 h2 => ?_⟩⟩
   simp only [leafAt, hdrAt, St.mem_setM, hp, if_false] at h1 ⊢
   exact ⟨h1, trivial⟩
 have hmem : ∀ a, a ∈ g.bl k ↔ a ∈ B ∨ a ∈ b0.flatten := fun a => by rw [hperm.mem_iff, List.mem_append]
 have hnd1 : (B ++ b0.flatten).Nodup := hperm.nodup_iff.1 (h.nd k)
 refine ⟨vs0, b0, { g with bl := Bu g.bl k B }, hv0, by rw [hl2, hv0], hcell0, h.setKey hst rfl (fun _ _ => rfl) (fun p hp => Ax _ _ hp) (fun _ _ _ => rfl) ?_ (fun a ha => .inl ha) (fun a ha => (h.st a ha).2.2) ?_ ?_ ?_ ?_, ⟨hst, ?_, fun a ha => .inl ha, fun _ _ h => .inl h, Nat.le_refl _, Io.refl _⟩⟩
 ·simp only [Ac]
  refine ⟨some ⟨b, o, none⟩, cap, by rw [Bj]; exact hhv, by rw [Bj]; exact hcap, (fun h => by cases h), .inr ⟨b, o, bss0.set i [], rfl, by simp [Bj, hlen], fun _ => ⟨hB.symm, hblk⟩, fun hf => by simp [Mode.isOwn] at hf, by simp, ?_⟩⟩
  intro j z b' _ hjx hjb
  simp only [Ec, List.getElem?_mapIdx] at hjx
  cases hjl : l[j]? with
  | none => rw [hjl] at hjx; simp at hjx
  | some x =>
   rw [hjl] at hjx
   simp only [Option.map_some, Option.some.injEq] at hjx
   subst hjx
   by_cases hji : j = i
   ·subst hji
    rw [List.getElem?_set_self hib] at hjb
    rw [decide_eq_true (by omega)]
    exact ⟨vs0, hv0, hcell0, (Option.some.inj hjb).symm⟩
   ·rw [List.getElem?_set_ne (Ne.symm hji)] at hjb
    obtain ⟨vs, a1, a2, a3⟩ := hel j _ b' (by simp) (Pm hjl) hjb
    refine ⟨vs, a1, a2, ?_⟩
    by_cases hjp : (j : Int) < p
    ·rw [decide_eq_true hjp] at a3
     rw [decide_eq_true (by omega)]
     exact a3
    ·rw [decide_eq_false hjp] at a3
     rw [decide_eq_false (by omega)]
     exact a3
 ·simp only [Ac, Hand.bs_append', hHb]
  rw [← List.append_assoc]
  exact List.nodup_append.2 ⟨hnd1, h.hnd, fun a ha a' ha' hab => h.hdj k a (hperm.mem_iff.2 ha) (hab ▸ ha')⟩
 ·intro a ha
  simp only [Ac, Hand.bs_append', hHb, List.mem_append] at ha
  rcases ha with ha | ha | ha
  ·exact .inl ((hmem a).2 (.inl ha))
  ·exact .inl ((hmem a).2 (.inr ha))
  ·exact .inr ha
 ·intro a ha
  simp only [Ac, Hand.bs_append', hHb, List.mem_append]
  have h1 := h.st a ha
  exact ⟨fun h2 => h1.1 k ((hmem a).2 (.inl h2)), fun h2 => h2.elim (fun h2 => h1.1 k ((hmem a).2 (.inr h2))) h1.2.1⟩
 ·intro x hx
  rcases List.mem_append.1 hx with hx | hx
  ·exact Xzj hcs0 x hx
  ·exact h.hand x hx
 ·rintro a (⟨q, ha⟩ | ha)
  ·by_cases hp : q = k
   ·subst hp; simp only [Ac] at ha; exact .inl (.inl ⟨_, (hmem a).2 (.inl ha)⟩)
   ·simp only [Ax _ _ hp] at ha; exact .inl (.inl ⟨q, ha⟩)
  ·rw [Hand.bs_append', hHb] at ha
   rcases List.mem_append.1 ha with ha | ha
   ·exact .inl (.inl ⟨k, (hmem a).2 (.inr ha)⟩)
   ·exact .inl (.inr ha)
theorem Rel.toQ {H : Hand} (h : Rel w g σ ts H) {k v0 v1 : Nat} {t : Ty} {l : List (den t)} (he : σ.mem k = some ⟨.s .own t l, v0, v1⟩) :
  Rel w g (σ.setM k ⟨.q .own t l 0, v0, v1 + 1⟩) ts H ∧ Mv w g σ H w g (σ.setM k ⟨.q .own t l 0, v0, v1 + 1⟩) H := by
 have hst : Step w g σ.mem w g (σ.setM k ⟨.q .own t l 0, v0, v1 + 1⟩).mem := by
  refine ⟨fun _ h => h, fun _ _ h => h, fun q x hx => ?_⟩
  by_cases hp : q = k
  ·subst hp
   rw [he] at hx; cases hx
   exact ⟨⟨.q .own t l 0, v0, v1 + 1⟩, by rw [St.mem_setM]; simp, Nat.le_refl _, Nat.le_succ _, fun _ z hz => ⟨rfl, hz, fun hv => by simp at hv⟩⟩
  ·refine ⟨x, by rw [St.mem_setM]; simp [hp, hx], Nat.le_refl _, Nat.le_refl _, fun _ z hz => ⟨rfl, hz, fun _ i c z' h1 h2 => ?_⟩⟩
   simp only [leafAt, hdrAt, St.mem_setM, hp, if_false] at h1 ⊢
   exact ⟨h1, trivial⟩
 refine ⟨h.setKey hst rfl (fun _ _ => rfl) (fun _ _ => rfl) (fun _ _ _ => rfl) ?_ (fun a ha => .inl ha) (fun a ha => (h.st a ha).2.2) ?_ (fun _ ha => ha) (fun a ha => ⟨(h.st a ha).1 k, (h.st a ha).2.1⟩) h.hand, ⟨hst, fun _ h => .inl h, fun a ha => .inl ha, fun _ _ h => .inl h, Nat.le_refl _, Io.refl _⟩⟩
 ·obtain ⟨y', hy', hs⟩ := (h.mem k _ he : Rd w g.S (.sl t) .own l [g.hv k] (g.bl k))
  simp only [List.cons.injEq, and_true] at hy'
  subst hy'
  obtain ⟨ad, cap, hy, hcap, hx, hr⟩ := hs
  refine ⟨ad, cap, by rw [Bj]; exact hy, by rw [Bj]; exact hcap, (fun h => by cases h), ?_⟩
  rcases hr with ⟨a1, a2, a3, a4⟩ | ⟨b, o, bss0, a1, hlen, ho, hro, hh, hel⟩
  ·exact .inl ⟨a1, by rw [a2]; rfl, a3, a4⟩
  ·refine .inr ⟨b, o, bss0, a1, by rw [Bj]; exact hlen, ho, fun hf => by simp [Mode.isOwn] at hf, by simp, fun j z b' _ hjx hjb => ?_⟩
   simp only [Ec, List.getElem?_mapIdx] at hjx
   cases hjl : l[j]? with
   | none => rw [hjl] at hjx; simp at hjx
   | some x =>
    rw [hjl] at hjx
    simp only [Option.map_some, Option.some.injEq] at hjx
    subst hjx
    rw [decide_eq_false (by omega)]
    exact hel j x b' (by simp) hjl hjb
 ·exact List.nodup_append.2 ⟨h.nd k, h.hnd, fun a ha a' ha' hab => h.hdj k a ha (hab ▸ ha')⟩
variable {tab : Tab} {γ : Type} {r : γ}
theorem Yi {H : Hand} (h : Rel w g σ ts H) {k e c v0 v1 : Nat} {y : Value} (hy : AOk w g σ.mem (.elem k e c) v0 v1 none y)
  {K : Leaf → St → Option γ} (hr : (Rf.takeHole k e c v0 v1).run tab σ K = some r) :
  ∃ m t l bs g' σ', K (.s m t l) σ' = some r ∧ Rel w g' σ' ts ((.s m t l, y, bs) :: H) ∧ Mv w g σ H w g' σ' ((.s m t l, y, bs) :: H) := by
 simp only [Rf.takeHole, run_bind] at hr
 obtain ⟨x, hx, hr1⟩ := A2 hr
 obtain ⟨hv, hr2⟩ := An hr1
 clear hr hr1
 obtain ⟨_, x2, hx2, _, _, hch⟩ := hy
 simp only [Ib] at hx2
 rw [hx] at hx2; cases hx2
 obtain ⟨hin, t', q, hd, r1, r2, r3⟩ := hch hv
 obtain ⟨x0, t0, q0, hx0, hl0, hi0⟩ := hin
 rw [hx] at hx0; cases hx0
 obtain ⟨ec, ev0, ev1⟩ := x
 have r3 : y = hd := r3
 subst r3
 split at hr2
 ·rename_i t l hc
  simp only at hc
  subst hc
  simp only [lstOf, Option.some.injEq, Prod.mk.injEq] at hl0
  obtain ⟨rfl, rfl⟩ := hl0
  split at hr2
  ·rename_i n u l' hnc
   simp only [Pg.run] at hr2
   obtain ⟨q, g', h1, m1⟩ := h.takeHole hx hi0 hnc r2
   exact ⟨_, _, _, q, g', _, hr2, h1, m1⟩
  ·simp [Pg.run] at hr2
 ·simp [Pg.run] at hr2
end
end Go.Rf
end

section
set_option linter.unusedVariables false
set_option linter.unusedSimpArgs false
namespace Go.Rf
section
variable {P : Program} {w : World} {g : Gh} {σ : St} {ts : Array Value} {H : Hand} {tab : Tab} {γ : Type} {r : γ}
theorem Dq {t : Nat} {d : TypeDesc} (h : P.underlying t = some d) : (isAgg t).run P w = .ok (aggD d) w := by
 cases d <;> simp [isAgg, Ao h, aggD]
theorem Ht {t : Nat} {f : TypeInfo} (h : P.info? t = some f) : (typeInfo t).run P w = .ok f w := by simp [typeInfo, h]
theorem Bn {t : Nat} {f : TypeInfo} (h : P.info? t = some f) : (sizeOf t).run P w = .ok f.size w := by simp [sizeOf, Ht h]
theorem X4 : ∀ t : Ty, 0 < wd t
 | .int _ => Nat.one_pos
 | .bool => Nat.one_pos
 | .str => Nat.one_pos
 | .sl _ => Nat.one_pos
 | .pair a b => by have := X4 a; simp only [wd]; omega
theorem U8 {E : Env} (hE : ∀ t i, E.ty t = some i → TyOk P t i) (h : Rel w g σ ts H) {t : Nat} {x : A} {y : Value} (hx : AR w g σ.mem x y)
  {K : A → St → Option γ} (hr : (Xim E t x).run tab σ K = some r) :
  ∃ v z, K v σ = some r ∧ AR w g σ.mem v z ∧ (Instr.loadAt t y).run P w = .ok z w := by
 unfold Xim at hr
 split at hr
 ·rename_i ty ag eb p n v0 hty
  simp only [run_bind] at hr
  obtain ⟨hle, hr⟩ := An hr
  have hle : wd ty ≤ n := Nat.le_of_ble_eq_true hle
  obtain ⟨_, hp⟩ := (hx : LfR w g σ.mem (.ptr p n v0) y [])
  obtain ⟨ys, vs, b, o, hr, hl1, hl2, hy, hls, hcell⟩ := Xbf h hp hle hr
  have hy := hy (X4 ty)
  subst hy
  have hT := hE t _ hty
  obtain ⟨f, hf, hsz, _⟩ := hT.info
  obtain ⟨d, hd, hag⟩ := hT.agg
  simp only at hsz hag
  have hload : (Instr.loadAt t (.pointer (some ⟨b, o, none⟩))).run P w = (loadVar t ⟨b, o, none⟩).run P w := by simp [Instr.loadAt, Instr.sureAddr]
  have hcells : ∀ j v, vs[j]? = some v → w.cell? ((⟨b, o, none⟩ : Addr).add j) = some v := fun j v hv => by rw [Bh]; exact hcell j v hv
  have hlc := run_loadCells_list (P := P) w ⟨b, o, none⟩ vs hcells
  cases ag with
  | true =>
   simp only [cond_true, Pg.run] at hr
   refine ⟨_, .agg vs.toArray, hr, ⟨vs, rfl, hls⟩, ?_⟩
   rw [hload]
   simp [loadVar, Dq hd, hag, Bn hf, hsz, ← hl2, hlc]
  | false =>
   simp only [cond_false] at hr
   split at hr
   ·rename_i y1
    have h1 : vs.length = 1 := by rw [hl2, ← hl1]; rfl
    match vs, h1 with
    | [z], _ =>
     refine ⟨_, z, hr, hls.tail.1, ?_⟩
     rw [hload]
     have := hcells 0 z rfl
     rw [Bh] at this
     simp only [Nat.add_zero] at this
     simp [loadVar, Dq hd, hag, this]
   ·simp [Pg.run] at hr
 ·simp [Pg.run] at hr
theorem F9 {v : Value} (h : v.oneCell' = true) : v.cells = #[v] := by
 cases v <;> first | rfl | simp [Value.oneCell'] at h
theorem Frm.pull {g1 : Gh} {σ1 : St} {H1 : Hand} {w' : World} (hm : Mv w g σ [] w g1 σ1 H1) (hf : Frm w g1 w') : Frm w g w' := by
 intro b hb ho
 refine ObjLike.trans (p := fun o => ∃ k, g.ad k = some (b, o)) (.inl rfl) (hf b hb fun h1 => ?_) fun j hj => ?_
 ·rcases hm.own b (h1.imp id fun h => by cases h) with h2 | h2
  ·exact ho h2
  ·omega
 ·obtain ⟨k, hk⟩ := hj
  rcases hm.ad k _ hk with h1 | h1
  ·exact ⟨k, h1⟩
  ·simp at h1; omega
theorem Xiq (h : Rel w g σ ts H) {k i c e v0 v1 : Nat} {m : Mode} {t : Ty} {l : List (den t)} (he : σ.mem k = some ⟨.h m t l e c, v0, v1⟩) (hi : i < l.length) :
  ∃ b o cap, g.hv k = .slice (some ⟨b, o, none⟩) l.length cap := by
 obtain ⟨ad, cp, hy, hcap, hx, hr⟩ := (h.mem k _ he : SlR w g.S (wd t) m none (fun z vs bs => ElR w g.S t m.nest c z vs bs) (H7 l e) (g.hv k) (g.bl k))
 rw [C3] at hy
 rcases hr with ⟨_, hl, _, _⟩ | ⟨b', o', bss0, rfl, hlen, ho, hro, hh, hel⟩
 ·have := congrArg List.length hl; rw [C3] at this; simp at this; rw [this] at hi; simp at hi
 ·exact ⟨b', o', cp, hy⟩
theorem Xgs {E : Env} (hE : ∀ t i, E.ty t = some i → TyOk P t i) (h : Rel w g σ ts []) {t : Nat} {x y : A} {u v : Value} (hx : AR w g σ.mem x u) (hy : AR w g σ.mem y v)
  {K : Unit → St → Option γ} (hr : (Xer E t x y).run tab σ K = some r) :
  ∃ w' g' σ', K () σ' = some r ∧ (Instr.storeAt t u v).run P w = .ok () w' ∧ Rel w' g' σ' ts [] ∧ Mv w g σ [] w' g' σ' [] ∧ Frm w g w' := by
 unfold Xer at hr
 split at hr
 ·rename_i ty ag eb p n v0 hty
  simp only [run_bind] at hr
  obtain ⟨xs, ys, hr, hls, hkind⟩ := Fz hy hr
  obtain ⟨hlit, hr⟩ := An hr
  simp only [Bool.and_eq_true] at hlit
  have hlen : xs.length = wd ty := Nat.eq_of_beq_eq_true hlit.1
  have hle : wd ty ≤ n := Nat.le_of_ble_eq_true hlit.2
  have hpos := X4 ty
  have hT := hE t _ hty
  obtain ⟨f, hf, hsz, _⟩ := hT.info
  simp only at hsz
  have hyl : ys.length = wd ty := by rw [hls.1, hlen]
  have hvc : v.cells.toList = ys := by
   rcases hkind with ⟨z, rfl, rfl, rfl, hok⟩ | ⟨rfl, rfl⟩
   ·have h1 : v.oneCell' = true := Hz hok hls.tail.1
    rw [F9 h1]
   ·rfl
  have hvs : v.cells.size = f.size := by rw [← Array.length_toList, hvc, hyl, hsz]
  obtain ⟨_, hp⟩ := (hx : LfR w g σ.mem (.ptr p n v0) u [])
  cases p with
  | cell k =>
   obtain ⟨b, o, hu, had⟩ := hp
   subst hu
   obtain ⟨w', g', σ', hr, hrun, _, hrel, hm, hfr⟩ := V4 (P := P) (i := 0) (o := o) h hls (fun j hj => by rw [Nat.add_zero]; exact had j (by omega)) hr
   refine ⟨w', g', σ', hr, ?_, hrel, hm, hfr⟩
   simp [Instr.storeAt, Instr.sureAddr, storeVar, Bn hf, hvs, hvc, hrun]
  | elem k i c =>
   simp only [Xia, run_bind] at hr
   obtain ⟨ys', bss, g1, σ1, hr, l1, l2, h1, m1⟩ := Cu h hls hr
   obtain ⟨e, he, hr⟩ := A2 hr
   obtain ⟨hv, hr⟩ := An hr
   rw [List.append_nil] at h1 m1
   have hp1 := POk.step m1.st (p := .elem k i c) (by exact hp)
   obtain ⟨_, x1, hx1, h0, hc⟩ := hp1
   rw [he] at hx1; cases hx1
   obtain ⟨t', q, a, len, cap, r1, r2, r3, r4, r5⟩ := hc (Nat.eq_of_beq_eq_true hv)
   obtain ⟨ec, ev0, ev1⟩ := e
   cases ec with
   | s m t0 l =>
    simp only [lstOf, Option.some.injEq, Prod.mk.injEq] at r1
    obtain ⟨rfl, rfl⟩ := r1
    simp only [run_bind] at hr
    obtain ⟨hm, hr⟩ := An hr
    split at hr
    ·rename_i z hz
     have hone : ∀ v ∈ ys, v.oneCell' = true := by
      intro v' hv'
      obtain ⟨j, hj, rfl⟩ := List.mem_iff_getElem.1 hv'
      have hcs : Cs w g1.S ys' ys bss := Sr (by rw [l1, hls.1]) (by rw [l2, hls.1]) fun x hx => h1.hand x hx
      have hjx : j < ys'.length := by rw [l1, ← hls.1]; exact hj
      obtain ⟨y1, q1, hy1, _, hlv⟩ := G6 hcs (List.getElem?_eq_getElem hjx)
      rw [List.getElem?_eq_getElem hj] at hy1
      cases hy1
      cases Qz : ys'[j] with
      | v z0 =>
       rw [Qz] at hlv
       rw [hlv.1]
       refine Xhs hz z0 ?_
       unfold Cb
       simp only [List.mem_append]
       exact .inl (.inr (by rw [← Qz]; exact List.getElem_mem hjx))
      | s m u l => rw [Qz] at hlv; obtain ⟨ad, c', h4⟩ := Br (hlv : Rd w g1.S (.sl u) m l [ys[j]] q1); rw [h4]; rfl
      | _ => rw [Qz] at hlv; exact hlv.elim
     obtain ⟨b, o, cap', vs0, bs0, hh, _⟩ := Hr h1 he r2
     rw [hh] at r4
     simp only [Value.slice.injEq, Option.some.injEq, Addr.mk.injEq, and_true] at r4
     obtain ⟨⟨hb, ho⟩, _, _⟩ := r4
     obtain ⟨w', g', hrun, hrel, hmv, hfr⟩ := h1.storeElem (P := P) (n := cond (Gq ys') 1 0) (by rw [l1, hls.1]) (by rw [l2, hls.1]) he (.inl rfl) hm r2 (by rw [l1, hlen]; omega) hz hone hh
      (by cases Gq ys' <;> simp)
     refine ⟨w', g', _, hr, ?_, hrel, m1.trans hmv, ?_⟩
     ·rw [r5, ← hb, ← ho]
      simp [Instr.storeAt, Instr.sureAddr, storeVar, Bn hf, hvs, hvc, hrun]
     ·exact Frm.pull m1 hfr
    ·simp [Pg.run] at hr
   | h m t0 l i' c' =>
    simp only [lstOf, Option.some.injEq, Prod.mk.injEq] at r1
    obtain ⟨rfl, rfl⟩ := r1
    simp only [run_bind] at hr
    obtain ⟨hm0, hr9⟩ := An hr
    simp only [Bool.and_eq_true] at hm0
    obtain ⟨⟨hm, hi2⟩, hi3⟩ := hm0
    obtain ⟨hi1, hr8⟩ := Cm hr9
    clear hr9
    have hi1 := of_decide_eq_true hi1
    have hi2 := Nat.eq_of_beq_eq_true hi2
    have hi3 := Nat.eq_of_beq_eq_true hi3
    subst hi1; subst hi2
    generalize hz : M0 m.nest t0 (Cb (enc m.nest t0 (nthD l i (Be t0))) c ys') = oz at hr8
    cases oz with
    | none => simp [Pg.run] at hr8
    | some z =>
     simp only [Pg.run] at hr8
     have hone : ∀ v ∈ ys, v.oneCell' = true := by
      intro v' hv'
      obtain ⟨j, hj, rfl⟩ := List.mem_iff_getElem.1 hv'
      have hcs : Cs w g1.S ys' ys bss := Sr (by rw [l1, hls.1]) (by rw [l2, hls.1]) fun x hx => h1.hand x hx
      have hjx : j < ys'.length := by rw [l1, ← hls.1]; exact hj
      obtain ⟨y1, q1, hy1, _, hlv⟩ := G6 hcs (List.getElem?_eq_getElem hjx)
      rw [List.getElem?_eq_getElem hj] at hy1
      cases hy1
      cases Qz : ys'[j] with
      | v z0 =>
       rw [Qz] at hlv
       rw [hlv.1]
       refine Xhs hz z0 ?_
       unfold Cb
       simp only [List.mem_append]
       exact .inl (.inr (by rw [← Qz]; exact List.getElem_mem hjx))
      | s m u l => rw [Qz] at hlv; obtain ⟨ad, c', h4⟩ := Br (hlv : Rd w g1.S (.sl u) m l [ys[j]] q1); rw [h4]; rfl
      | _ => rw [Qz] at hlv; exact hlv.elim
     obtain ⟨b, o, cap', hh⟩ := Xiq h1 he r2
     rw [hh] at r4
     simp only [Value.slice.injEq, Option.some.injEq, Addr.mk.injEq, and_true] at r4
     obtain ⟨⟨hb, ho⟩, _, _⟩ := r4
     obtain ⟨w', g', hrun, hrel, hmv, hfr⟩ := h1.storeElem (P := P) (n := 1) (by rw [l1, hls.1]) (by rw [l2, hls.1]) he (.inr ⟨rfl, hi3⟩) hm r2 (by rw [l1, hlen]; omega) hz hone hh
      (.inr (Nat.le_refl _))
     refine ⟨w', g', _, hr8, ?_, hrel, m1.trans hmv, ?_⟩
     ·rw [r5, ← hb, ← ho]
      simp [Instr.storeAt, Instr.sureAddr, storeVar, Bn hf, hvs, hvc, hrun]
     ·exact Frm.pull m1 hfr
   | _ => simp [Pg.run] at hr
 ·simp [Pg.run] at hr
end
end Go.Rf
end

section
set_option linter.unusedVariables false
set_option linter.unusedSimpArgs false
namespace Go.Rf
def Ed (w : World) (c : Array Value) (te : TypeId) : World := { w with heap := w.heap.push (.cells c te) }
theorem Nd {w : World} {c : Array Value} {te : TypeId} {b : Nat} (h : b < w.heap.size) : (Ed w c te).heap[b]? = w.heap[b]? := by
 simp only [Ed, Array.getElem?_push]
 rw [if_neg (by omega)]
theorem Vk {w : World} {c : Array Value} {te : TypeId} : (Ed w c te).heap[w.heap.size]? = some (.cells c te (0, 0)) := by
 simp only [Ed, Array.getElem?_push_size]
theorem Sg {w : World} {c : Array Value} {te : TypeId} : (Ed w c te).heap.size = w.heap.size + 1 := by simp [Ed]
section
variable {P : Program} {w : World} {g : Gh} {σ : St} {ts : Array Value} {H : Hand} {tab : Tab} {γ : Type} {r : γ}
theorem G9 {te : TypeId} {c : Array Value} : (Go.newRow te c).run P w = .ok ⟨w.heap.size, 0, none⟩ (Ed w c te) := by
 simp [Go.newRow, Ed]
theorem Rel.newCell (h : Rel w g σ ts H) {k b o : Nat} {x : Leaf} {y : Value} (he : σ.mem k = none) (hc : cellAt w b o = some y) (hb : BlkOk w b (o + 1))
  (hf : (∀ k', b ∉ g.bl k') ∧ b ∉ H.bs ∧ ¬ g.S b) (hi : ∀ k', g.ad k' ≠ some (b, o)) (hx : LfR w g σ.mem x y []) :
  Rel w { g with ad := Bu g.ad k (some (b, o)), hv := Bu g.hv k y } (σ.setM k ⟨x, 0, 0⟩) ts H ∧
  Step w g σ.mem w { g with ad := Bu g.ad k (some (b, o)), hv := Bu g.hv k y } (σ.setM k ⟨x, 0, 0⟩).mem := by
 obtain ⟨ha0, hb0⟩ := h.pres k he
 have hst : Step w g σ.mem w { g with ad := Bu g.ad k (some (b, o)), hv := Bu g.hv k y } (σ.setM k ⟨x, 0, 0⟩).mem :=
  Step.fresh he (fun _ h => h) (fun q a ha => by
   have : q ≠ k := fun hq => by subst hq; rw [ha0] at ha; cases ha
   simp only [Ax _ _ this]; exact ha) (fun q hq => Ax _ _ hq)
 refine ⟨⟨?_, ?_, ?_, ?_, fun t => (h.tmps t).step hst fun _ _ => rfl, h.len, h.nd, h.dj, ?_, h.st, h.hnd, h.hdj, h.hand⟩, hst⟩
 ·intro q e hq
  rw [St.mem_setM] at hq
  by_cases hqk : q = k
  ·subst hqk
   simp at hq; subst hq
   simp only [Ac]
   rw [hb0]
   exact hx.step hst fun _ _ => rfl
  ·simp only [hqk, if_false] at hq
   simp only [Ax _ _ hqk]
   exact (h.mem q e hq).step hst fun _ _ => rfl
 ·intro q b' o' ha
  by_cases hqk : q = k
  ·subst hqk
   simp only [Ac, Option.some.injEq, Prod.mk.injEq] at ha ⊢
   obtain ⟨rfl, rfl⟩ := ha
   exact ⟨hc, hb⟩
  ·simp only [Ax _ _ hqk] at ha ⊢
   exact h.cell q b' o' ha
 ·intro q q' a h1 h2
  by_cases hqk : q = k
  ·by_cases hqk' : q' = k
   ·rw [hqk, hqk']
   ·subst hqk
    simp only [Ac, Ax _ _ hqk', Option.some.injEq] at h1 h2
    subst h1
    exact absurd h2 (hi q')
  ·by_cases hqk' : q' = k
   ·subst hqk'
    simp only [Ac, Ax _ _ hqk, Option.some.injEq] at h1 h2
    subst h2
    exact absurd h1 (hi q)
   ·simp only [Ax _ _ hqk, Ax _ _ hqk'] at h1 h2
    exact h.inj q q' a h1 h2
 ·intro q hq
  rw [St.mem_setM] at hq
  by_cases hqk : q = k
  ·subst hqk; simp at hq
  ·simp only [hqk, if_false] at hq
   simp only [Ax _ _ hqk]
   exact h.pres q hq
 ·intro q b' o' ha
  by_cases hqk : q = k
  ·subst hqk
   simp only [Ac, Option.some.injEq, Prod.mk.injEq] at ha
   obtain ⟨rfl, rfl⟩ := ha
   exact hf
  ·simp only [Ax _ _ hqk] at ha
   exact h.box q b' o' ha
theorem Lr : ∀ {xs : List Leaf} {ys : List Value} {g : Gh} {σ : St} {k b o : Nat} (h : Rel w g σ ts H) (hx : LsR w g σ.mem xs ys)
  (hc : ∀ j v, ys[j]? = some v → cellAt w b (o + j) = some v) (hb : BlkOk w b (o + ys.length))
  (hf : (∀ k', b ∉ g.bl k') ∧ b ∉ H.bs ∧ ¬ g.S b) (hi : ∀ k' o', g.ad k' = some (b, o') → o' < o)
  {K : Unit → St → Option γ} (hr : (newRow k xs).run tab σ K = some r),
  ∃ g' σ', K () σ' = some r ∧ Rel w g' σ' ts H ∧ Step w g σ.mem w g' σ'.mem ∧ g'.bl = g.bl ∧ g'.S = g.S ∧
   (∀ q a, g'.ad q = some a → g.ad q = some a ∨ a.1 = b) ∧ ∀ j, j < xs.length → g'.ad (k + j) = some (b, o + j)
 | [], ys, g, σ, k, b, o, h, hx, hc, hb, hf, hi, K, hr => ⟨g, σ, hr, h, Step.refl _ _ _, rfl, rfl, fun _ _ h => .inl h, fun j hj => by simp at hj⟩
 | x :: xs, [], g, σ, k, b, o, h, hx, hc, hb, hf, hi, K, hr => by have := hx.1; simp at this
 | x :: xs, y :: ys, g, σ, k, b, o, h, hx, hc, hb, hf, hi, K, hr => by
  obtain ⟨hx1, hx2⟩ := hx.tail
  simp only [newRow, Pg.run] at hr
  cases he : σ.mem k with
  | some e => rw [he] at hr; simp [Pg.run] at hr
  | none =>
   rw [he] at hr
   simp only [Pg.run] at hr
   have hc0 := hc 0 y rfl
   simp only [Nat.add_zero] at hc0
   obtain ⟨h1, s1⟩ := h.newCell he hc0 (by obtain ⟨cs, te, a, b⟩ := hb; exact ⟨cs, te, a, by simp at b; omega⟩) hf (fun k' ha => by have := hi k' o ha; omega) hx1
   obtain ⟨g2, σ2, hr, h2, s2, e1, e2, e3, e4⟩ := Lr (k := k + 1) (b := b) (o := o + 1) h1 (hx2.step s1 fun _ _ => rfl)
    (fun j v hv => by have := hc (j + 1) v (by simpa using hv); rwa [show o + 1 + j = o + (j + 1) by omega])
    (by obtain ⟨cs, te, a, b⟩ := hb; exact ⟨cs, te, a, by simp at b; omega⟩) hf
    (fun k' o' ha => by
     by_cases hk : k' = k
     ·subst hk; simp only [Ac, Option.some.injEq, Prod.mk.injEq] at ha; omega
     ·simp only [Ax _ _ hk] at ha; have := hi k' o' ha; omega) hr
   refine ⟨g2, σ2, hr, h2, s1.trans s2, e1, e2, fun q a ha => ?_, fun j hj => ?_⟩
   ·rcases e3 q a ha with h3 | h3
    ·by_cases hk : q = k
     ·subst hk; simp only [Ac, Option.some.injEq] at h3; exact .inr (by rw [← h3])
     ·simp only [Ax _ _ hk] at h3; exact .inl h3
    ·exact .inr h3
   ·cases j with
    | zero => exact s2.ad k _ (by simp [Ac])
    | succ j =>
     have := e4 j (by simpa using hj)
     rwa [show k + (j + 1) = k + 1 + j by omega, show o + (j + 1) = o + 1 + j by omega]
theorem Xmd (h : Rel w g σ ts []) {xs : List Leaf} {ys : List Value} (hx : LsR w g σ.mem xs ys) {k : Nat} {te : TypeId}
  {K : Unit → St → Option γ} (hr : (newRow k xs).run tab σ K = some r) :
  ∃ g' σ', K () σ' = some r ∧ Rel (Ed w ys.toArray te) g' σ' ts [] ∧ Mv w g σ [] (Ed w ys.toArray te) g' σ' [] ∧ Frm w g (Ed w ys.toArray te) ∧
   AR (Ed w ys.toArray te) g' σ'.mem (.one (.ptr (.cell k) xs.length 0)) (.pointer (some ⟨w.heap.size, 0, none⟩)) := by
 have hgr := h.grow (w' := Ed w ys.toArray te) (fun b hb => Nd hb) (by rw [Sg]; omega)
 have hnew : (∀ k', w.heap.size ∉ g.bl k') ∧ w.heap.size ∉ Hand.bs ([] : Hand) ∧ ¬ g.S w.heap.size :=
  ⟨fun k' hb => by have := h.bllt k' _ hb; omega, (by intro h; cases h), fun hs => by have := (h.st _ hs).2.2; omega⟩
 have hst0 : Step w g σ.mem (Ed w ys.toArray te) g σ.mem := Step.world h (fun b hb => by
  refine Nd ?_
  rcases hb with hb | ⟨k, hb⟩
  ·exact (h.st b hb).2.2
  ·exact h.bllt k b hb) (fun _ h => h) (fun _ _ h => h) rfl
 obtain ⟨g', σ', hr, h1, s1, e1, e2, e3, e4⟩ := Lr (b := w.heap.size) (o := 0) hgr (hx.step hst0 fun b hb => Nd (h.st b hb).2.2)
  (fun j v hv => by rw [Nat.zero_add, Fx Vk]; simpa using hv) ⟨_, te, Vk, by simp⟩ hnew
  (fun k' o' ha => by have := h.adlt ha; omega) hr
 refine ⟨g', σ', hr, h1, ⟨hst0.trans s1, fun b hb => ?_, fun b hb => ?_, fun q a ha => ?_, by rw [Sg]; omega, ⟨rfl, rfl, rfl⟩⟩, fun b hb _ => .inl (Nd hb).symm, rfl, ?_⟩
 ·unfold Own at hb ⊢; rw [e1] at hb; exact .inl hb
 ·rw [e2] at hb; exact .inl hb
 ·rcases e3 q a ha with h2 | h2
  ·exact .inl h2
  ·exact .inr (by rw [h2]; exact Nat.le_refl _)
 ·exact ⟨w.heap.size, 0, rfl, fun j hj => by have := e4 j hj; simpa using this⟩
theorem Xb9 {mem : Mem} : ∀ (t : Ty), LsR w g mem (enc .own t (Be t)) (zv t) := by
 have key : ∀ (t : Ty), (zv t).length = wd t ∧ ∀ (i : Nat) (x : Leaf) (z : Value), (enc .own t (Be t))[i]? = some x → (zv t)[i]? = some z → LfR w g mem x z [] := by
  intro t
  induction t with
  | pair a b iha ihb =>
   refine ⟨by simp [zv, wd, iha.1, ihb.1], fun i x z h1 h2 => ?_⟩
   simp only [enc, Be, zv] at h1 h2
   by_cases hi : i < wd a
   ·rw [List.getElem?_append_left (by rw [A8]; exact hi)] at h1
    rw [List.getElem?_append_left (by rw [iha.1]; exact hi)] at h2
    exact iha.2 i x z h1 h2
   ·rw [List.getElem?_append_right (by rw [A8]; omega), A8] at h1
    rw [List.getElem?_append_right (by rw [iha.1]; omega), iha.1] at h2
    exact ihb.2 _ x z h1 h2
  | sl e ih =>
   refine ⟨rfl, fun i x z h1 h2 => ?_⟩
   cases i with
   | succ i => simp [enc] at h1
   | zero =>
    simp [enc, zv] at h1 h2; subst h1; subst h2
    exact ⟨_, rfl, none, 0, rfl, Nat.le_refl _, fun _ => rfl, .inl ⟨.inl rfl, rfl, rfl, rfl⟩⟩
  | _ =>
   refine ⟨rfl, fun i x z h1 h2 => ?_⟩
   cases i with
   | succ i => simp [enc] at h1
   | zero => simp [enc, zv, Be] at h1 h2; subst h1; subst h2; exact ⟨rfl, rfl⟩
 intro t
 exact ⟨by rw [(key t).1, A8], (key t).2⟩
theorem Xd4 {E : Env} (hE : ∀ t i, E.ty t = some i → TyOk P t i) (h : Rel w g σ ts []) {t d : Nat}
  {K : A → St → Option γ} (hr : (Xe3 E t d).run tab σ K = some r) :
  ∃ x v w' g' σ', K x σ' = some r ∧ (Instr.alloc t true (.tuple #[])).run P w = .ok v w' ∧ Rel w' g' σ' ts [] ∧ AR w' g' σ'.mem x v ∧ Mv w g σ [] w' g' σ' [] ∧ Frm w g w' := by
 unfold Xe3 at hr
 split at hr
 ·rename_i ty ag eb hty
  simp only [run_bind] at hr
  obtain ⟨f, hf, hsz, z, hz, hzc⟩ := (hE t _ hty).info
  simp only at hzc
  obtain ⟨g', σ', hr, h1, h2, h3, h4⟩ := Xmd (te := t) h (Xb9 ty) hr
  have hcc : z.cells = (zv ty).toArray := by rw [← hzc]
  rw [A8] at h4
  refine ⟨_, _, _, g', σ', hr, ?_, h1, h4, h2, h3⟩
  simp [Instr.alloc, zeroValue, Ht hf, hz, newVar, G9, hcc]
 ·simp [Pg.run] at hr
theorem Xrd {E : Env} (h : Rel w g σ ts []) {t d : Nat} {x : A} {y : Value} (hx : AR w g σ.mem x y)
  {K : A → St → Option γ} (hr : (X2b E t d x).run tab σ K = some r) :
  ∃ z v w' g' σ', K z σ' = some r ∧ (Instr.box t y).run P w = .ok v w' ∧ Rel w' g' σ' ts [] ∧ AR w' g' σ'.mem z v ∧ Mv w g σ [] w' g' σ' [] ∧ Frm w g w' := by
 unfold X2b at hr
 split at hr
 ·rename_i ty ag eb hty
  simp only [run_bind] at hr
  obtain ⟨xs, ys, hr, hls, hkind⟩ := Fz hx hr
  obtain ⟨hlit, hr⟩ := An hr
  have hlen := Nat.eq_of_beq_eq_true hlit
  have hvc : y.cells = ys.toArray := by
   rcases hkind with ⟨z, rfl, rfl, rfl, hok⟩ | ⟨rfl, rfl⟩
   ·rw [F9 (Hz hok hls.tail.1)]
   ·rfl
  obtain ⟨g', σ', hr, h1, h2, h3, h4⟩ := Xmd (te := t) h hls hr
  rw [hlen] at h4
  refine ⟨_, _, _, g', σ', hr, ?_, h1, h4, h2, h3⟩
  simp [Instr.box, newVar, G9, hvc]
 ·simp [Pg.run] at hr
end
end Go.Rf
end

section
set_option linter.unusedVariables false
set_option linter.unusedSimpArgs false
namespace Go.Rf
section
variable {P : Program} {w w' : World} {g : Gh} {σ : St} {ts : Array Value} {H : Hand} {tab : Tab} {γ : Type} {r : γ}
theorem Rj {cs : Array Value} {te : TypeId} (hw : w'.heap = w.heap.push (.cells cs te)) {b : Nat} (h : b < w.heap.size) : w'.heap[b]? = w.heap[b]? := by
 rw [hw, Array.getElem?_push, if_neg (by omega)]
theorem Xat {cs : Array Value} {te : TypeId} (hw : w'.heap = w.heap.push (.cells cs te)) : w'.heap[w.heap.size]? = some (.cells cs te (0, 0)) := by
 rw [hw, Array.getElem?_push_size]
theorem Ol {cs : Array Value} {te : TypeId} (hw : w'.heap = w.heap.push (.cells cs te)) : w'.heap.size = w.heap.size + 1 := by rw [hw]; simp
theorem Rel.old (h : Rel w g σ ts H) {b : Nat} (hb : g.S b ∨ Own g H b) : b < w.heap.size := by
 rcases hb with hb | ⟨k, hb⟩ | hb
 ·exact (h.st b hb).2.2
 ·exact h.bllt k b hb
 ·exact h.hdlt b hb
theorem Mv.push_world {cs : Array Value} {te : TypeId} (hw : w'.heap = w.heap.push (.cells cs te)) (hio : Io w w') (h : Rel w g σ ts H) : Mv w g σ H w' g σ H :=
 ⟨Step.world h (fun b hb => Rj hw (h.old (hb.imp id .inl))) (fun _ h => h) (fun _ _ h => h) rfl, fun _ h => .inl h, fun _ h => .inl h, fun _ _ h => .inl h, by rw [Ol hw]; omega, hio⟩
theorem Nt (h : Rel w g σ ts H) {cs : Array Value} {te : TypeId} (hw : w'.heap = w.heap.push (.cells cs te)) (hio : Io w w') {t : Ty} {m : Mode} {l : List (den t)} {c : Nat}
  (hm : m.isOwn = true) (hlc : l.length ≤ c) (hsz : c * wd t ≤ cs.size) {bss : List (List Nat)} (hbl : bss.length = l.length)
  (hsub : ∀ b ∈ bss.flatten, b ∈ H.bs) (hnd : bss.flatten.Nodup)
  (hel : ∀ (i : Nat) (x : den t) (b' : List Nat), l[i]? = some x → bss[i]? = some b' →
   ∃ vs : List Value, vs.length = wd t ∧ (∀ j, j < wd t → cs[i * wd t + j]? = vs[j]?) ∧ Rd w (fun b => g.S b ∨ b ∈ H.bs ∧ b ∉ bss.flatten) t m.nest x vs b') :
  ∃ g', Rel w' g' σ ts [(.s m t l, .slice (some ⟨w.heap.size, 0, none⟩) l.length c, w.heap.size :: bss.flatten)] ∧
   Mv w g σ H w' g' σ [(.s m t l, .slice (some ⟨w.heap.size, 0, none⟩) l.length c, w.heap.size :: bss.flatten)] ∧ (∀ b, g.S b → g'.S b) ∧ g'.ad = g.ad := by
 have hgr := h.grow (w' := w') (fun b hb => Rj hw hb) (by rw [Ol hw]; omega)
 have hHb : Hand.bs [(Leaf.s m t l, Value.slice (some ⟨w.heap.size, 0, none⟩) l.length c, w.heap.size :: bss.flatten)] = w.heap.size :: bss.flatten := by simp [Hand.bs]
 have hnew : w.heap.size ∉ H.bs := fun hb => by have := h.hdlt _ hb; omega
 have hF : ∀ b, b = w.heap.size → (∀ k, b ∉ g.bl k) ∧ ¬ g.S b ∧ ∀ k o, g.ad k ≠ some (b, o) := by
  rintro b rfl
  exact ⟨fun k hb => by have := h.bllt k _ hb; omega, fun hs => by have := (h.st _ hs).2.2; omega, fun k o ha => by have := h.adlt ha; omega⟩
 have hs : ∀ b ∈ Hand.bs [(Leaf.s m t l, Value.slice (some ⟨w.heap.size, 0, none⟩) l.length c, w.heap.size :: bss.flatten)], b ∈ H.bs ∨ b = w.heap.size := by
  intro b hb
  rw [hHb] at hb
  rcases List.mem_cons.1 hb with rfl | hb
  ·exact .inr rfl
  ·exact .inl (hsub b hb)
 refine ⟨_, hgr.rehand (fun b => b = w.heap.size) hF (fun b hb => by rw [hb, Ol hw]; omega) hs ?_ ?_, Mv.rehand hgr (fun b => b = w.heap.size) (fun b hb => by omega) hs (Mv.push_world hw hio h), fun b hb => .inl hb, rfl⟩
 ·rw [hHb]
  exact List.nodup_cons.2 ⟨fun hb => hnew (hsub _ hb), hnd⟩
 ·intro x hx
  have hx : x = _ := List.mem_singleton.1 hx
  subst hx
  refine ⟨_, rfl, some ⟨w.heap.size, 0, none⟩, c, rfl, hlc, fun h => absurd h (Hy hm), .inr ⟨w.heap.size, 0, bss, rfl, hbl, fun _ => ⟨rfl, cs, te, Xat hw, by omega⟩, fun (hf : m.isOwn = false) => absurd (hm.symm.trans hf) (by simp), by simp, ?_⟩⟩
  intro i x b' _ hx hb'
  obtain ⟨vs, h1, h2, h3⟩ := hel i x b' hx hb'
  refine ⟨vs, h1, fun j hj => by rw [Fx (Xat hw), Nat.zero_add]; exact h2 j hj, h3.imp ?_ fun b hb => Rj hw ?_⟩
  ·rintro b (hb | ⟨hb, hb'⟩)
   ·exact .inl hb
   ·refine .inr ⟨.inl hb, ?_⟩
    rw [hHb]
    intro hq
    rcases List.mem_cons.1 hq with rfl | hq
    ·exact hnew hb
    ·exact hb' hq
  ·rcases hb with (hb | ⟨hb, _⟩) | hb
   ·exact (h.st b hb).2.2
   ·exact h.hdlt b hb
   ·exact Ld h3 b hb
theorem Frm.push {cs : Array Value} {te : TypeId} (hw : w'.heap = w.heap.push (.cells cs te)) : Frm w g w' := fun b hb _ => .inl (Rj hw hb).symm
theorem B3 {x : Leaf} {y : Value} {bs : List Nat} (h : Rel w g σ ts ((x, y, bs) :: H)) {k : Nat} {K : Leaf → St → Option γ} (hr : (Co k x).run tab σ K = some r) :
  ∃ z g' σ', K z σ' = some r ∧ Rel w g' σ' ts H ∧ Mv w g σ ((x, y, bs) :: H) w g' σ' H ∧ LfR w g' σ'.mem z y [] ∧ D8 z = D8 x ∧ g'.S = g.S := by
 have hx := h.hand (x, y, bs) List.mem_cons_self
 have hdrop : Mv w g σ ((x, y, bs) :: H) w g σ H := ⟨Step.refl _ _ _, fun b hb => .inl (hb.imp id fun hb => by rw [Hand.bs_cons]; exact List.mem_append_right _ hb), fun _ h => .inl h, fun _ _ h => .inl h, Nat.le_refl _, Io.refl _⟩
 cases x with
 | v z => exact ⟨_, g, σ, hr, h.drop, hdrop, ⟨hx.1, rfl⟩, rfl, rfl⟩
 | s m t l =>
  simp only [Co] at hr
  have hrd : Rd w g.S (.sl t) m l [y] bs := hx
  cases hm : m.isOwn with
  | true =>
   rw [hm] at hr
   simp only [cond_true, run_bind, newRow, Pg.run] at hr
   cases he : σ.mem k with
   | some e => rw [he] at hr; simp [Pg.run] at hr
   | none =>
    rw [he] at hr
    simp only [Pg.run] at hr
    obtain ⟨ad, c, hy⟩ := Br hrd
    refine ⟨_, _, _, hr, h.root he, ⟨Step.fresh he (fun _ h => h) (fun _ _ h => h) (fun q hq => Ax _ _ hq), ?_, fun _ h => .inl h, fun _ _ h => .inl h, Nat.le_refl _, Io.refl _⟩, Rel.rootAlias ⟨ad, _, c, hy⟩, rfl, rfl⟩
    intro b hb
    left
    rcases hb with ⟨q, hq⟩ | hb
    ·by_cases hqk : q = k
     ·subst hqk; simp only [Ac] at hq; exact .inr (by rw [Hand.bs_cons]; exact List.mem_append_left _ hq)
     ·simp only [Ax _ _ hqk] at hq; exact .inl ⟨q, hq⟩
    ·exact .inr (by rw [Hand.bs_cons]; exact List.mem_append_right _ hb)
  | false =>
   rw [hm] at hr
   simp only [cond_false, Pg.run] at hr
   have hb := C4 hrd hm
   subst hb
   exact ⟨_, g, σ, hr, h.drop, hdrop, hrd, rfl, rfl⟩
 | _ => exact hx.elim
theorem Rk {S : Nat → Prop} : ∀ (t : Ty) (m : Mode), Rd w S t m (Be t) (zv t) []
 | .int k, m => ⟨rfl, rfl⟩
 | .bool, m => ⟨rfl, rfl⟩
 | .str, m => ⟨rfl, rfl⟩
 | .sl e, m => ⟨_, rfl, none, 0, rfl, Nat.le_refl _, fun _ => rfl, .inl ⟨.inl rfl, rfl, rfl, rfl⟩⟩
 | .pair a b, m => ⟨zv a, zv b, [], [], rfl, rfl, Rk a m, Rk b m⟩
theorem Lu : ∀ t, (zv t).length = wd t
 | .int k => rfl
 | .bool => rfl
 | .str => rfl
 | .sl e => rfl
 | .pair a b => by simp [zv, wd, Lu a, Lu b]
theorem Xj9 {E : Env} (hE : ∀ t i, E.ty t = some i → TyOk P t i) (h : Rel w g σ ts []) {t d : Nat} {x y : A} {u v : Value} (hx : AR w g σ.mem x u) (hy : AR w g σ.mem y v)
  {K : A → St → Option γ} (hr : (Xpr E t d x y).run tab σ K = some r) :
  ∃ z q w' g' σ', K z σ' = some r ∧ (Instr.makeSlice t u v).run P w = .ok q w' ∧ Rel w' g' σ' ts [] ∧ AR w' g' σ'.mem z q ∧ Mv w g σ [] w' g' σ' [] ∧ Frm w g w' := by
 unfold Xpr at hr
 split at hr
 ·rename_i e eb n c hty
  rw [run_bind] at hr
  obtain ⟨heb, hr⟩ := An hr
  have heb : 1 ≤ eb := Nat.le_of_ble_eq_true heb
  rcases E9 hr with ⟨hb, hr2⟩ | ⟨_, hr2⟩
  ·clear hr
   simp only [Bool.and_eq_true, decide_eq_true_eq] at hb
   obtain ⟨⟨h0, rfl⟩, hle⟩ := hb
   obtain ⟨te, f, hu, hf, hfs, hfb, zz, hz, hzc⟩ := (hE t _ hty).sl e rfl rfl
   simp only at hfb
   obtain ⟨rfl, _⟩ := (hx : u = _ ∧ _)
   obtain ⟨rfl, _⟩ := (hy : v = _ ∧ _)
   have hn63 : n ≤ 9223372036854775807 := by
    have h1 : n * 1 ≤ n * (eb : Int) := Int.mul_le_mul_of_nonneg_left (by omega) h0
    omega
   have hrun := run_make (P := P) w t te f zz hu hf hz .i64 .i64 n n h0 (Int.le_refl _) (by rw [hfb, Int.mul_comm]; omega) hn63
   have hzs : zz.cells.size = wd e := by rw [← Array.length_toList, hzc, Lu]
   have hfr := Nt (m := .own) (t := e) (l := List.replicate n.toNat (Be e)) (c := n.toNat) (bss := List.replicate n.toNat []) h
    (w' := w.alloc (.cells (madeCells zz.cells (n.toNat * f.size)) te)) (cs := madeCells zz.cells (n.toNat * f.size)) (te := te) rfl ⟨rfl, rfl, rfl⟩ rfl (by simp) (by rw [size_madeCells, hfs]; exact Nat.le_refl _)
    (by simp) (by simp) (by simp) (by
     intro i x b' hx hb'
     have hi : i < n.toNat := by have := (List.getElem?_eq_some_iff.1 hx).1; simpa using this
     rw [List.getElem?_replicate, if_pos hi] at hx hb'
     cases hx; cases hb'
     refine ⟨zv e, Lu e, fun j hj => ?_, Rk e _⟩
     have hlt : i * wd e + j < n.toNat * f.size := by
      rw [hfs]
      have := Nat.mul_le_mul_right (wd e) (show i + 1 ≤ n.toNat from hi)
      rw [Nat.add_mul, Nat.one_mul] at this
      omega
     have hmod : (i * wd e + j) % zz.cells.size = j := by rw [hzs, Nat.mul_comm, Nat.mul_add_mod]; exact Nat.mod_eq_of_lt hj
     have hjz : j < zz.cells.size := by omega
     simp only [madeCells, Array.getElem?_map]
     rw [Array.getElem?_range, if_pos hlt]
     simp only [Option.map_some, hmod, getElem!_pos zz.cells j hjz]
     rw [← hzc, Array.getElem?_toList, Array.getElem?_eq_getElem hjz])
   obtain ⟨g1, h1, m1, _, _⟩ := hfr
   rw [run_bind] at hr2
   obtain ⟨z', g2, σ2, hr, h2, m2, hl, _, _⟩ := B3 h1 hr2
   refine ⟨_, _, _, g2, σ2, hr, hrun, h2, ?_, m1.trans m2, Frm.push rfl⟩
   have : (List.replicate n.toNat (Be e)).length = n.toNat := by simp
   rw [this] at hl
   exact hl
  ·simp [Pg.run] at hr2
 ·simp [Pg.run] at hr
end
end Go.Rf
end

section
set_option linter.unusedVariables false
set_option linter.unusedSimpArgs false
namespace Go.Rf
theorem Ie {α : Type} {n : Nat} : ∀ {vss : List (List α)}, (∀ v ∈ vss, v.length = n) → ∀ (i j : Nat), j < n → vss.flatten[i * n + j]? = (vss[i]?).bind fun v => v[j]?
 | [], _, i, j, _ => by simp
 | v :: vss, h, 0, j, hj => by
  have hv := h v (by simp)
  simp only [Nat.zero_mul, Nat.zero_add, List.flatten_cons]
  rw [List.getElem?_append_left (by omega)]
  simp
 | v :: vss, h, i + 1, j, hj => by
  have hv := h v (by simp)
  simp only [List.flatten_cons, List.getElem?_cons_succ]
  rw [List.getElem?_append_right (by rw [Nat.add_mul]; omega), ← Ie (fun u hu => h u (List.mem_cons_of_mem _ hu)) i j hj]
  congr 1
  rw [Nat.add_mul]; omega
theorem Cr {α : Type} {n : Nat} : ∀ {vss : List (List α)}, (∀ v ∈ vss, v.length = n) → vss.flatten.length = vss.length * n
 | [], _ => by simp
 | v :: vss, h => by
  simp only [List.flatten_cons, List.length_append, List.length_cons, h v (by simp), Cr (fun u hu => h u (List.mem_cons_of_mem _ hu))]
  rw [Nat.add_mul]; omega
section
variable {P : Program} {w w' : World} {g : Gh} {σ : St} {ts : Array Value} {H H' : Hand} {tab : Tab} {γ : Type} {r : γ}
theorem SlR.rows {S : Nat → Prop} {α : Type} {n : Nat} {m : Mode} {el : α → List Value → List Nat → Prop} {l : List α} {y : Value} {bs : List Nat}
  (h : SlR w S n m none el l y bs) : ∃ (vss : List (List Value)) (bss : List (List Nat)) (ad : Option Addr) (c : Nat), y = .slice ad l.length c ∧ l.length ≤ c ∧ (m = .rox → c = l.length) ∧
   vss.length = l.length ∧ bss.length = l.length ∧ (∀ v ∈ vss, v.length = n) ∧
   (∀ (i : Nat) (x : α) (v : List Value) (b' : List Nat), l[i]? = some x → vss[i]? = some v → bss[i]? = some b' → el x v b') ∧
   (((ad = none ∨ m.isOwn = false) ∧ l = [] ∧ c = 0 ∧ bs = []) ∨ ∃ b o, ad = some ⟨b, o, none⟩ ∧ (∀ j u, vss.flatten[j]? = some u → cellAt w b (o + j) = some u) ∧
    (m.isOwn = true → bs = b :: bss.flatten ∧ BlkOk w b (o + c * n)) ∧ (m.isOwn = false → bs = [] ∧ bss.flatten = [] ∧ (l ≠ [] → S b))) := by
 obtain ⟨ad, c, hy, hc, hx, hr⟩ := h
 rcases hr with ⟨h1, h2, h3, h4⟩ | ⟨b, o, bss, had, hlen, ho, hro, hh, hel⟩
 ·subst h2
  exact ⟨[], [], ad, c, hy, hc, hx, rfl, rfl, by simp, by simp, .inl ⟨h1, rfl, h3, h4⟩⟩
 have hch : ∀ i : Fin l.length, ∃ vs : List Value, vs.length = n ∧ (∀ j, j < n → cellAt w b (o + i.1 * n + j) = vs[j]?) ∧ el l[i] vs (bss[i.1]'(by rw [hlen]; exact i.2)) :=
  fun i => hel i.1 l[i] _ (by simp) (List.getElem?_eq_getElem i.2) (List.getElem?_eq_getElem (by rw [hlen]; exact i.2))
 let vss := (List.finRange l.length).map fun i => Classical.choose (hch i)
 have hvs : ∀ (i : Nat) (hi : i < l.length), vss[i]? = some (Classical.choose (hch ⟨i, hi⟩)) := by
  intro i hi
  simp only [vss, List.getElem?_map]
  rw [List.getElem?_eq_getElem (by simpa using hi)]
  simp
 have hvl : ∀ v ∈ vss, v.length = n := by
  intro v hv
  simp only [vss, List.mem_map] at hv
  obtain ⟨i, _, rfl⟩ := hv
  exact (Classical.choose_spec (hch i)).1
 refine ⟨vss, bss, ad, c, hy, hc, hx, by simp [vss], hlen, hvl, ?_, .inr ⟨b, o, had, ?_, ho, hro⟩⟩
 ·intro i x v b' h1 h2 h3
  have hi : i < l.length := (List.getElem?_eq_some_iff.1 h1).1
  rw [hvs i hi] at h2
  rw [List.getElem?_eq_getElem hi] at h1
  rw [List.getElem?_eq_getElem (by rw [hlen]; exact hi)] at h3
  cases h1; cases h2; cases h3
  exact (Classical.choose_spec (hch ⟨i, hi⟩)).2.2
 ·intro j u hu
  have hj : j < l.length * n := by
   have := (List.getElem?_eq_some_iff.1 hu).1
   rw [Cr hvl] at this
   simpa [vss] using this
  have hn : 0 < n := by
   cases n with
   | zero => simp at hj
   | succ n => omega
  have hdm : j / n * n + j % n = j := by rw [Nat.mul_comm]; exact Nat.div_add_mod j n
  have hi : j / n < l.length := (Nat.div_lt_iff_lt_mul hn).2 hj
  have hm := Nat.mod_lt j hn
  rw [← hdm, Ie hvl _ _ hm, hvs _ hi] at hu
  simp only [Option.bind_some] at hu
  have h2 := (Classical.choose_spec (hch ⟨j / n, hi⟩)).2.1 (j % n) hm
  rw [hu] at h2
  rw [← h2]
  congr 1
  simp only
  omega
theorem Rel.rehandW (h : Rel w g σ ts H) (hw : ∀ q, q ∉ H.bs → q < w.heap.size → w'.heap[q]? = w.heap[q]?) (hsz : w.heap.size ≤ w'.heap.size) (hio : Io w w')
  (hs : ∀ b ∈ H'.bs, b ∈ H.bs) (hnd : H'.bs.Nodup) (hand : ∀ x ∈ H', LfV w' (fun b => g.S b ∨ b ∈ H.bs ∧ b ∉ H'.bs) x.1 x.2.1 x.2.2) :
  Rel w' { g with S := fun b => g.S b ∨ b ∈ H.bs ∧ b ∉ H'.bs } σ ts H' ∧ Mv w g σ H w' { g with S := fun b => g.S b ∨ b ∈ H.bs ∧ b ∉ H'.bs } σ H' := by
 have hold : ∀ b, (g.S b ∨ ∃ k, b ∈ g.bl k) → w'.heap[b]? = w.heap[b]? := by
  intro b hb
  refine hw b (fun hh => ?_) (h.old (hb.imp id .inl))
  rcases hb with hb | ⟨k, hb⟩
  ·exact (h.st b hb).2.1 hh
  ·exact h.hdj k b hb hh
 have hst : Step w g σ.mem w' { g with S := fun b => g.S b ∨ b ∈ H.bs ∧ b ∉ H'.bs } σ.mem := Step.world h hold (fun b hb => .inl hb) (fun _ _ h => h) rfl
 refine ⟨⟨fun k e he => (h.mem k e he).step hst fun b hb => hold b (hb.imp id fun h => ⟨k, h⟩), ?_, h.inj, h.pres, fun t => (h.tmps t).step hst fun b hb => hold b (.inl hb), h.len, h.nd, h.dj, ?_, ?_, hnd, fun k b hb hb' => h.hdj k b hb (hs b hb'), hand⟩,
  hst, fun b hb => .inl (hb.imp id fun hb => hs b hb), fun b hb => ?_, fun _ _ h => .inl h, hsz, hio⟩
 ·intro k b o ha
  obtain ⟨h1, h2⟩ := h.cell k b o ha
  have := hw b (h.box k b o ha).2.1 (h.adlt ha)
  exact ⟨(A4 this).trans h1, h2.same this⟩
 ·intro k b o ha
  obtain ⟨h1, h2, h3⟩ := h.box k b o ha
  exact ⟨h1, fun hb => h2 (hs b hb), fun hb => hb.elim h3 fun h4 => h2 h4.1⟩
 ·rintro b (hb | ⟨hb, hb'⟩)
  ·exact ⟨(h.st b hb).1, fun h4 => (h.st b hb).2.1 (hs b h4), Nat.lt_of_lt_of_le (h.st b hb).2.2 hsz⟩
  ·exact ⟨fun k hk => h.hdj k b hk hb, hb', Nat.lt_of_lt_of_le (h.hdlt b hb) hsz⟩
 ·rcases hb with hb | ⟨hb, _⟩
  ·exact .inl hb
  ·exact .inr (.inl (.inr hb))
theorem Xg4 {S S' : Nat → Prop} {m m' : Mode} : ∀ {t : Ty} {x : den t} {vs : List Value} {bs : List Nat}, Bc t = false → Rd w S t m x vs bs → bs = [] ∧ Rd w S' t m' x vs [] := by
 intro t
 induction t with
 | int k => rintro x vs bs _ ⟨h1, h2⟩; exact ⟨h2, h1, rfl⟩
 | bool => rintro x vs bs _ ⟨h1, h2⟩; exact ⟨h2, h1, rfl⟩
 | str => rintro x vs bs _ ⟨h1, h2⟩; exact ⟨h2, h1, rfl⟩
 | sl e ih => intro x vs bs h; simp [Bc] at h
 | pair a b iha ihb =>
  rintro x vs bs h ⟨v1, v2, b1, b2, rfl, rfl, h1, h2⟩
  simp only [Bc, Bool.or_eq_false_iff] at h
  obtain ⟨rfl, g1⟩ := iha h.1 h1
  obtain ⟨rfl, g2⟩ := ihb h.2 h2
  exact ⟨rfl, v1, v2, [], [], rfl, rfl, g1, g2⟩
theorem Xou {S : Nat → Prop} {t : Ty} {x : den t} {vs : List Value} {bs : List Nat} {mi M : Mode} (h : Rd w S t mi.nest x vs bs) (hM : M.isOwn = true)
  (hc : M = .own → mi = .own ∨ Bc t = false) : ∃ bs', List.Sublist bs' bs ∧ Rd w (fun b => S b ∨ b ∈ bs ∧ b ∉ bs') t M.nest x vs bs' := by
 cases M with
 | own =>
  rcases hc rfl with rfl | hs
  ·exact ⟨bs, List.Sublist.refl _, h.imp (fun _ hb => .inl hb) fun _ _ => rfl⟩
  ·exact ⟨[], List.nil_sublist _, (Xg4 hs h).2⟩
 | sown => exact ⟨[], List.nil_sublist _, h.toRo.imp (fun b hb => hb.imp id fun h => ⟨h, by simp⟩) fun _ _ => rfl⟩
 | _ => simp [Mode.isOwn] at hM
theorem Ow {S : Nat → Prop} {t : Ty} {M : Mode} (hM : M.isOwn = true) : ∀ {l : List (den t)} {vss : List (List Value)} {bss : List (List Nat)} {mi : Nat → Mode},
  vss.length = l.length → bss.length = l.length → (∀ i, M = .own → mi i = .own ∨ Bc t = false) →
  (∀ (i : Nat) (x : den t) (v : List Value) (b' : List Nat), l[i]? = some x → vss[i]? = some v → bss[i]? = some b' → Rd w S t (mi i).nest x v b') → bss.flatten.Nodup →
  ∃ bss' : List (List Nat), bss'.length = l.length ∧ List.Sublist bss'.flatten bss.flatten ∧
   ∀ (i : Nat) (x : den t) (v : List Value) (b' : List Nat), l[i]? = some x → vss[i]? = some v → bss'[i]? = some b' → Rd w (fun b => S b ∨ b ∈ bss.flatten ∧ b ∉ bss'.flatten) t M.nest x v b'
 | [], vss, bss, mi, h1, h2, hc, h, hnd => ⟨[], rfl, by simp, by simp⟩
 | x :: l, v :: vss, b :: bss, mi, h1, h2, hc, h, hnd => by
  simp only [List.flatten_cons] at hnd
  obtain ⟨n1, n2, n3⟩ := List.nodup_append.1 hnd
  obtain ⟨b', s1, r1⟩ := Xou (h 0 x v b rfl rfl rfl) hM (hc 0)
  obtain ⟨bss', l1, s2, r2⟩ := Ow hM (l := l) (vss := vss) (bss := bss) (mi := fun i => mi (i + 1)) (by simpa using h1) (by simpa using h2) (fun i => hc (i + 1))
   (fun i x v b' a1 a2 a3 => h (i + 1) x v b' (by simpa using a1) (by simpa using a2) (by simpa using a3)) n2
  refine ⟨b' :: bss', by simp [l1], by simp only [List.flatten_cons]; exact s1.append s2, fun i y u c a1 a2 a3 => ?_⟩
  cases i with
  | zero =>
   simp at a1 a2 a3
   subst a1; subst a2; subst a3
   refine r1.imp (fun q hq => ?_) fun _ _ => rfl
   rcases hq with hq | ⟨hq, hq'⟩
   ·exact .inl hq
   ·refine .inr ⟨by simp [hq], ?_⟩
    simp only [List.flatten_cons, List.mem_append, not_or]
    exact ⟨hq', fun h5 => n3 q hq q (s2.subset h5) rfl⟩
  | succ i =>
   have := r2 i y u c (by simpa using a1) (by simpa using a2) (by simpa using a3)
   refine this.imp (fun q hq => ?_) fun _ _ => rfl
   rcases hq with hq | ⟨hq, hq'⟩
   ·exact .inl hq
   ·refine .inr ⟨by simp only [List.flatten_cons, List.mem_append]; exact .inr hq, ?_⟩
    simp only [List.flatten_cons, List.mem_append, not_or]
    exact ⟨fun h5 => n3 q (s1.subset h5) q hq rfl, hq'⟩
 | x :: l, [], bss, mi, h1, h2, hc, h, hnd => by simp at h1
 | x :: l, v :: vss, [], mi, h1, h2, hc, h, hnd => by simp at h2
end
end Go.Rf
end

section
set_option linter.unusedVariables false
set_option linter.unusedSimpArgs false
namespace Go.Rf
section
variable {P : Program} {w w' : World} {g : Gh} {σ : St} {ts : Array Value} {H H' : Hand} {tab : Tab} {γ : Type} {r : γ}
theorem Xa2 (h : Rel w g σ ts H) {e : Ty} {l0 l1 : List (den e)} {vss0 vss1 : List (List Value)} {bss0 bss1 : List (List Nat)} {m0 m1 M : Mode}
  (a0 : vss0.length = l0.length) (a1 : vss1.length = l1.length) (b0 : bss0.length = l0.length) (b1 : bss1.length = l1.length)
  (hv0 : ∀ v ∈ vss0, v.length = wd e) (hv1 : ∀ v ∈ vss1, v.length = wd e)
  (e0 : ∀ (i : Nat) (x : den e) (v : List Value) (b' : List Nat), l0[i]? = some x → vss0[i]? = some v → bss0[i]? = some b' → Rd w g.S e m0.nest x v b')
  (e1 : ∀ (i : Nat) (x : den e) (v : List Value) (b' : List Nat), l1[i]? = some x → vss1[i]? = some v → bss1[i]? = some b' → Rd w g.S e m1.nest x v b')
  (hM : M.isOwn = true) (hc0 : M = .own → m0 = .own ∨ Bc e = false) (hc1 : M = .own → m1 = .own ∨ Bc e = false)
  (hsub : ∀ b ∈ (bss0 ++ bss1).flatten, b ∈ H.bs) (hnd : (bss0 ++ bss1).flatten.Nodup)
  {zs : Array Value} {te : TypeId} {c : Nat} (hw : w'.heap = w.heap.push (.cells (vss0.flatten.toArray ++ vss1.flatten.toArray ++ zs) te)) (hio : Io w w')
  (hlc : l0.length + l1.length ≤ c) (hsz : c * wd e ≤ (vss0.flatten.toArray ++ vss1.flatten.toArray ++ zs).size) :
  ∃ g' bs', Rel w' g' σ ts [(.s M e (l0 ++ l1), .slice (some ⟨w.heap.size, 0, none⟩) (l0 ++ l1).length c, bs')] ∧
   Mv w g σ H w' g' σ [(.s M e (l0 ++ l1), .slice (some ⟨w.heap.size, 0, none⟩) (l0 ++ l1).length c, bs')] ∧ (∀ b, g.S b → g'.S b) ∧ g'.ad = g.ad := by
 have hv : ∀ v ∈ vss0 ++ vss1, v.length = wd e := fun v hv => (List.mem_append.1 hv).elim (hv0 v) (hv1 v)
 obtain ⟨bss', l', s', r'⟩ := Ow (w := w) (S := g.S) hM (l := l0 ++ l1) (vss := vss0 ++ vss1) (bss := bss0 ++ bss1) (mi := fun i => if i < l0.length then m0 else m1)
  (by simp [a0, a1]) (by simp [b0, b1]) (fun i hMo => by split; exact hc0 hMo; exact hc1 hMo) (fun i x v b' h1 h2 h3 => by
   by_cases hi : i < l0.length
   ·rw [if_pos hi]
    rw [List.getElem?_append_left hi] at h1
    rw [List.getElem?_append_left (by omega)] at h2 h3
    exact e0 i x v b' h1 h2 h3
   ·rw [if_neg hi]
    rw [List.getElem?_append_right (by omega)] at h1 h2 h3
    rw [a0] at h2; rw [b0] at h3
    exact e1 _ x v b' h1 h2 h3) hnd
 obtain ⟨g', h1, m1', h2, h3⟩ := Nt (m := M) (l := l0 ++ l1) (c := c) (bss := bss') h hw hio hM (by simpa using hlc) hsz l' (fun b hb => hsub b (s'.subset hb)) (List.Nodup.sublist s' hnd)
  (fun i x b' hx hb' => by
   have hi : i < (vss0 ++ vss1).length := by
    have := (List.getElem?_eq_some_iff.1 hx).1
    simp only [List.length_append] at this ⊢; omega
   refine ⟨(vss0 ++ vss1)[i], hv _ (List.getElem_mem hi), fun j hj => ?_, ?_⟩
   ·have hlt : i * wd e + j < (vss0 ++ vss1).flatten.length := by
     rw [Cr hv]
     have := Nat.mul_le_mul_right (wd e) (show i + 1 ≤ (vss0 ++ vss1).length from hi)
     rw [Nat.add_mul, Nat.one_mul] at this
     omega
    have hcs : (vss0.flatten.toArray ++ vss1.flatten.toArray ++ zs)[i * wd e + j]? = (vss0 ++ vss1).flatten[i * wd e + j]? := by
     rw [← Array.getElem?_toList]
     simp only [Array.toList_append, List.append_assoc]
     rw [← List.append_assoc, List.getElem?_append_left (by simpa [List.flatten_append] using hlt)]
     simp [List.flatten_append]
    rw [hcs, Ie hv i j hj, List.getElem?_eq_getElem hi]
    rfl
   ·refine (r' i x _ b' hx (List.getElem?_eq_getElem hi) hb').imp (fun q hq => ?_) fun _ _ => rfl
    exact hq.imp id fun hq => ⟨hsub q hq.1, hq.2⟩)
 exact ⟨g', _, h1, m1', h2, h3⟩
theorem Xfa (h : Rel w g σ ts H) {e : Ty} {l0 l1 : List (den e)} {vss0 vss1 : List (List Value)} {bss0 bss1 : List (List Nat)} {m0 m1 M : Mode} {b o c : Nat}
  (a0 : vss0.length = l0.length) (a1 : vss1.length = l1.length) (b0 : bss0.length = l0.length) (b1 : bss1.length = l1.length)
  (hv0 : ∀ v ∈ vss0, v.length = wd e) (hv1 : ∀ v ∈ vss1, v.length = wd e)
  (e0 : ∀ (i : Nat) (x : den e) (v : List Value) (b' : List Nat), l0[i]? = some x → vss0[i]? = some v → bss0[i]? = some b' → Rd w g.S e m0.nest x v b')
  (e1 : ∀ (i : Nat) (x : den e) (v : List Value) (b' : List Nat), l1[i]? = some x → vss1[i]? = some v → bss1[i]? = some b' → Rd w g.S e m1.nest x v b')
  (hM : M.isOwn = true) (hc0 : M = .own → m0 = .own ∨ Bc e = false) (hc1 : M = .own → m1 = .own ∨ Bc e = false)
  (hsub : ∀ q ∈ b :: (bss0 ++ bss1).flatten, q ∈ H.bs) (hnd : (b :: (bss0 ++ bss1).flatten).Nodup)
  (hold : ∀ j u, vss0.flatten[j]? = some u → cellAt w b (o + j) = some u) (hblk : BlkOk w b (o + c * wd e)) (hlc : l0.length + l1.length ≤ c)
  (hone : ∀ v ∈ vss1.flatten, v.oneCell' = true) :
  ∃ w' g' bs', (storeCells ⟨b, o + l0.length * wd e, none⟩ vss1.flatten 0).run P w = .ok () w' ∧
   Rel w' g' σ ts [(.s M e (l0 ++ l1), .slice (some ⟨b, o, none⟩) (l0 ++ l1).length c, bs')] ∧
   Mv w g σ H w' g' σ [(.s M e (l0 ++ l1), .slice (some ⟨b, o, none⟩) (l0 ++ l1).length c, bs')] ∧ (∀ q, q ≠ b → w'.heap[q]? = w.heap[q]?) := by
 have hv : ∀ v ∈ vss0 ++ vss1, v.length = wd e := fun v hv => (List.mem_append.1 hv).elim (hv0 v) (hv1 v)
 obtain ⟨hb0, hnd'⟩ := List.nodup_cons.1 hnd
 have hbH : b ∈ H.bs := hsub b List.mem_cons_self
 have hlen1 : vss1.flatten.length = l1.length * wd e := by rw [Cr hv1, a1]
 have hcm : l0.length * wd e + l1.length * wd e ≤ c * wd e := by rw [← Nat.add_mul]; exact Nat.mul_le_mul_right _ hlc
 obtain ⟨w', hrun, hq, hblk', hcell, hsz, hio⟩ := D7 (P := P) (b := b) (o := o + l0.length * wd e) (vs := vss1.flatten) (i := 0) (w := w)
  (by obtain ⟨cs, te, x1, x2⟩ := hblk; exact ⟨cs, te, x1, by rw [hlen1]; omega⟩) hone
 simp only [Nat.add_zero] at hcell
 obtain ⟨bss', l', s', r'⟩ := Ow (w := w) (S := g.S) hM (l := l0 ++ l1) (vss := vss0 ++ vss1) (bss := bss0 ++ bss1) (mi := fun i => if i < l0.length then m0 else m1)
  (by simp [a0, a1]) (by simp [b0, b1]) (fun i hMo => by split; exact hc0 hMo; exact hc1 hMo) (fun i x v b' h1 h2 h3 => by
   by_cases hi : i < l0.length
   ·rw [if_pos hi]
    rw [List.getElem?_append_left hi] at h1
    rw [List.getElem?_append_left (by omega)] at h2 h3
    exact e0 i x v b' h1 h2 h3
   ·rw [if_neg hi]
    rw [List.getElem?_append_right (by omega)] at h1 h2 h3
    rw [a0] at h2; rw [b0] at h3
    exact e1 _ x v b' h1 h2 h3) hnd'
 have hHb : Hand.bs [(Leaf.s M e (l0 ++ l1), Value.slice (some ⟨b, o, none⟩) (l0 ++ l1).length c, b :: bss'.flatten)] = b :: bss'.flatten := by simp [Hand.bs]
 have hb' : b ∉ bss'.flatten := fun hq => hb0 (s'.subset hq)
 obtain ⟨h1, m1'⟩ := h.rehandW (w' := w') (H' := [(.s M e (l0 ++ l1), .slice (some ⟨b, o, none⟩) (l0 ++ l1).length c, b :: bss'.flatten)])
  (fun q hq1 _ => hq q (by rintro rfl; exact hq1 hbH)) (by omega) hio
  (fun q hq1 => by
   rw [hHb] at hq1
   rcases List.mem_cons.1 hq1 with rfl | hq1
   ·exact hbH
   ·exact hsub q (List.mem_cons_of_mem _ (s'.subset hq1)))
  (by rw [hHb]; exact List.nodup_cons.2 ⟨hb', List.Nodup.sublist s' hnd'⟩)
  (fun x hx => by
   have hx : x = _ := List.mem_singleton.1 hx
   subst hx
   refine ⟨_, rfl, some ⟨b, o, none⟩, c, rfl, by simpa using hlc, fun h => absurd h (Hy hM), .inr ⟨b, o, bss', rfl, l', fun _ => ⟨rfl, hblk' _ hblk⟩, fun (hf : M.isOwn = false) => absurd (hM.symm.trans hf) (by simp), by simp, ?_⟩⟩
   intro i x b' _ hx hb2
   have hi : i < (vss0 ++ vss1).length := by
    have := (List.getElem?_eq_some_iff.1 hx).1
    simp only [List.length_append] at this ⊢; omega
   refine ⟨(vss0 ++ vss1)[i], hv _ (List.getElem_mem hi), fun j hj => ?_, ?_⟩
   ·have hg := Ie hv i j hj
    rw [List.getElem?_eq_getElem hi] at hg
    simp only [Option.bind_some] at hg
    rw [← hg, hcell]
    by_cases hi0 : i < l0.length
    ·have hlt : i * wd e + j < l0.length * wd e := by
      have := Nat.mul_le_mul_right (wd e) (show i + 1 ≤ l0.length from hi0)
      rw [Nat.add_mul, Nat.one_mul] at this
      omega
     rw [if_neg (by omega)]
     have hlt' : i * wd e + j < vss0.flatten.length := by rw [Cr hv0, a0]; exact hlt
     rw [List.flatten_append, List.getElem?_append_left hlt', List.getElem?_eq_getElem hlt', show o + i * wd e + j = o + (i * wd e + j) by omega]
     exact hold _ _ (List.getElem?_eq_getElem hlt')
    ·have hge : l0.length * wd e ≤ i * wd e := Nat.mul_le_mul_right _ (by omega)
     have hlt : i * wd e + j < l0.length * wd e + l1.length * wd e := by
      have h5 : i < l0.length + l1.length := by simpa [a0, a1] using hi
      have := Nat.mul_le_mul_right (wd e) (show i + 1 ≤ l0.length + l1.length from h5)
      rw [Nat.add_mul, Nat.one_mul, Nat.add_mul] at this
      omega
     rw [if_pos (by rw [hlen1]; omega), List.flatten_append, List.getElem?_append_right (by rw [Cr hv0, a0]; omega)]
     congr 1
     rw [Cr hv0, a0]; omega
   ·refine (r' i x _ b' hx (List.getElem?_eq_getElem hi) hb2).imp (fun q hq1 => ?_) fun q hq1 => hq q ?_
    ·rcases hq1 with hq1 | ⟨hq1, hq2⟩
     ·exact .inl hq1
     ·refine .inr ⟨hsub q (List.mem_cons_of_mem _ hq1), ?_⟩
      rw [hHb]
      intro h5
      rcases List.mem_cons.1 h5 with rfl | h5
      ·exact hb0 hq1
      ·exact hq2 h5
    ·rintro rfl
     rcases hq1 with (hq1 | ⟨hq1, _⟩) | hq1
     ·exact (h.st q hq1).2.1 hbH
     ·exact hb0 hq1
     ·exact hb' (List.mem_flatten.2 ⟨b', List.mem_of_getElem? hb2, hq1⟩))
 exact ⟨w', _, _, hrun, h1, m1', hq⟩
end
end Go.Rf
end
