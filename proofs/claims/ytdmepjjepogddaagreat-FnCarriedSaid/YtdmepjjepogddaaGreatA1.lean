/-
  What the proof of this row needs, part 1: the typed evaluator of the translated code, the functions that the law reaches as plain functions, and what they answer.
-/
import Derived.Orders
import Derived.KernelRfl
import Derived.Calls
import Derived.Laws.Slices
import Derived.Laws.Cells
import Derived.Laws.Build
import Derived.Laws.IdiomCopy
import Derived.Laws.AppendOwn
import Derived.Laws.MakeOwn
section
set_option linter.unusedVariables false
namespace Go.Rf
inductive Ty where
 | int (k : IntKind) | bool | str | sl (e : Ty) | pair (a b : Ty)
 deriving DecidableEq
@[reducible] def den : Ty → Type
 | .int _ => Int
 | .bool => Bool
 | .str => ByteArray
 | .sl e => List (den e)
 | .pair a b => den a × den b
def Bl : (t : Ty) → den t
 | .int _ => (0 : Int)
 | .bool => false
 | .str => (⟨#[]⟩ : ByteArray)
 | .sl _ => []
 | .pair a b => (Bl a, Bl b)
def wd : Ty → Nat
 | .pair a b => wd a + wd b
 | _ => 1
def A8 : Ty → Bool
 | .sl _ => true
 | .pair a b => A8 a || A8 b
 | _ => false
def ikb : IntKind → IntKind → Bool
 | .i8, .i8 | .i16, .i16 | .i32, .i32 | .i64, .i64 | .u8, .u8 | .u16, .u16 | .u32, .u32 | .u64, .u64 => true
 | _, _ => false
inductive Loc where
 | cell (k : Nat)
 | elem (k : Nat) (e : Nat) (c : Nat)
inductive Mode where
 | own | sown | ro | rox
 deriving DecidableEq
def Mode.nest : Mode → Mode
 | .own => .own
 | _ => .ro
def Mode.isOwn : Mode → Bool
 | .own | .sown => true
 | _ => false
inductive Leaf where
 | v (x : Value)
 | s (m : Mode) (t : Ty) (l : List (den t))
 | h (m : Mode) (t : Ty) (l : List (den t)) (e : Nat)
 | a (p : Loc) (v0 v1 : Nat) (w : Option (Nat × Nat))
 | ptr (p : Loc) (n v0 : Nat)
 | fn (f : Nat) (caps : List (Loc × Nat × Nat))
 | it (f : Nat) (t : Ty) (l : List (den t)) (n : Int)
 | d
inductive A where
 | one (x : Leaf)
 | agg (xs : List Leaf)
 | tup (xs : List (Bool × List Leaf))
inductive XL where
 | l (x : Leaf)
 | b (x : Leaf)
 | p (cs : List Leaf)
 | fn (f : Nat) (caps : List (List Leaf))
inductive Arg where
 | one (x : XL)
 | agg (xs : List XL)
structure CR where
 {R : Type}
 o : Option R
 e : R → A × List (List Leaf)
structure Ent where
 c : Leaf
 v0 : Nat
 v1 : Nat
structure St where
 ts : List A
 mm : List (Nat × Ent)
def nthD {α : Type} : List α → Nat → α → α
 | [], _, d => d
 | a :: _, 0, _ => a
 | _ :: r, n + 1, d => nthD r n d
def Dt {α : Type} : List α → Nat → Option α
 | [], _ => none
 | a :: _, 0 => some a
 | _ :: r, n + 1 => Dt r n
def Ux {α : Type} : List α → Nat → α → List α
 | [], _, _ => []
 | _ :: r, 0, x => x :: r
 | a :: r, n + 1, x => a :: Ux r n x
def lk : List (Nat × Ent) → Nat → Option Ent
 | [], _ => none
 | (k, e) :: r, q => cond (Nat.beq k q) (some e) (lk r q)
def ups : List (Nat × Ent) → Nat → Ent → List (Nat × Ent)
 | [], q, e => [(q, e)]
 | (k, x) :: r, q, e => cond (Nat.beq k q) ((k, e) :: r) ((k, x) :: ups r q e)
def St.tmp (σ : St) (t : Nat) : A := nthD σ.ts t (.one .d)
def St.setT (σ : St) (t : Nat) (x : A) : St := ⟨Ux σ.ts t x, σ.mm⟩
def St.mem (σ : St) (k : Nat) : Option Ent := lk σ.mm k
def St.setM (σ : St) (k : Nat) (e : Ent) : St := ⟨σ.ts, ups σ.mm k e⟩
def enc (m : Mode) : (t : Ty) → den t → List Leaf
 | .int k, n => [.v (.int k n)]
 | .bool, b => [.v (.bool b)]
 | .str, s => [.v (.string s)]
 | .sl e, l => [.s m e l]
 | .pair a b, x => enc m a x.1 ++ enc m b x.2
def Kt (m n : Mode) : Bool :=
 match m with
 | .own => (match n with | .own => true | _ => false)
 | .sown => n.isOwn
 | _ => true
def Xgf (k : IntKind) : Leaf → Option Int
 | .v (.int k' n) => cond (ikb k k') (some n) none
 | _ => none
def Xgc : Leaf → Option Bool
 | .v (.bool b) => some b
 | _ => none
def Xgw : Leaf → Option ByteArray
 | .v (.string s) => some s
 | _ => none
def Xg1 (m : Mode) (e : Ty) : Leaf → Option (List (den e))
 | .s n t l => cond (Kt m n) (if h : t = e then some (h ▸ l) else none) none
 | .v (.slice none 0 0) => some []
 | _ => none
def hd {α : Type} (f : Leaf → Option α) : List Leaf → Option (α × List Leaf)
 | [] => none
 | c :: r => match f c with
  | some a => some (a, r)
  | none => none
def Nj (m : Mode) : (t : Ty) → List Leaf → Option (den t × List Leaf)
 | .int k => hd (Xgf k)
 | .bool => hd Xgc
 | .str => hd Xgw
 | .sl e => hd (Xg1 m e)
 | .pair a b => fun cs =>
  match Nj m a cs with
  | some (x, r) => (match Nj m b r with | some (y, r') => some ((x, y), r') | none => none)
  | none => none
def Og (m : Mode) (t : Ty) (cs : List Leaf) : Option (den t) :=
 match Nj m t cs with
 | some (x, []) => some x
 | _ => none
inductive Pg (α : Type) : Type where
 | ret (a : α)
 | fail
 | getT (t : Nat) (k : A → Pg α)
 | setT (t : Nat) (x : A) (k : Pg α)
 | getM (κ : Nat) (k : Option Ent → Pg α)
 | setM (κ : Nat) (e : Ent) (k : Pg α)
 | br (b : Bool) (p q : Pg α)
 | brT (t : Nat) (p q u : Pg α)
 | call (f : Nat) (as : List Arg) (k : A × List (List Leaf) → Pg α)
def Pg.bind {α β : Type} : Pg α → (α → Pg β) → Pg β
 | .ret a, k => k a
 | .fail, _ => .fail
 | .getT t p, k => .getT t fun x => (p x).bind k
 | .setT t x p, k => .setT t x (p.bind k)
 | .getM κ p, k => .getM κ fun x => (p x).bind k
 | .setM κ e p, k => .setM κ e (p.bind k)
 | .br b p q, k => .br b (p.bind k) (q.bind k)
 | .brT t p q u, k => .brT t (p.bind k) (q.bind k) (u.bind k)
 | .call f as p, k => .call f as fun r => (p r).bind k
instance : Monad Pg where
 pure := .ret
 bind := Pg.bind
def Pg.mapL {α β : Type} (f : α → Pg β) : List α → Pg (List β)
 | [] => .ret []
 | a :: r => (f a).bind fun b => (Pg.mapL f r).bind fun bs => .ret (b :: bs)
def Pg.eachL {α : Type} (f : α → Pg Unit) : List α → Pg Unit
 | [] => .ret ()
 | a :: r => (f a).bind fun _ => Pg.eachL f r
abbrev Tab := Nat → List Arg → Option CR
def Pg.run (tab : Tab) {α β : Type} : Pg α → St → (α → St → Option β) → Option β
 | .ret a, σ, k => k a σ
 | .fail, _, _ => none
 | .getT t p, σ, k => (p (σ.tmp t)).run tab σ k
 | .setT t x p, σ, k => p.run tab (σ.setT t x) k
 | .getM κ p, σ, k => (p (σ.mem κ)).run tab σ k
 | .setM κ e p, σ, k => p.run tab (σ.setM κ e) k
 | .br b p q, σ, k => cond b (p.run tab σ k) (q.run tab σ k)
 | .brT t p q u, σ, k =>
  match σ.tmp t with
  | .one (.v (.bool c)) => cond c (p.run tab (σ.setT t (.one (.v (.bool true)))) k) (q.run tab (σ.setT t (.one (.v (.bool false)))) k)
  | .one (.v (.tuple _)) => u.run tab σ k
  | _ => none
 | .call f as p, σ, k =>
  match tab f as with
  | some cr => cr.o.bind fun r => (p (cr.e r)).run tab σ k
  | none => none
abbrev Log := List (Nat × Bool)
def Pg.runD (tab : Tab) {α β : Type} : Pg α → St → Log → (α → St → Log → Option β) → Option β
 | .ret a, σ, g, k => k a σ g
 | .fail, _, _, _ => none
 | .getT t p, σ, g, k => (p (σ.tmp t)).runD tab σ ((2 * t, false) :: g) k
 | .setT t x p, σ, g, k => p.runD tab (σ.setT t x) ((2 * t, true) :: g) k
 | .getM κ p, σ, g, k => (p (σ.mem κ)).runD tab σ ((2 * κ + 1, false) :: g) k
 | .setM κ e p, σ, g, k => p.runD tab (σ.setM κ e) ((2 * κ + 1, true) :: g) k
 | .br b p q, σ, g, k => cond b (p.runD tab σ g k) (q.runD tab σ g k)
 | .brT t p q u, σ, g, k =>
  match σ.tmp t with
  | .one (.v (.bool c)) => cond c (p.runD tab (σ.setT t (.one (.v (.bool true)))) ((2 * t, false) :: g) k) (q.runD tab (σ.setT t (.one (.v (.bool false)))) ((2 * t, false) :: g) k)
  | .one (.v (.tuple _)) => u.runD tab σ ((2 * t, false) :: g) k
  | _ => none
 | .call f as p, σ, g, k =>
  match tab f as with
  | some cr => cr.o.bind fun r => (p (cr.e r)).runD tab σ g k
  | none => none
structure TyI where
 ty : Ty
 agg : Bool
 eb : Nat
inductive TK where
 | plain
 | own (m : Mode) (t : Ty) (co : List Nat)
 | ro (t : Ty)
structure Hint where
 tk : List (Nat × TK)
 mh : List (Nat × TK)
structure Env where
 tab : Tab
 lend : Nat → List Bool
 lent : Nat → List Bool
 pins : List (Bool × Nat)
 ty : Nat → Option TyI
 fld : Nat → Nat → Option (Nat × Nat × Bool)
 pw : Nat → Option Nat
 cw : Nat → List Nat
 hint : Nat → Hint
 eqt : Nat → Bool
 rm : Mode
 fuel : Nat
 frz : List Nat := []
 rh : Nat → Option Hint := fun _ => none
 itr : List (Nat × Nat × Ty) := []
def Hs : Nat := 1000
def Mi : Operand → Pg A
 | .tmp t => .getT t .ret
 | .const v => (match v with
  | .agg cs => .ret (.agg (cs.toList.map .v))
  | v => .ret (.one (.v v)))
 | .func f => .ret (.one (.fn f []))
 | .global _ => .fail
def Sk (b : Bool) : Pg Unit := .br b (.ret ()) .fail
def Dz (b : Bool) : Pg Unit := cond b (.ret ()) .fail
def Eu : Leaf → Bool
 | .v (.agg _) => false
 | .v (.tuple _) => false
 | .h _ _ _ _ => false
 | .it _ _ _ _ => false
 | .d => false
 | _ => true
def Xd3 : A → Pg Leaf
 | .one x => .ret x
 | _ => .fail
def cellsOf : A → Pg (List Leaf)
 | .one x => (Dz (Eu x)).bind fun _ => .ret [x]
 | .agg xs => .ret xs
 | _ => .fail
def intOf : A → Pg (IntKind × Int)
 | .one (.v (.int k n)) => .ret (k, n)
 | _ => .fail
def win (w : Option (Nat × Nat)) {α : Type} (l : List α) : List α :=
 match w with
 | none => l
 | some (lo, hi) => (l.take hi).drop lo
def Kj : Loc → Nat
 | .cell k => k
 | .elem k _ _ => k
def J6 (p : Loc) (v0 v1 : Nat) (e : Ent) : Bool :=
 match p with
 | .cell _ => Nat.beq v0 e.v0
 | _ => Nat.beq v0 e.v0 && Nat.beq v1 e.v1
def Xrz (p : Loc) (v0 : Nat) (e : Ent) : Bool :=
 match p with
 | .cell _ => true
 | .elem _ _ _ => Nat.beq v0 e.v0
def Db (k : Nat) : Pg Ent := .getM k fun
 | some e => .ret e
 | none => .fail
def Hf : Loc → Pg Ent
  | .cell k => Db k
  | .elem k e c => (Db k).bind fun x =>
    match x.c with
    | .s m t l =>
      (match Dt (enc m.nest t (nthD l e (Bl t))) c with
       | some y => .ret ⟨y, x.v0, x.v1⟩
       | none => .fail)
    | _ => .fail
def Qz (p : Loc) (e : Ent) : Leaf :=
 match e.c with
 | .s m t l => cond m.isOwn (.a p e.v0 e.v1 none) (.s m t l)
 | .h _ _ _ _ => .d
 | x => x
def Xfa : Nat → Nat → Pg (List Leaf)
 | _, 0 => .ret []
 | k, n + 1 => (Db k).bind fun e => (Xfa (k + 1) n).bind fun r => .ret (Qz (.cell k) e :: r)
def Dl (k : Nat) (e : Nat) (v0 v1 : Nat) : Nat → List Leaf → List Leaf
 | _, [] => []
 | c, y :: r => Qz (.elem k e c) ⟨y, v0, v1⟩ :: Dl k e v0 v1 (c + 1) r
def V7 (p : Loc) (v0 : Nat) (n : Nat) : Pg (List Leaf) :=
 match p with
 | .cell k => Xfa k n
 | .elem k e c => (Db k).bind fun x =>
  (Dz (Xrz p v0 x)).bind fun _ =>
  match x.c with
  | .s m t l => .ret (Dl k e x.v0 x.v1 c (((enc m.nest t (nthD l e (Bl t))).drop c).take n))
  | _ => .fail
def bump (c : Leaf) : Nat :=
 match c with
 | .v _ => 0
 | _ => 1
def Fc (k : Nat) (v0 : Nat) (w : Option (Nat × Nat)) : Pg Leaf :=
 (Db k).bind fun e =>
 (Dz (Nat.beq v0 e.v0)).bind fun _ =>
 match e.c with
 | .s m t l => cond m.isOwn (.setM k ⟨.d, e.v0 + 1, e.v1⟩ (.ret (.s m t (win w l)))) (.ret (.s .ro t (win w l)))
 | _ => .fail
def Me (k e c v0 v1 : Nat) (w : Option (Nat × Nat)) : Pg Leaf :=
  (Db k).bind fun x =>
  (Dz (Nat.beq v0 x.v0 && Nat.beq v1 x.v1)).bind fun _ =>
  match x.c with
  | .s m t l => Pg.bind (cond m.isOwn (Pg.setM k ⟨.s .sown t l, x.v0, x.v1⟩ (.ret ())) (Pg.ret ())) fun _ =>
    (match Dt (enc .ro t (nthD l e (Bl t))) c with
     | some (.s _ u l') => .ret (.s .ro u (win w l'))
     | _ => .fail)
  | _ => .fail
def resolve : Leaf → Pg Leaf
 | .a (.cell k) v0 _ w => Fc k v0 w
 | .a (.elem k e c) v0 v1 w => Me k e c v0 v1 w
 | .v x => .ret (.v x)
 | .s m t l => .ret (.s m t l)
 | _ => .fail
def Hw : Leaf → Pg Leaf
 | .a p v0 v1 w => (Hf p).bind fun e =>
  (Dz (J6 p v0 v1 e)).bind fun _ =>
  match e.c with
  | .s _ t l => .ret (.s .ro t (win w l))
  | .v (.slice none 0 0) => .ret (.v (.slice none 0 0))
  | _ => .fail
 | .v x => .ret (.v x)
 | .s m t l => .ret (.s m t l)
 | _ => .fail
def E7 : List Leaf → Bool
 | [] => false
 | .v (.slice _ _ _) :: _ => true
 | .v _ :: r => E7 r
 | _ :: _ => true
def Cr (old : List Leaf) (c : Nat) (new : List Leaf) : List Leaf := old.take c ++ new ++ old.drop (c + new.length)
def Jd (k : Nat) : Leaf → Option (Nat × Option (Nat × Nat))
 | .a (.cell k') v0 _ w => cond (Nat.beq k k') (some (v0, w)) none
 | _ => none
def Sx : Nat → List Leaf → Pg Unit
  | _, [] => .ret ()
  | k, x :: r => (Dz (Eu x)).bind fun _ => (Db k).bind fun e =>
    match Jd k x with
    | some (v0, w) =>
      (Dz (Nat.beq v0 e.v0)).bind fun _ =>
      (match e.c with
       | .s m t l => (Dz m.isOwn).bind fun _ => .setM k ⟨.s m t (win w l), e.v0 + 1, e.v1⟩ (Sx (k + 1) r)
       | _ => .fail)
    | none => .setM k ⟨x, e.v0 + bump e.c, e.v1⟩ (Sx (k + 1) r)
def Xfq (p : Loc) (v0 : Nat) (xs : List Leaf) : Pg Unit :=
  match p with
  | .cell k => Sx k xs
  | .elem k e c =>
    (Pg.mapL resolve xs).bind fun ys =>
    (Db k).bind fun x =>
    (Dz (Xrz p v0 x)).bind fun _ =>
    match x.c with
    | .s m t l => (Dz m.isOwn).bind fun _ =>
      (match Og m.nest t (Cr (enc m.nest t (nthD l e (Bl t))) c ys) with
       | some z => .setM k ⟨.s m t (l.set e z), x.v0, x.v1 + cond (E7 ys) 1 0⟩ (.ret ())
       | none => .fail)
    | _ => .fail
def newRow : Nat → List Leaf → Pg Unit
 | _, [] => .ret ()
 | k, x :: r => .getM k fun
  | none => .setM k ⟨x, 0, 0⟩ (newRow (k + 1) r)
  | some _ => .fail
def Cf (k : Nat) (x : Leaf) : Pg Leaf :=
 match x with
 | .s m t l => cond m.isOwn ((newRow k [.s m t l]).bind fun _ => .ret (.a (.cell k) 0 0 none)) (.ret (.s m t l))
 | .v x => .ret (.v x)
 | _ => .fail
def Ey : Nat → List Leaf → Pg (List Leaf)
 | _, [] => .ret []
 | k, x :: r => (Cf k x).bind fun y => (Ey (k + 1) r).bind fun ys => .ret (y :: ys)
def Lj : Nat → List (Bool × List Leaf) → Pg (List (Bool × List Leaf))
 | _, [] => .ret []
 | k, (g, xs) :: r => (Ey k xs).bind fun ys => (Lj (k + xs.length) r).bind fun zs => .ret ((g, ys) :: zs)
def Zn (k : Nat) : A → Pg A
 | .one x => (Cf k x).bind fun y => .ret (.one y)
 | .agg xs => (Ey k xs).bind fun ys => .ret (.agg ys)
 | .tup xs => (Lj k xs).bind fun ys => .ret (.tup ys)
end Go.Rf
end

section
set_option linter.unusedVariables false
namespace Go.Rf
def Di (x : Leaf) : Pg A := .ret (.one x)
def Z4 (x : Value) : Pg A := .ret (.one (.v x))
def Gb (k : IntKind) (n : Int) : Pg A := .ret (.one (.v (.int k n)))
def L8 (b : Bool) : Pg A := .ret (.one (.v (.bool b)))
def Ca (op : BinOp) (k : IntKind) (x y : Int) : Int :=
 match op with
 | .and => k.wrap (BitVec.ofInt k.bits x &&& BitVec.ofInt k.bits y).toNat
 | .or => k.wrap (BitVec.ofInt k.bits x ||| BitVec.ofInt k.bits y).toNat
 | .xor => k.wrap (BitVec.ofInt k.bits x ^^^ BitVec.ofInt k.bits y).toNat
 | _ => k.wrap (BitVec.ofInt k.bits x &&& ~~~ BitVec.ofInt k.bits y).toNat
def eqD : (t : Ty) → den t → den t → Bool
 | .int _, a, b => (show Int from a) == b
 | .bool, a, b => (show Bool from a) == b
 | .str, a, b => (show ByteArray from a).toList == (show ByteArray from b).toList
 | .sl _, _, _ => false
 | .pair a b, x, y => eqD a x.1 y.1 && eqD b x.2 y.2
def X2f (op : BinOp) (k : IntKind) (a b : Int) : Pg A :=
 match op with
 | .add => Gb k (k.wrap (a + b))
 | .sub => Gb k (k.wrap (a - b))
 | .mul => Gb k (k.wrap (a * b))
 | .quo => .br (decide (b = 0)) .fail (Gb k (k.wrap (a.tdiv b)))
 | .rem => .br (decide (b = 0)) .fail (Gb k (a.tmod b))
 | .and => Gb k (Ca .and k a b)
 | .or => Gb k (Ca .or k a b)
 | .xor => Gb k (Ca .xor k a b)
 | .andNot => Gb k (Ca .andNot k a b)
 | .eql => L8 (a == b)
 | .neq => L8 (a != b)
 | .lss => L8 (decide (a < b))
 | .leq => L8 (decide (a ≤ b))
 | .gtr => L8 (decide (a > b))
 | .geq => L8 (decide (a ≥ b))
 | _ => .fail
def isB (E : Env) (t : Nat) : Bool :=
 match E.ty t with
 | some ⟨.bool, false, _⟩ => true
 | _ => false
def Xz7 (E : Env) (t : Nat) : Bool :=
 match E.ty t with
 | some ⟨.sl _, false, _⟩ => true
 | _ => false
def X1a (E : Env) (op : BinOp) (t : Nat) (x y : A) : Pg A :=
  match x, y with
  | .one (.v (.int k a)), .one (.v (.int k' b)) =>
    (match op with
     | .shl => .br (decide (b < 0)) .fail (Gb k (k.wrap (a * 2 ^ min b.toNat k.bits)))
     | .shr => .br (decide (b < 0)) .fail (Gb k (a.fdiv (2 ^ min b.toNat k.bits)))
     | _ => cond (ikb k k') (X2f op k a b) .fail)
  | .one (.v (.bool a)), .one (.v (.bool b)) =>
    cond (isB E t) (match op with
     | .eql => L8 (a == b)
     | .neq => L8 (!(a == b))
     | _ => .fail) .fail
  | .one (.v (.string a)), .one (.v (.string b)) =>
    (match op with
     | .eql => L8 (a.toList == b.toList)
     | .neq => L8 (!(a.toList == b.toList))
     | _ => .fail)
  | .agg xs, .agg ys => cond (E.eqt t)
    (match E.ty t with
     | some ⟨ty, true, _⟩ => cond (A8 ty) .fail
       (match Og .own ty xs, Og .own ty ys with
        | some x, some y => (match op with
          | .eql => L8 (eqD ty x y)
          | .neq => L8 (!(eqD ty x y))
          | _ => .fail)
        | _, _ => .fail)
     | _ => .fail) .fail
  | .one (.s _ _ l), .one (.v (.slice none 0 0)) => cond (Xz7 E t)
    (match op with
     | .eql => .br (decide (l.length = 0)) .fail (L8 false)
     | _ => .fail) .fail
  | _, _ => .fail
def unP (op : UnOp) (x : A) : Pg A :=
 match op, x with
 | .neg, .one (.v (.int k n)) => Gb k (k.wrap (0 - n))
 | .xor, .one (.v (.int k n)) => Gb k (Ca .xor k (if k.signed then -1 else k.max) n)
 | .not, .one (.v (.bool b)) => L8 (!b)
 | _, _ => .fail
def Ke (l : List Int) : ByteArray := ⟨(l.map fun n => UInt8.ofNat n.toNat).toArray⟩
def bytesOf (s : ByteArray) : List Int := s.data.toList.map fun b => (b.toNat : Int)
def Xoz (E : Env) (src dst : Nat) (x : A) : Pg A :=
  match E.ty src, E.ty dst, x with
  | some _, some ⟨.int k, false, _⟩, .one (.v (.int _ n)) => Gb k (k.wrap n)
  | some _, some ⟨.str, false, _⟩, .one (.v (.string s)) => Z4 (.string s)
  | some ⟨.sl (.int .u8), false, _⟩, some ⟨.str, false, _⟩, .one y => (Hw y).bind fun z =>
    (match z with
     | .v (.slice none 0 0) => Z4 (.string (Ke []))
     | .s _ t l => if h : t = .int .u8 then Z4 (.string (Ke (show List (den (.int .u8)) from h ▸ l))) else .fail
     | _ => .fail)
  | _, _, _ => .fail
def Xya (E : Env) (t : Nat) (x : A) : Pg A :=
  match E.ty t, x with
  | some ⟨.str, false, _⟩, .one (.v (.string s)) => Gb .i64 s.size
  | some ⟨.sl _, false, _⟩, .one y => (Hw y).bind fun z =>
    (match z with
     | .s _ _ l => Gb .i64 l.length
     | .v (.slice none 0 0) => Gb .i64 0
     | _ => .fail)
  | _, _ => .fail
def Xzi (E : Env) (t : Nat) (x : A) : Pg A :=
 match E.ty t, x with
 | some ⟨.sl _, false, _⟩, .one (.s .rox _ l) => Gb .i64 l.length
 | some ⟨.sl _, false, _⟩, .one (.v (.slice none 0 0)) => Gb .i64 0
 | _, _ => .fail
def Lu (f : Int → Int → Int) : Int → List A → Pg A
 | a, [] => Gb .i64 a
 | a, .one (.v (.int .i64 b)) :: r => Lu f (f a b) r
 | _, _ => .fail
def Xx2 : List A → Pg A
 | .one (.v (.int .i64 a)) :: r => Lu (fun x y => if y < x then y else x) a r
 | _ => .fail
def Xwu : List A → Pg A
 | .one (.v (.int .i64 a)) :: r => Lu (fun x y => if x < y then y else x) a r
 | _ => .fail
def Xk3 (e : Ty) (x : Leaf) : Pg (Mode × List (den e)) :=
  match x with
  | .v (.slice none 0 0) => .ret (.own, [])
  | .s .rox t l => if h : t = e then .ret (.ro, h ▸ l) else .fail
  | .a (.cell k) v0 _ w => (Fc k v0 w).bind fun z =>
    (match z with
     | .s m t l => cond m.isOwn (if h : t = e then .ret (m, h ▸ l) else .fail) .fail
     | _ => .fail)
  | _ => .fail
def Xoj (e : Ty) (x : A) : Pg (Mode × List (den e)) :=
  match x with
  | .one y => (cond (A8 e) (resolve y) (Hw y)).bind fun z =>
    (match z with
     | .v (.slice none 0 0) => .ret (.own, [])
     | .s m t l => if h : t = e then .ret (cond (A8 e) m .own, h ▸ l) else .fail
     | _ => .fail)
  | _ => .fail
def Ge : Mode → Mode → Mode
 | .own, .own => .own
 | _, _ => .sown
def Xg (E : Env) (at0 at1 : Nat) (d : Nat) (x y : A) : Pg A :=
 match E.ty at0 with
 | some ⟨.sl e, false, eb⟩ =>
  (Dz (Nat.ble 1 eb && Nat.beq at0 at1)).bind fun _ => (Xd3 x).bind fun x0 =>
  (Xoj e y).bind fun (m1, l1) =>
  (Xk3 e x0).bind fun (m0, l0) =>
  (cond m0.isOwn (.ret ()) (Sk (decide (0 < l1.length)))).bind fun _ =>
  .br (decide ((l0.length + l1.length) * eb ≤ 140737488355328))
   (Cf (Hs * d) (.s (Ge (cond m0.isOwn m0 (cond (A8 e) .sown .own)) m1) e (l0 ++ l1)) |>.bind Di) .fail
 | _ => .fail
def T9 (E : Env) (at0 at1 d : Nat) (y : A) : Pg A :=
 match E.ty at0, E.ty at1, y with
 | some ⟨.sl e, false, eb⟩, some ⟨.int .i64, false, _⟩, .one (.v (.int .i64 n)) =>
  (Dz (Nat.ble 1 eb)).bind fun _ => .br (decide (0 < n) && decide (n * eb ≤ 140737488355328))
   (Cf (Hs * d) (.s .own e (List.replicate n.toNat (Bl e))) |>.bind Di) .fail
 | _, _, _ => .fail
def elT (E : Env) (t : Nat) : Option Ty :=
 match E.ty t with
 | some ⟨.sl e, false, _⟩ => some e
 | _ => none
def Th (E : Env) (t : Nat) (u : Ty) : Bool :=
 match elT E t with
 | some e => decide (u = e)
 | none => false
def Xif (E : Env) (t d : Nat) (n c : A) : Pg A :=
 match E.ty t, n, c with
 | some ⟨.sl e, false, eb⟩, .one (.v (.int .i64 n)), .one (.v (.int .i64 c)) =>
  (Dz (Nat.ble 1 eb)).bind fun _ => .br (decide (0 ≤ n) && decide (n = c) && decide (n * eb ≤ 140737488355328)) (Cf (Hs * d) (.s .own e (List.replicate n.toNat (Bl e))) |>.bind Di) .fail
 | _, _, _ => .fail
def Qy : Option A → Pg (Option Int)
 | none => .ret none
 | some (.one (.v (.int _ n))) => .ret (some n)
 | _ => .fail
def Ni (n : Nat) (lo hi : Option Int) : Pg Unit :=
  Pg.bind (match hi with
   | some h => Sk (decide (0 ≤ h) && decide (h ≤ n))
   | none => Pg.ret ()) fun _ =>
  match lo with
  | some l => Sk (decide (0 ≤ l) && decide (l ≤ hi.getD n))
  | none => .ret ()
def cut {α : Type} (l : List α) (lo hi : Option Int) : List α :=
 match lo, hi with
 | none, none => l
 | none, some h => l.take h.toNat
 | some a, none => l.drop a.toNat
 | some a, some h => (l.take h.toNat).drop a.toNat
def Sz (w : Option (Nat × Nat)) (n : Nat) (lo hi : Option Int) : Option (Nat × Nat) :=
  cond (lo.isNone && hi.isNone) w
    (match w with
     | none => some ((lo.getD 0).toNat, (hi.getD n).toNat)
     | some (p, _) => some (p + (lo.getD 0).toNat, p + (hi.getD n).toNat))
def Xu6 (E : Env) (t : Nat) : Bool :=
 match E.ty t with
 | some ⟨.str, false, _⟩ => true
 | _ => false
def Xdw (E : Env) (ty : Nat) (x : A) (lo hi mx : Option A) : Pg A :=
  (Xd3 x).bind fun x0 => (Qy lo).bind fun lo => (Qy hi).bind fun hi => (Qy mx).bind fun mx =>
  (Dz (mx.isNone || hi.isSome)).bind fun _ =>
  match x0 with
  | .v (.slice none 0 0) => (Dz (elT E ty).isSome).bind fun _ => (Ni 0 lo hi).bind fun _ =>
    (match mx with
     | none => Z4 (.slice none 0 0)
     | some m => (Sk (decide (m = 0))).bind fun _ => Z4 (.slice none 0 0))
  | .v (.string s) => (Dz (mx.isNone && Xu6 E ty)).bind fun _ => (Ni s.size lo hi).bind fun _ =>
    Z4 (.string (s.extract ((lo.getD 0).toNat) ((hi.getD s.size).toNat)))
  | .s m t l => (Dz (Th E ty t)).bind fun _ => cond m.isOwn .fail ((Ni l.length lo hi).bind fun _ =>
    match mx with
    | none => Di (.s .ro t (cut l lo hi))
    | some m => (Sk (decide (m = hi.getD l.length))).bind fun _ => Di (.s .rox t (cut l lo hi)))
  | .a p v0 v1 w => (Hw (.a p v0 v1 w)).bind fun z =>
    (match z with
     | .s _ t l => (Dz (Th E ty t)).bind fun _ => (Ni l.length lo hi).bind fun _ =>
       (match mx with
        | none => Pg.ret ()
        | some m => Sk (decide (m = hi.getD l.length))).bind fun _ =>
       Di (.a p v0 v1 (Sz w l.length lo hi))
     | _ => .fail)
  | _ => .fail
def offP (p : Loc) (n : Nat) : Loc :=
 match p with
 | .cell k => .cell (k + n)
 | .elem k e c => .elem k e (c + n)
def Kq (E : Env) (s f : Nat) (x : A) : Pg A :=
 match E.fld s f, x with
 | some (o, w, _), .one (.ptr p n v0) => (Dz (Nat.ble (o + w) n)).bind fun _ => Di (.ptr (offP p o) (n - o) v0)
 | _, _ => .fail
def Xb6 (E : Env) (s f : Nat) (x : A) : Pg A :=
 match E.fld s f, x with
 | some (o, n, g), .agg xs => cond g (.ret (.agg ((xs.drop o).take n))) (match Dt xs o with | some y => Di y | none => .fail)
 | _, _ => .fail
def Kk (E : Env) (ty d : Nat) (x : A) (i : A) : Pg A :=
  (intOf i).bind fun (_, i) =>
  match x with
  | .one (.a (.cell k) v0 v1 w) => (Db k).bind fun e => (Dz (Nat.beq v0 e.v0)).bind fun _ =>
    (match e.c with
     | .s _ t l => (Dz (Th E ty t)).bind fun _ => .br (decide (0 ≤ i)) (.br (decide (i < (win w l).length))
        (Di (.ptr (.elem k (match w with | none => i.toNat | some (lo, _) => lo + i.toNat) 0) (wd t) e.v0)) .fail) .fail
     | _ => .fail)
  | .one (.s m t l) => (Dz (Th E ty t)).bind fun _ => .br (decide (0 ≤ i)) (.br (decide (i < l.length))
      ((newRow (Hs * d) [.s m t l]).bind fun _ => Di (.ptr (.elem (Hs * d) i.toNat 0) (wd t) 0)) .fail) .fail
  | _ => .fail
def Xe2 (E : Env) (t : Nat) (x : A) : Pg A :=
 match E.ty t, x with
 | some ⟨ty, g, _⟩, .one (.ptr p n v0) => (Dz (Nat.ble (wd ty) n)).bind fun _ => (V7 p v0 (wd ty)).bind fun ys =>
  cond g (.ret (.agg ys)) (match ys with | [y] => Di y | _ => .fail)
 | _, _ => .fail
def Xdu (E : Env) (t : Nat) (x y : A) : Pg Unit :=
 match E.ty t, x with
 | some ⟨ty, g, _⟩, .one (.ptr p n v0) => (cellsOf y).bind fun ys => (Dz (Nat.beq ys.length (wd ty) && Nat.ble (wd ty) n)).bind fun _ => Xfq p v0 ys
 | _, _ => .fail
def Xc0 (E : Env) (t d : Nat) : Pg A :=
 match E.ty t with
 | some ⟨ty, _, _⟩ => (newRow (Hs * d) (enc .own ty (Bl ty))).bind fun _ => Di (.ptr (.cell (Hs * d)) (wd ty) 0)
 | _ => .fail
def X1n (E : Env) (t d : Nat) (x : A) : Pg A :=
 match E.ty t with
 | some ⟨ty, _, _⟩ => (cellsOf x).bind fun ys => (Dz (Nat.beq ys.length (wd ty))).bind fun _ =>
  (newRow (Hs * d) ys).bind fun _ => Di (.ptr (.cell (Hs * d)) (wd ty) 0)
 | _ => .fail
def L9 (E : Env) (t : Nat) : List Leaf → List (Nat × A) → Pg (List Leaf)
 | cs, [] => .ret cs
 | cs, (f, x) :: r =>
  match E.fld t f with
  | some (o, n, _) => (cellsOf x).bind fun ys => (Dz (Nat.beq ys.length n && Nat.ble (o + n) cs.length)).bind fun _ => L9 E t (Cr cs o ys) r
  | none => .fail
def Z6 (E : Env) (t : Nat) (ps : List (Nat × A)) : Pg A :=
 match E.ty t with
 | some ⟨ty, true, _⟩ => (L9 E t (enc .own ty (Bl ty)) ps).bind fun cs => .ret (.agg cs)
 | _ => .fail
def Jj : Nat → List (Nat × A) → Pg (List (List Leaf))
 | _, [] => .ret []
 | i, (j, x) :: r => (Dz (Nat.beq i j)).bind fun _ => (cellsOf x).bind fun cs => (Pg.mapL resolve cs).bind fun ys =>
  (Jj (i + 1) r).bind fun zs => .ret (ys :: zs)
def K0 (m : Mode) (e : Ty) : List (List Leaf) → Option (List (den e))
 | [] => some []
 | c :: r => match Og m e c with
  | some x => (match K0 m e r with | some l => some (x :: l) | none => none)
  | none => none
def Iu (E : Env) (t d n : Nat) (ps : List (Nat × A)) : Pg A :=
  match E.ty t with
  | some ⟨.sl e, false, _⟩ => (Dz (Nat.beq ps.length n && Nat.ble (n * wd e) 16777216)).bind fun _ => (Jj 0 ps).bind fun cs =>
    (match K0 .own e cs with
     | some l => (Cf (Hs * d) (.s .own e l)).bind Di
     | none => (match K0 .ro e cs with
       | some l => (Cf (Hs * d) (.s .sown e l)).bind Di
       | none => .fail))
  | _ => .fail
def I8 (fn : Fn) (caps : List A) : Pg A :=
 match fn with
 | .func f => (Pg.mapL (fun x => match x with | A.one (.ptr p n v0) => Pg.ret (p, n, v0) | _ => Pg.fail) caps).bind fun cs => Di (.fn f cs)
 | _ => .fail
def Qn (i : Nat) : A → Pg A
 | .tup xs => (match Dt xs i with
  | some (true, ys) => .ret (.agg ys)
  | some (false, [y]) => Di y
  | _ => .fail)
 | _ => .fail
def Xuf (b : Bool) (x : A) : Pg (Option Leaf) :=
 match b, x with
 | true, .one (.a (.cell k) v0 _ w) => (Fc k v0 w).bind fun y => .ret (some y)
 | _, _ => .ret none
def Xeh : List Bool → List A → Pg (List (Option Leaf))
 | _, [] => .ret []
 | g, x :: r => (Xuf (g.headD false) x).bind fun y => (Xeh g.tail r).bind fun ys => .ret (y :: ys)
def Gs (x : Leaf) : Pg (XL × List Nat) :=
 match x with
 | .v y => .ret (.l (.v y), [])
 | .s m u l => .ret (.l (.s m u l), [])
 | .a p v0 v1 w => (Hw (.a p v0 v1 w)).bind fun z => .ret (.l z, [Kj p])
 | .fn f [] => .ret (.fn f [], [])
 | _ => .fail
def J3 : List Leaf → Pg (List XL × List Nat)
 | [] => .ret ([], [])
 | x :: r => (Gs x).bind fun (y, q) => (J3 r).bind fun (ys, qs) => .ret (y :: ys, q ++ qs)
def Xjv : Leaf → Bool
 | .v _ => true
 | .s _ _ _ => true
 | _ => false
def Av : Nat → Nat → List Nat
 | _, 0 => []
 | k, n + 1 => k :: Av (k + 1) n
def Tt : Nat → Nat → Pg (List Leaf)
 | _, 0 => .ret []
 | k, n + 1 => (Db k).bind fun e => (Dz (Xjv e.c)).bind fun _ => (Tt (k + 1) n).bind fun r => .ret (e.c :: r)
def Jp : List (Loc × Nat × Nat) → Option (List (Nat × Nat))
 | [] => some []
 | (.cell k, n, _) :: r => (match Jp r with | some l => some ((k, n) :: l) | none => none)
 | (.elem _ _ _, _, _) :: _ => none
def Pu : List (Nat × Nat) → Pg (List (List Leaf))
 | [] => .ret []
 | (k, n) :: r => (Dz (Nat.ble 1 n)).bind fun _ => (Tt k n).bind fun cs => (Pu r).bind fun rs => .ret (cs :: rs)
def fnL (x : Leaf) : Option (Nat × List (Nat × Nat)) :=
 match x with
 | .fn f (c :: cs) => (match Jp (c :: cs) with | some l => some (f, l) | none => none)
 | _ => none
abbrev LB := (Bool × List Nat) × Option (Nat × Nat)
def Xuh (x : Leaf) : Pg (Arg × List Nat × List LB) :=
  match x with
  | .a (.cell k) v0 _ none => (Db k).bind fun e => (Dz (Nat.beq v0 e.v0)).bind fun _ =>
    (match e.c with
     | .s m t l => (Dz m.isOwn).bind fun _ => .ret (.one (.b (.s m t l)), [], [((true, [k]), none)])
     | _ => .fail)
  | .a (.elem k e c) v0 v1 none => (Db k).bind fun x => (Dz (Nat.beq v0 x.v0 && Nat.beq v1 x.v1)).bind fun _ =>
    (match x.c with
     | .s .own t l =>
       (match Dt (enc .own t (nthD l e (Bl t))) c with
        | some (.s n u l') => .ret (.one (.b (.s n u l')), [], [((true, [k]), some (e, c))])
        | _ => .fail)
     | _ => .fail)
  | _ => .fail
def Xmr (x : Leaf) : Pg (XL × List Nat × List (Bool × List Nat)) :=
  match x with
  | .a (.cell k) v0 _ none => (Db k).bind fun e => (Dz (Nat.beq v0 e.v0)).bind fun _ =>
    (match e.c with
     | .s m t l => (Dz m.isOwn).bind fun _ => .ret (.b (.s m t l), [], [(true, [k])])
     | _ => .fail)
  | x => (Gs x).bind fun (z, q) => .ret (z, q, [])
def Vc : List Leaf → Pg (List XL × List Nat × List (Bool × List Nat))
 | [] => .ret ([], [], [])
 | x :: r => (Xmr x).bind fun (z, q, b) => (Vc r).bind fun (zs, qs, bs) => .ret (z :: zs, q ++ qs, b ++ bs)
def Xrw (x : Leaf) : Option (Nat × Nat) :=
 match x with
 | .ptr (.cell k) n _ => some (k, n)
 | _ => none
def isAl : Leaf → Bool
 | .a _ _ _ _ => true
 | _ => false
def Xxe (b : Bool) (y : Option Leaf) (x : A) : Pg (Arg × List Nat × List LB) :=
 match y, x with
 | some z, _ => .ret (.one (.l z), [], [])
 | none, .one x => (match Xrw x with
  | some (k, n) => (Dz (Nat.ble 1 n)).bind fun _ => (Tt k n).bind fun cs => .ret (.one (.p cs), [], [((false, Av k n), none)])
  | none => (match fnL x with
   | some (f, kn) => (Pu kn).bind fun rs => .ret (.one (.fn f rs), [], (kn.map fun z => (false, Av z.1 z.2)).map fun z => (z, none))
   | none => cond (b && isAl x) (Xuh x) ((Gs x).bind fun (z, q) => .ret (.one z, q, []))))
 | none, .agg xs => cond b ((Vc xs).bind fun (zs, q, b) => .ret (.agg zs, q, b.map fun z => (z, none))) ((J3 xs).bind fun (zs, q) => .ret (.agg zs, q, []))
 | none, .tup _ => .fail
def Xes : List Bool → List (Option Leaf) → List A → Pg (List Arg × List Nat × List LB)
 | g, y :: ys, x :: xs => (Xxe (g.headD false) y x).bind fun (z, q, b) => (Xes g.tail ys xs).bind fun (zs, qs, bs) => .ret (z :: zs, q ++ qs, b ++ bs)
 | _, [], [] => .ret ([], [], [])
 | _, _, _ => .fail
def B5 : List Nat → Nat → Bool
 | [], _ => false
 | k :: r, q => cond (Nat.beq k q) true (B5 r q)
def Mw : List Nat → Bool
 | [] => true
 | a :: r => !B5 r a && Mw r
def sepK (bk : List (Bool × List Nat)) (qs : List Nat) : Bool := Mw (bk.flatMap (·.2)) && (bk.flatMap (·.2)).all fun k => !B5 qs k
def Xd7 (s : Bool) (k : Nat) (y : Leaf) : Pg Unit := (Db k).bind fun e =>
  cond s
    (match e.c, y with
     | .s _ t _, .s n u l' => (Dz (decide (u = t) && n.isOwn)).bind fun _ => .setM k ⟨.s n u l', e.v0, e.v1 + 1⟩ (.ret ())
     | _, _ => .fail)
    (.setM k ⟨y, e.v0 + bump e.c, e.v1⟩ (.ret ()))
def K4 (s : Bool) : List Nat → List Leaf → Pg Unit
 | [], [] => .ret ()
 | k :: ks, y :: ys => (Xd7 s k y).bind fun _ => K4 s ks ys
 | _, _ => .fail
def Gp : List (Bool × List Nat) → List (List Leaf) → Pg (List (List Leaf))
 | [], yss => .ret yss
 | (s, ks) :: r, ys :: yss => (K4 s ks ys).bind fun _ => Gp r yss
 | _ :: _, [] => .fail
def Xvc (k e c : Nat) (ys : List Leaf) : Pg (List Leaf) := (Db k).bind fun x =>
  match x.c with
  | .s .own t l =>
    (match Og .own t (Cr (enc .own t (nthD l e (Bl t))) c ys) with
     | some z => .ret [.s .own t (l.set e z)]
     | none => .fail)
  | _ => .fail
def Ow : List LB → List (List Leaf) → Pg (List (List Leaf))
 | ((true, [k]), some (e, c)) :: r, ys :: yss => (Xvc k e c ys).bind fun z => (Ow r yss).bind fun zs => .ret (z :: zs)
 | _ :: r, ys :: yss => (Ow r yss).bind fun zs => .ret (ys :: zs)
 | _, yss => .ret yss
def Jv (k : Nat) : Pg Unit := (Db k).bind fun e =>
 match e.c with
 | .a (.cell q) v0 _ w => (Dz (!Nat.beq q k)).bind fun _ => (Fc q v0 w).bind fun y => (Db k).bind fun e => .setM k ⟨y, e.v0 + 1, e.v1⟩ (.ret ())
 | _ => .ret ()
def Wh : Loc × Nat × Nat → Pg Unit
 | (.cell k, n, _) => Pg.eachL Jv (Av k n)
 | _ => .ret ()
def V6 : A → Pg Unit
 | .one (.ptr (.cell k) n _) => Pg.eachL Jv (Av k n)
 | .one (.fn _ (c :: cs)) => Pg.eachL Wh (c :: cs)
 | _ => .ret ()
def roC : Leaf → Bool
 | .v _ => true
 | .s m _ _ => !m.isOwn
 | _ => false
def Qb : A → Option (Nat × Nat)
 | .one (.ptr (.cell k) n _) => some (k, n)
 | _ => none
def C9 : List Leaf → Bool
 | [] => false
 | .s .own _ _ :: r => C9 r
 | .s _ _ _ :: _ => true
 | _ :: r => C9 r
def Tx : A → Bool
 | .one x => C9 [x]
 | .agg xs => C9 xs
 | .tup xs => xs.any fun (_, ys) => C9 ys
def Fp : List Nat → Pg Unit
 | [] => .ret ()
 | k :: r => (Db k).bind fun e =>
  match e.c with
  | .s m t l => cond m.isOwn (.setM k ⟨.s .ro t l, e.v0, e.v1⟩ (Fp r)) (Fp r)
  | .v _ => Fp r
  | _ => .fail
def Xex (k : Nat) (r : A) (rest : List (List Leaf)) : Pg A :=
 match Qb r with
 | some (_, n) => (match rest with
  | [ys] => (Dz (Nat.beq ys.length n && Nat.ble 1 n && ys.all roC)).bind fun _ => (newRow k ys).bind fun _ => Di (.ptr (.cell k) n 0)
  | _ => .fail)
 | none => (match rest with
  | [] => Zn k r
  | _ => .fail)
def Ys (E : Env) (d f : Nat) (xs : List A) : Pg A :=
 (Pg.eachL V6 xs).bind fun _ =>
 (Xeh (E.lend f) xs).bind fun ys => (Xes (E.lent f) ys xs).bind fun (as, qs, bk) =>
 (Dz (sepK (bk.map (·.1)) qs)).bind fun _ =>
 .call f as fun (r, bs) => (Ow bk bs).bind fun bs =>
  (cond (Tx r || bs.any C9) (Fp qs) (.ret ())).bind fun _ => (Gp (bk.map (·.1)) bs).bind fun rest => Xex (Hs * d) r rest
def Xdh (cs : List (Loc × Nat × Nat)) : List A := cs.map fun (p, n, v0) => .one (.ptr p n v0)
def X2 (E : Env) (d : Nat) (b : Builtin) (ts : List Nat) (xs : List A) : Pg A :=
 match b, ts, xs with
 | .len, [t], [x] => Xya E t x
 | .cap, [t], [x] => Xzi E t x
 | .append, [t, u], [.one (.v (.slice none 0 0)), .one (.v (.int k n))] => T9 E t u d (.one (.v (.int k n)))
 | .append, [t, u], [x, y] => Xg E t u d x y
 | .min, _, xs => Xx2 xs
 | .max, _, xs => Xwu xs
 | _, _, _ => .fail
def Xcd : List (Nat × A) → List Nat
 | [] => []
 | (_, .one (.a (.cell k) _ _ _)) :: r => k :: Xcd r
 | _ :: r => Xcd r
def Vi (ps : Array (Nat × Operand)) : Pg (List (Nat × A)) :=
 Pg.mapL (fun (i, x) => (Mi x).bind fun y => .ret (i, y)) ps.toList
def Xk0 : Option Operand → Pg (Option A)
 | none => .ret none
 | some x => (Mi x).bind fun y => .ret (some y)
def byB {α : Type} (c : Operand) (p q : Pg α) : Pg α :=
 match c with
 | .tmp t => .brT t p q .fail
 | .const (.bool b) => cond b p q
 | _ => .fail
def Xez : List (Nat × Nat × Ty) → Nat → Option (Nat × Ty)
 | [], _ => none
 | (g, f, t) :: r, q => cond (Nat.beq g q) (some (f, t)) (Xez r q)
def Zz : List (Nat × Nat × Ty) → Nat → Option Ty
 | [], _ => none
 | (_, f, t) :: r, q => cond (Nat.beq f q) (some t) (Zz r q)
def roB : Mode → Bool
 | .ro => true
 | _ => false
def Xvp (l : List (Nat × Nat × Ty)) (g : Nat) (u : Ty) : Bool :=
 match Zz l g with
 | some v => decide (v = u)
 | none => false
def Xfe (g : Nat) (t : Ty) : List A → Pg A
 | [.one (.s m u l), .one (.v (.int k n))] => (Dz (roB m && ikb k .i64 && decide (u = t))).bind fun _ =>
  (Sk (decide (1 ≤ n) && decide (n ≤ 9223372036854775807) && decide (l.length ≤ 140737488355328))).bind fun _ => Di (.it g u l n)
 | _ => .fail
def Oz {α : Type} (n : Nat) (l : List α) (j : Nat) : List α := (l.drop (j * n)).take n
def B0 {α : Type} (n : Nat) (l : List α) : List (List α) := (List.range ((l.length + n - 1) / n)).map (Oz n l)
def U1 (x : Leaf) : Pg Leaf :=
 match x with
 | .a (.elem k e c) v0 v1 w => Me k e c v0 v1 w
 | x => .ret x
def Pp : List Leaf → Pg (List Leaf)
 | [] => .ret []
 | x :: r => (U1 x).bind fun y => (Pp r).bind fun ys => .ret (y :: ys)
def Wd : A → Pg A
 | .one x => (U1 x).bind Di
 | .agg xs => (Pp xs).bind fun ys => .ret (.agg ys)
 | .tup zs => .ret (.tup zs)
def C7 (E : Env) (d : Nat) (op : Op) : Pg A :=
  match op with
  | .move x | .assign x => Mi x
  | .pick c a b => byB c (Mi a) (Mi b)
  | .alloc t => Xc0 E t d
  | .box t x => (Mi x).bind fun x => X1n E t d x
  | .build t ps => (Vi ps).bind fun ps => Z6 E t ps
  | .buildSlice t n ps => (Vi ps).bind fun ps => (cond (B5 E.frz d) (Fp (Xcd ps)) (.ret ())).bind fun _ => Iu E t d n ps
  | .load t x => (Mi x).bind fun x => (Xe2 E t x).bind fun v => cond (B5 E.frz d) (Wd v) (.ret v)
  | .store t x y => (Mi x).bind fun x => (Mi y).bind fun y => (Xdu E t x y).bind fun _ => Z4 undef
  | .nilCheck x => (Mi x).bind fun x => (match x with
    | .one (.ptr p n v0) => Di (.ptr p n v0)
    | .one (.fn f cs) => Di (.fn f cs)
    | _ => .fail)
  | .binOp op t x y _ => (Mi x).bind fun x => (Mi y).bind fun y => X1a E op t x y
  | .unOp op _ x => (Mi x).bind fun x => unP op x
  | .convert s t x => (Mi x).bind fun x => Xoz E s t x
  | .makeFunc fn first caps => cond (first.isEmpty) ((Pg.mapL Mi caps.toList).bind fun cs => I8 fn cs) .fail
  | .makeSlice t n c => (Mi n).bind fun n => (Mi c).bind fun c => Xif E t d n c
  | .slice t x lo hi mx => (Mi x).bind fun x => (Xk0 lo).bind fun lo => (Xk0 hi).bind fun hi => (Xk0 mx).bind fun mx => Xdw E t x lo hi mx
  | .fieldAddr s x f => (Mi x).bind fun x => Kq E s f x
  | .field s x f => (Mi x).bind fun x => Xb6 E s f x
  | .indexAddr t x i => (Mi x).bind fun x => (Mi i).bind fun i => Kk E t d x i
  | .extract x i => (Mi x).bind fun x => Qn i x
  | .call c => (Pg.mapL Mi c.args.toList).bind fun xs =>
    (match c.callee with
     | .builtin b => X2 E d b c.argTypes.toList xs
     | .value f => (Mi f).bind fun f => (match f with
       | .one (.fn f cs) => (match Xez E.itr f with | some (g, t) => cond cs.isEmpty (Xfe g t xs) .fail | none => Ys E d f (xs ++ Xdh cs))
       | _ => .fail)
     | _ => .fail)
  | _ => .fail
def X1k (o : Oper) : Nat := o.dst.getD 0
def Dc (o : Oper) (x : A) : Pg Unit :=
 match o.dst with
 | some d => .setT d x (.ret ())
 | none => .ret ()
def Er : A := .one (.v undef)
def operP (E : Env) (ops : Array Oper) (o : Oper) : Pg Unit :=
 match o.guard with
 | none => (C7 E (X1k o) o.op).bind (Dc o)
 | some (j, b) =>
  match (ops[j]?).bind (·.dst) with
  | some t => cond b
    (.brT t ((C7 E (X1k o) o.op).bind (Dc o)) (Dc o Er) (Dc o Er))
    (.brT t (Dc o Er) ((C7 E (X1k o) o.op).bind (Dc o)) (Dc o Er))
  | none => .fail
def Xtb (E : Env) (ops : Array Oper) : List Oper → Pg Unit
 | [] => .ret ()
 | o :: r => (operP E ops o).bind fun _ => Xtb E ops r
inductive Ex where
 | normal | exit (id : Nat) | ret
def Xmx (t : Nat) : Leaf → Bool
 | .a (.cell k) _ _ none => Nat.beq k (Hs * t + 900)
 | _ => false
def Yy (κ : Nat × TK) : Pg Unit :=
  match κ with
  | (_, .plain) => .ret ()
  | (t, .ro e) => .getT t fun
    | .one x => (resolve x).bind fun y =>
      (match y with
       | .v (.slice none 0 0) => .setT t (.one (.s .ro e [])) (.ret ())
       | .s _ u l => if h : u = e then .setT t (.one (.s .ro u l)) (.ret ()) else .fail
       | _ => .fail)
    | _ => .fail
  | (t, .own m e co) => .getT t fun
    | .one x => cond (Xmx t x) (.ret ()) <| (resolve x).bind fun y =>
      (match y with
       | .v (.slice none 0 0) => (newRow (Hs * t + 900) [.s m e []]).bind fun _ =>
         .setT t (.one (.a (.cell (Hs * t + 900)) 0 0 none)) (.ret ())
       | .s n u l => cond (m.isOwn && Kt m n) (if h : u = e then (newRow (Hs * t + 900) [.s m u l]).bind fun _ =>
         .setT t (.one (.a (.cell (Hs * t + 900)) 0 0 none)) (.ret ()) else .fail) .fail
       | _ => .fail)
    | _ => .fail
def Xof (κ : Nat × TK) : Pg Unit :=
  match κ with
  | (t, .own m e _) => .getT t fun
    | .one (.a (.cell k) v0 v1 (some w)) => cond (Nat.beq k (Hs * t + 900)) ((resolve (.a (.cell k) v0 v1 (some w))).bind fun y =>
      (match y with
       | .s n u l => cond (m.isOwn && Kt m n) (if h : u = e then (newRow (Hs * t + 901) [.s m u l]).bind fun _ =>
         .setT t (.one (.a (.cell (Hs * t + 901)) 0 0 none)) (.ret ()) else .fail) .fail
       | _ => .fail)) (.ret ())
    | _ => .ret ()
  | _ => .ret ()
def L1 (σ : St) : List (Nat × TK) → Bool
 | [] => false
 | (t, .own _ _ _) :: r => (match σ.tmp t with | .one (.a (.cell k) _ _ (some _)) => cond (Nat.beq k (Hs * t + 900)) true (L1 σ r) | _ => L1 σ r)
 | _ :: r => L1 σ r
def Xk5 (κ : Nat × TK) : Pg Unit :=
 match κ with
 | (_, .ro _) => .ret ()
 | _ => .ret ()
def Xe8 : Mode → Bool
 | .sown => true
 | _ => false
def Xp (κ : Nat × TK) : Pg Unit :=
  match κ with
  | (k, .own m t _) => (Jv k).bind fun _ => (Db k).bind fun e =>
    (match e.c with
     | .v (.slice none 0 0) => .setM k ⟨.s (cond (Xe8 m) .sown .own) t [], e.v0 + 1, e.v1⟩ (.ret ())
     | .s .own u l => cond (Xe8 m) (.setM k ⟨.s .sown u l, e.v0, e.v1⟩ (.ret ())) (.ret ())
     | _ => .ret ())
  | (k, .ro t) => (Jv k).bind fun _ => (Db k).bind fun e =>
    (match e.c with
     | .v (.slice none 0 0) => .setM k ⟨.s .ro t [], e.v0 + 1, e.v1⟩ (.ret ())
     | .s m u l => cond m.isOwn (.setM k ⟨.s .ro u l, e.v0, e.v1⟩ (.ret ())) (.ret ())
     | _ => .ret ())
  | _ => .ret ()
def Xnk (h : Hint) : Pg Unit := (Pg.eachL Yy h.tk).bind fun _ => Pg.eachL Xk5 h.mh
def Xcv (ks : List Nat) : Nat → Nat → Bool
 | _, 0 => true
 | k, n + 1 => B5 ks k && Xcv ks (k + 1) n
def Xub (ks : List Nat) (p : Loc) (n : Nat) : Bool :=
 match p with
 | .cell k => Xcv ks k n
 | .elem k _ _ => B5 ks k
def En (ks : List Nat) : List (Loc × Nat × Nat) → Bool
 | [] => true
 | (.cell k, n, _) :: r => Xcv ks k n && En ks r
 | (.elem _ _ _, _, _) :: _ => false
def B4 (ks : List Nat) (mm : List (Nat × Ent)) (x : Leaf) : Leaf :=
 match x with
 | .v y => .v y
 | .s m t l => .s m t l
 | .h m t l e => .h m t l e
 | .a p v0 v1 w => cond (B5 ks (Kj p)) (match lk mm (Kj p) with | some e => cond (J6 p v0 v1 e) (.a p 0 0 w) .d | none => .d) .d
 | .ptr p n v0 => cond (Xub ks p n) (match lk mm (Kj p) with | some e => cond (Xrz p v0 e) (.ptr p n 0) .d | none => .d) .d
 | .fn f cs => cond (En ks cs) (.fn f cs) .d
 | .it f t l n => .it f t l n
 | .d => .d
def Xnn (ks : List Nat) (mm : List (Nat × Ent)) : A → A
 | .one x => .one (B4 ks mm x)
 | .agg xs => .agg (xs.map (B4 ks mm))
 | .tup _ => .one .d
def Hi (hk : List Nat) (ks : List Nat) (mm : List (Nat × Ent)) : Nat → List A → List A
 | _, [] => []
 | i, x :: r => cond (B5 hk i) (Xnn ks mm x) (.one .d) :: Hi hk ks mm (i + 1) r
def Rp (mm : List (Nat × Ent)) (ks : List Nat) : List Nat → List (Nat × Ent)
 | [] => []
 | k :: r => (match lk mm k with
  | some e => (k, ⟨B4 ks mm e.c, 0, 0⟩) :: Rp mm ks r
  | none => Rp mm ks r)
def Ue : List (Nat × TK) → List Nat
 | [] => []
 | (t, .own _ _ _) :: r => (Hs * t + 900) :: Ue r
 | _ :: r => Ue r
def pruneK (tks ks : List Nat) (σ : St) : St := ⟨Hi tks ks σ.mm 0 σ.ts, Rp σ.mm ks ks⟩
def prune (h : Hint) (σ : St) : St := pruneK (h.tk.map (·.1)) (h.mh.map (·.1) ++ Ue h.tk) σ
def F7 (σ : St) : List (Nat × TK) → List Nat
 | [] => []
 | (t, .own _ _ _) :: r => (match σ.tmp t with | .one (.a (.cell k) _ _ _) => k :: F7 σ r | _ => F7 σ r)
 | (t, .ro _) :: r => (match σ.tmp t with | .one (.a (.cell k) _ _ _) => k :: F7 σ r | _ => F7 σ r)
 | _ :: r => F7 σ r
def prune0 (h : Hint) (σ : St) : St := pruneK (h.tk.map (·.1)) (h.mh.map (·.1) ++ F7 σ h.tk) σ
def Xgt (acc : List Nat) (o : Oper) : Nat :=
 o.after.toList.foldr (fun e s => cond (Region.binds .any e) (s ||| 2 ^ e.on ||| nthD acc e.on 0) s) 0
def Cx : List Nat → List Oper → List Nat
 | acc, [] => acc
 | acc, o :: r => Cx (acc ++ [Xgt acc o]) r
def befores (ops : List Oper) : List Nat := Cx [] ops
def E1 : Nat → List Oper → Bool
 | _, [] => true
 | j, o :: r => (o.after.toList.all fun e => !Region.binds .any e || Nat.blt e.on j) && E1 (j + 1) r
def meets : Log → Log → Bool
 | [], _ => false
 | (k, w) :: r, g => g.any (fun (q, u) => Nat.beq k q && (w || u)) || meets r g
def F2 (b : Nat) : Nat → List Log → Log → Bool
 | _, [], _ => true
 | i, g :: r, x => (b.testBit i || !meets g x) && F2 b (i + 1) r x
def N4 (bs : List Nat) : Nat → List Log → List Log → Bool
 | _, _, [] => true
 | j, done, x :: r => F2 (nthD bs j 0) 0 done x && N4 bs (j + 1) (done ++ [x]) r
def Ts (E : Env) {β : Type} (ops : Array Oper) : List Oper → List Log → St → (List Log → St → Option β) → Option β
 | [], gs, σ, k => k gs σ
 | o :: r, gs, σ, k => (operP E ops o).runD E.tab σ [] fun _ σ' g => Ts E ops r (gs ++ [g]) σ' k
def Ez (pins : List (Bool × Nat)) (h : Hint) (σ : St) : Bool :=
 match pins with
 | [] => true
 | (s, k) :: r => (B5 (h.mh.map (·.1)) k && (match lk σ.mm k with | some e => !s || Nat.beq e.v0 0 | none => false)) && Ez r h σ
def Xek (E : Env) (i : Nat) {β : Type} (σ : St) (k : St → Option β) : Option β :=
 (Xnk (E.hint i)).run E.tab σ fun _ σ1 => cond (Ez E.pins (E.hint i) σ1) (k (prune (E.hint i) σ1)) none
def Fl (E : Env) (i : Nat) {β : Type} (σ : St) (k : St → Option β) : Option β :=
 cond (Ez E.pins (E.hint i) σ)
  ((Pg.eachL Xp (E.hint i).mh).run E.tab σ fun _ σ0 => cond (Ez E.pins (E.hint i) σ0)
   (cond (L1 (prune0 (E.hint i) σ0) (E.hint i).tk)
    ((Pg.eachL Xof (E.hint i).tk).run E.tab (prune0 (E.hint i) σ0) fun _ σa => cond (Ez E.pins (E.hint i) σa) (Xek E i (prune0 (E.hint i) σa) k) none)
    (Xek E i (prune0 (E.hint i) σ0) k)) none) none
def Q7 {β : Type} (H : St → (St → Option β) → Option β) (body : St → (Ex → St → Option β) → Option β) (k : Ex → St → Option β) : Nat → St → Option β
 | 0, _ => none
 | n + 1, σ => body σ fun e σ' =>
  match e with
  | .normal => H σ' (Q7 H body k n)
  | e => k e σ'
def Kn {β : Type} {u : Ty} (H : St → (St → Option β) → Option β) (body : Leaf → St → (Ex → St → Option β) → Option β) (k : Ex → St → Option β) : List (List (den u)) → St → Option β
 | [], σ => k .normal σ
 | x :: r, σ => body (.s .ro u x) σ fun e σ' =>
  match e with
  | .normal => H ⟨σ.ts, σ'.mm⟩ (Kn H body k r)
  | _ => none
def Dy (E : Env) : Code → Bool
 | .seq a b => Dy E a && Dy E b
 | .cond _ a b => Dy E a && Dy E b
 | .block _ c => Dy E c
 | .loop _ => false
 | .rangeFunc _ _ _ _ => false
 | .region id _ _ => match E.rh id with | none => true | some _ => false
 | _ => true
def Xsi (E : Env) {β : Type} (ops : Array Oper) (draw : Bool) (σ : St) (k : Ex → St → Option β) : Option β :=
 cond draw
  (Ts E ops ops.toList [] σ fun gs σ' => cond (N4 (befores ops.toList) 0 [] gs && E1 0 ops.toList) (k .normal σ') none)
  ((Xtb E ops ops.toList).run E.tab σ fun _ σ' => k .normal σ')
def Bg (E : Env) {β : Type} : Code → Nat → St → (Ex → St → Option β) → Option β
 | .skip, _, σ, k => k .normal σ
 | .region id ops draw, _, σ, k =>
  match E.rh id with
  | none => Xsi E ops draw σ k
  | some h => cond (Ez E.pins h σ) (Xsi E ops draw (prune h σ) k) none
 | .seq a b, i, σ, k => Bg E a i σ fun e σ' =>
  match e with
  | .normal => Bg E b i σ' k
  | e => k e σ'
 | .cond c a b, i, σ, k =>
  match c with
  | .tmp t => (match σ.tmp t with
   | .one (.v (.bool x)) => cond x (Bg E a i (σ.setT t (.one (.v (.bool true)))) k) (Bg E b i (σ.setT t (.one (.v (.bool false)))) k)
   | _ => none)
  | .const (.bool x) => cond x (Bg E a i σ k) (Bg E b i σ k)
  | _ => none
 | .block id c, _, σ, k => Bg E c id σ fun e σ' =>
  match e with
  | .exit id' => cond (Nat.beq id' id) (k .normal σ') (k (.exit id') σ')
  | e => k e σ'
 | .loop c, i, σ, k => Fl E i σ (Q7 (Fl E i) (fun σ' k' => Bg E c i σ' k') k E.fuel)
 | .rangeFunc f ps x y, i, σ, k =>
  match f with
  | .tmp t => (match σ.tmp t, ps.toList with
   | .one (.it g u l n), [p] => cond (Xvp E.itr g u && Dy E x && Dy E y)
     (Fl E i σ (Kn (Fl E i) (fun z σ' k' => Bg E x i (σ'.setT p (.one z)) fun e σ'' => match e with | .normal => Bg E y i σ'' k' | _ => none) k (B0 n.toNat l))) none
   | _, _ => none)
  | _ => none
 | .exit id, _, σ, k => k (.exit id) σ
 | .ret, _, σ, k => k .ret σ
 | _, _, _, _ => none
def Rx : Nat → List Leaf → List (Nat × Ent)
 | _, [] => []
 | k, c :: r => (k, ⟨c, 0, 0⟩) :: Rx (k + 1) r
def Gt : Nat → List (List Leaf) → List (Loc × Nat × Nat)
 | _, [] => []
 | k, cs :: r => (.cell k, cs.length, 0) :: Gt (k + 100) r
def U6 : Nat → List (List Leaf) → List (Nat × Ent)
 | _, [] => []
 | k, cs :: r => Rx k cs ++ U6 (k + 100) r
def Xb3 : Nat → List (List Leaf) → List (Bool × List Nat)
 | _, [] => []
 | k, cs :: r => (false, Av k cs.length) :: Xb3 (k + 100) r
def Ci (k : Nat) : XL → Leaf × List (Nat × Ent)
 | .b x => (.a (.cell k) 0 0 none, [(k, ⟨x, 0, 0⟩)])
 | .l (.s m t l) => cond m.isOwn (.a (.cell k) 0 0 none, [(k, ⟨.s m t l, 0, 0⟩)]) (.s m t l, [])
 | .l (.v x) => (.v x, [])
 | .l _ => (.d, [])
 | .p cs => (.ptr (.cell k) cs.length 0, Rx k cs)
 | .fn f rs => (.fn f (Gt (k + 100) rs), U6 (k + 100) rs)
def Cj : Nat → List XL → List Leaf × List (Nat × Ent)
 | _, [] => ([], [])
 | k, x :: r => ((Ci k x).1 :: (Cj (k + 1) r).1, (Ci k x).2 ++ (Cj (k + 1) r).2)
def A4 : Nat → List Arg → List A × List (Nat × Ent)
 | _, [] => ([], [])
 | i, .one x :: r => (.one (Ci (Hs * i) x).1 :: (A4 (i + 1) r).1, (Ci (Hs * i) x).2 ++ (A4 (i + 1) r).2)
 | i, .agg xs :: r => (.agg (Cj (Hs * i) xs).1 :: (A4 (i + 1) r).1, (Cj (Hs * i) xs).2 ++ (A4 (i + 1) r).2)
def Rv (k : Nat) : XL → List (Bool × List Nat)
 | .l _ => []
 | .b _ => [(true, [k])]
 | .p cs => [(false, Av k cs.length)]
 | .fn _ rs => Xb3 (k + 100) rs
def Xcu : Nat → List XL → List (Bool × List Nat)
 | _, [] => []
 | k, x :: r => Rv k x ++ Xcu (k + 1) r
def C2 : Nat → List Arg → List (Bool × List Nat)
 | _, [] => []
 | i, .one x :: r => Rv (Hs * i) x ++ C2 (i + 1) r
 | i, .agg xs :: r => Xcu (Hs * i) xs ++ C2 (i + 1) r
def Dr : List (Bool × List Nat) → List (Bool × Nat)
 | [] => []
 | (s, ks) :: r => ks.map (fun k => (s, k)) ++ Dr r
def Qe (m : Mode) : Ty → List Leaf → List Leaf
 | .sl e, [.v (.slice none 0 0)] => [.s m e []]
 | .sl _, [.s n u l] => [cond m.isOwn (.s n u l) (.s .ro u l)]
 | .pair a b, cs => Qe m a (cs.take (wd a)) ++ Qe m b (cs.drop (wd a))
 | _, cs => cs
def I5 (E : Env) (t : Nat) : A → Pg (Bool × List Leaf)
 | .one x => (resolve x).bind fun y => (match E.ty t with
  | some i => .ret (false, Qe E.rm i.ty [y])
  | none => .ret (false, [y]))
 | .agg xs => (Pg.mapL resolve xs).bind fun ys => (match E.ty t with
  | some i => .ret (true, Qe E.rm i.ty ys)
  | none => .fail)
 | .tup _ => .fail
def Jw (E : Env) : List ResultVar → List Nat → Pg (List (Bool × List Leaf))
 | [], _ => .ret []
 | .tmp x :: r, ts => Pg.getT x fun y => (I5 E (ts.headD 0) y).bind fun z => (Jw E r ts.tail).bind fun zs => .ret (z :: zs)
 | .cell a t :: r, ts => Pg.getT a fun x => (Xe2 E t x).bind fun y => (I5 E t y).bind fun z => (Jw E r ts.tail).bind fun zs => .ret (z :: zs)
def Qd (E : Env) (rs : List ResultVar) (ts : List Nat) : Pg A :=
 (Jw E rs ts).bind fun ys =>
 match ys with
 | [(false, [y])] => .ret (.one y)
 | [(true, zs)] => .ret (.agg zs)
 | [] => .ret (.one (.v undef))
 | ys => .ret (.tup ys)
def Tr (s : Bool) (k : Nat) : Pg Leaf := (Db k).bind fun e =>
 (Dz (!s || (Nat.beq e.v0 0 && (match e.c with | .s m _ _ => m.isOwn | _ => false)))).bind fun _ =>
 match e.c with
 | .s _ _ _ => Fc k e.v0 none
 | .v x => .ret (.v x)
 | .a p v0 v1 w => resolve (.a p v0 v1 w)
 | _ => .fail
def Xfb (E : Env) (rs : List ResultVar) (ts : List Nat) (bk : List (Bool × List Nat)) : Pg (A × List (List Leaf)) :=
 (Qd E rs ts).bind fun r => (Pg.mapL (fun (s, ks) => Pg.mapL (Tr s) ks) bk).bind fun bs => .ret (r, bs)
def Xjz (E : Env) (k n : Nat) (bk : List (Bool × List Nat)) : Pg (A × List (List Leaf)) :=
 (Dz (Nat.ble 1 n && (Av k n).all fun q => E.pins.all fun z => !Nat.beq z.2 q)).bind fun _ =>
 (Pg.mapL (fun (s, ks) => Pg.mapL (Tr s) ks) bk).bind fun bs =>
 (Tt k n).bind fun ys => (Dz (ys.all roC)).bind fun _ => .ret (.one (.ptr (.cell 0) n 0), bs ++ [ys])
def Zy (E : Env) (rs : List ResultVar) (ts : List Nat) (bk : List (Bool × List Nat)) : Pg (A × List (List Leaf)) :=
 match rs with
 | [.tmp t] => .getT t fun x => (match Qb x with
  | some (k, n) => Xjz E k n bk
  | none => Xfb E rs ts bk)
 | _ => Xfb E rs ts bk
def Jt (fn : Func) (as : List Arg) : St :=
 ⟨(A4 0 as).1 ++ List.replicate (fn.ntmps - as.length) Er, (A4 0 as).2⟩
def Ag (E : Env) {β : Type} (fn : Func) (as : List Arg) (K : A × List (List Leaf) → Option β) : Option β :=
  match fn.body with
  | some c => Bg E c 0 (Jt fn as) fun e σ =>
    (match e with
     | .normal | .ret => (Zy E fn.results.toList fn.resultTypes.toList (C2 0 as)).run E.tab σ fun r _ => K r
     | _ => none)
  | none => none
end Go.Rf
end

section
set_option linter.unusedVariables false
namespace Go.Rf
def cellAt (w : World) (b o : Nat) : Option Value := w.cell? ⟨b, o, none⟩
def BlkOk (w : World) (b n : Nat) : Prop := ∃ cs te, w.heap[b]? = some (.cells cs te (0, 0)) ∧ n ≤ cs.size
def SlR (w : World) (S : Nat → Prop) {α : Type} (n : Nat) (m : Mode) (hole : Option Nat) (el : α → List Value → List Nat → Prop)
    (l : List α) (y : Value) (bs : List Nat) : Prop :=
  ∃ ad c, y = .slice ad l.length c ∧ l.length ≤ c ∧ (m = .rox → c = l.length) ∧
    (((ad = none ∨ m.isOwn = false) ∧ l = [] ∧ c = 0 ∧ bs = []) ∨
     ∃ b o, ∃ bss : List (List Nat), ad = some ⟨b, o, none⟩ ∧ bss.length = l.length ∧
      (m.isOwn = true → bs = b :: bss.flatten ∧ BlkOk w b (o + c * n)) ∧
      (m.isOwn = false → bs = [] ∧ bss.flatten = [] ∧ (l ≠ [] → S b)) ∧
      (∀ i, hole = some i → bss.getD i [] = []) ∧
      ∀ i x b', hole ≠ some i → l[i]? = some x → bss[i]? = some b' →
        ∃ vs, vs.length = n ∧ (∀ j, j < n → cellAt w b (o + i * n + j) = vs[j]?) ∧ el x vs b')
def Rd (w : World) (S : Nat → Prop) : (t : Ty) → Mode → den t → List Value → List Nat → Prop
 | .int k, _, n, vs, bs => vs = [.int k n] ∧ bs = []
 | .bool, _, b, vs, bs => vs = [.bool b] ∧ bs = []
 | .str, _, s, vs, bs => vs = [.string s] ∧ bs = []
 | .pair a b, m, x, vs, bs => ∃ v1 v2 b1 b2, vs = v1 ++ v2 ∧ bs = b1 ++ b2 ∧ Rd w S a m x.1 v1 b1 ∧ Rd w S b m x.2 v2 b2
 | .sl e, m, l, vs, bs => ∃ y, vs = [y] ∧ SlR w S (wd e) m none (fun x vs bs => Rd w S e m.nest x vs bs) l y bs
theorem X1t {w : World} {S : Nat → Prop} : ∀ {t : Ty} {m : Mode} {x : den t} {vs : List Value} {bs : List Nat}, Rd w S t m x vs bs → vs.length = wd t := by
 intro t
 induction t with
 | int k => rintro m x vs bs ⟨rfl, _⟩; rfl
 | bool => rintro m x vs bs ⟨rfl, _⟩; rfl
 | str => rintro m x vs bs ⟨rfl, _⟩; rfl
 | sl e ih => rintro m x vs bs ⟨y, rfl, _⟩; rfl
 | pair a b iha ihb =>
  rintro m x vs bs ⟨v1, v2, b1, b2, rfl, rfl, h1, h2⟩
  simp [wd, iha h1, ihb h2]
theorem BlkOk.same {w w' : World} {b n : Nat} (h : w'.heap[b]? = w.heap[b]?) (hb : BlkOk w b n) : BlkOk w' b n := by
 obtain ⟨cs, te, h1, h2⟩ := hb
 exact ⟨cs, te, h.trans h1, h2⟩
theorem A2 {w w' : World} {b o : Nat} (h : w'.heap[b]? = w.heap[b]?) : cellAt w' b o = cellAt w b o := by
 unfold cellAt World.cell?
 simp only [h]
theorem SlR.imp {w w' : World} {S S' : Nat → Prop} {α : Type} {n : Nat} {m : Mode} {hole : Option Nat} {el el' : α → List Value → List Nat → Prop}
  {l : List α} {y : Value} {bs : List Nat} (h : SlR w S n m hole el l y bs) (hS : ∀ b, S b → S' b)
  (hw : ∀ b, (S b ∨ b ∈ bs) → w'.heap[b]? = w.heap[b]?)
  (he : ∀ x vs b', (∀ b ∈ b', b ∈ bs) → el x vs b' → el' x vs b') : SlR w' S' n m hole el' l y bs := by
 obtain ⟨ad, c, hy, hc, hx, hr⟩ := h
 refine ⟨ad, c, hy, hc, hx, ?_⟩
 rcases hr with hr | ⟨b, o, bss, had, hlen, ho, hro, hh, hel⟩
 ·exact .inl hr
 refine .inr ⟨b, o, bss, had, hlen, ?_, ?_, hh, ?_⟩
 ·intro hm
  obtain ⟨h1, h2⟩ := ho hm
  exact ⟨h1, h2.same (hw b (.inr (by rw [h1]; exact List.mem_cons_self)))⟩
 ·intro hm
  obtain ⟨h1, h2, h3⟩ := hro hm
  exact ⟨h1, h2, fun hne => hS b (h3 hne)⟩
 ·intro i x b' hi hx hb'
  obtain ⟨vs, hvs, hcell, hx'⟩ := hel i x b' hi hx hb'
  have hsub : ∀ q ∈ b', q ∈ bs := by
   intro q hq
   have hq' : q ∈ bss.flatten := List.mem_flatten.2 ⟨b', List.mem_of_getElem? hb', hq⟩
   cases hm : m.isOwn with
   | true => rw [(ho hm).1]; exact List.mem_cons_of_mem _ hq'
   | false => rw [(hro hm).2.1] at hq'; cases hq'
  refine ⟨vs, hvs, ?_, he x vs b' hsub hx'⟩
  intro j hj
  rw [A2 (w := w)]
  ·exact hcell j hj
  ·cases hm : m.isOwn with
   | true => exact hw b (.inr (by rw [(ho hm).1]; exact List.mem_cons_self))
   | false =>
    refine hw b (.inl ((hro hm).2.2 ?_))
    intro hnil; rw [hnil] at hx; simp at hx
theorem Rd.imp {w w' : World} {S S' : Nat → Prop} (hS : ∀ b, S b → S' b) : ∀ {t : Ty} {m : Mode} {x : den t} {vs : List Value} {bs : List Nat},
  Rd w S t m x vs bs → (∀ b, (S b ∨ b ∈ bs) → w'.heap[b]? = w.heap[b]?) → Rd w' S' t m x vs bs := by
 intro t
 induction t with
 | int k => intro m x vs bs h hw; exact h
 | bool => intro m x vs bs h hw; exact h
 | str => intro m x vs bs h hw; exact h
 | sl e ih =>
  rintro m x vs bs ⟨y, rfl, h⟩ hw
  refine ⟨y, rfl, h.imp hS hw ?_⟩
  intro x vs b' hsub hx
  exact ih hx (fun b hb => hw b (hb.imp id (hsub b)))
 | pair a b iha ihb =>
  rintro m x vs bs ⟨v1, v2, b1, b2, rfl, rfl, h1, h2⟩ hw
  exact ⟨v1, v2, b1, b2, rfl, rfl, iha h1 (fun b hb => hw b (hb.imp id (List.mem_append_left _))), ihb h2 (fun b hb => hw b (hb.imp id (List.mem_append_right _)))⟩
theorem Eo {bss : List (List Nat)} (h : ∀ b ∈ bss, b = []) : bss.flatten = [] := by
 induction bss with
 | nil => rfl
 | cons a r ih => simp only [List.flatten_cons, h a List.mem_cons_self, ih fun b hb => h b (List.mem_cons_of_mem _ hb), List.append_nil]
theorem Pb {bss : List (List Nat)} (h : bss.flatten = []) {b : List Nat} (hb : b ∈ bss) : b = [] := by
 cases b with
 | nil => rfl
 | cons q r =>
  have : q ∈ bss.flatten := List.mem_flatten.2 ⟨q :: r, hb, List.mem_cons_self⟩
  rw [h] at this; cases this
theorem Rd.toRo {w : World} {S : Nat → Prop} : ∀ {t : Ty} {m : Mode} {x : den t} {vs : List Value} {bs : List Nat},
  Rd w S t m x vs bs → Rd w (fun b => S b ∨ b ∈ bs) t .ro x vs [] := by
 intro t
 induction t with
 | int k => rintro m x vs bs ⟨h, _⟩; exact ⟨h, rfl⟩
 | bool => rintro m x vs bs ⟨h, _⟩; exact ⟨h, rfl⟩
 | str => rintro m x vs bs ⟨h, _⟩; exact ⟨h, rfl⟩
 | sl e ih =>
  rintro m x vs bs ⟨y, rfl, ad, c, hy, hc, hx, hr⟩
  refine ⟨y, rfl, ad, c, hy, hc, by simp, ?_⟩
  rcases hr with ⟨h1, h2, h3, h4⟩ | ⟨b, o, bss, had, hlen, ho, hro, hh, hel⟩
  ·exact .inl ⟨.inr rfl, h2, h3, rfl⟩
  refine .inr ⟨b, o, bss.map fun _ => [], had, by simp [hlen], by simp [Mode.isOwn], ?_, by simp, ?_⟩
  ·intro _
   refine ⟨rfl, Eo (by simp), fun hne => ?_⟩
   cases hm : m.isOwn with
   | true => exact .inr (by rw [(ho hm).1]; exact List.mem_cons_self)
   | false => exact .inl ((hro hm).2.2 hne)
  ·intro i x' b' hi hx' hb'
   have hi' : i < bss.length := by
    rw [hlen]; exact (List.getElem?_eq_some_iff.1 hx').1
   obtain ⟨vs, hvs, hcell, hx2⟩ := hel i x' bss[i] hi hx' (List.getElem?_eq_getElem hi')
   have hb0 : b' = [] := by
    rw [List.getElem?_map, List.getElem?_eq_getElem hi'] at hb'
    simpa using hb'.symm
   subst hb0
   refine ⟨vs, hvs, hcell, ?_⟩
   refine (ih hx2).imp (fun q hq => ?_) (fun _ _ => rfl)
   rcases hq with hq | hq
   ·exact .inl hq
   ·right
    have hq' : q ∈ bss.flatten := List.mem_flatten.2 ⟨_, List.getElem_mem hi', hq⟩
    cases hm : m.isOwn with
    | true => rw [(ho hm).1]; exact List.mem_cons_of_mem _ hq'
    | false => rw [(hro hm).2.1] at hq'; cases hq'
 | pair a b iha ihb =>
  rintro m x vs bs ⟨v1, v2, b1, b2, rfl, rfl, h1, h2⟩
  refine ⟨v1, v2, [], [], rfl, rfl, (iha h1).imp ?_ (fun _ _ => rfl), (ihb h2).imp ?_ (fun _ _ => rfl)⟩
  ·exact fun q hq => hq.imp id (List.mem_append_left _)
  ·exact fun q hq => hq.imp id (List.mem_append_right _)
def LfV (w : World) (S : Nat → Prop) : Leaf → Value → List Nat → Prop
 | .v x, y, bs => y = x ∧ bs = []
 | .s m t l, y, bs => Rd w S (.sl t) m l [y] bs
 | _, _, _ => False
def Cs (w : World) (S : Nat → Prop) : List Leaf → List Value → List (List Nat) → Prop
 | [], [], [] => True
 | c :: cs, v :: vs, b :: bs => LfV w S c v b ∧ Cs w S cs vs bs
 | _, _, _ => False
theorem Em {w : World} {S : Nat → Prop} : ∀ {c1 c2 : List Leaf} {v1 v2 : List Value} {b1 b2 : List (List Nat)},
  Cs w S c1 v1 b1 → Cs w S c2 v2 b2 → Cs w S (c1 ++ c2) (v1 ++ v2) (b1 ++ b2)
 | [], _, [], _, [], _, _, h => h
 | c :: cs, c2, v :: vs, v2, b :: bs, b2, ⟨h1, h2⟩, h => ⟨h1, Em h2 h⟩
 | [], _, _ :: _, _, _, _, h, _ => h.elim
 | [], _, [], _, _ :: _, _, h, _ => h.elim
 | _ :: _, _, [], _, _, _, h, _ => h.elim
 | _ :: _, _, _ :: _, _, [], _, h, _ => h.elim
theorem Kz {w : World} {S : Nat → Prop} : ∀ {c : List Leaf} {v : List Value} {b : List (List Nat)}, Cs w S c v b → c.length = v.length ∧ b.length = v.length
 | [], [], [], _ => ⟨rfl, rfl⟩
 | c :: cs, v :: vs, b :: bs, ⟨_, h⟩ => by have := Kz h; simp [this.1, this.2]
 | [], _ :: _, _, h => h.elim
 | [], [], _ :: _, h => h.elim
 | _ :: _, [], _, h => h.elim
 | _ :: _, _ :: _, [], h => h.elim
theorem Xx {w : World} {S : Nat → Prop} : ∀ {c1 c2 : List Leaf} {v : List Value} {b : List (List Nat)},
  Cs w S (c1 ++ c2) v b → ∃ v1 v2 b1 b2, v = v1 ++ v2 ∧ b = b1 ++ b2 ∧ Cs w S c1 v1 b1 ∧ Cs w S c2 v2 b2
 | [], c2, v, b, h => ⟨[], v, [], b, rfl, rfl, trivial, h⟩
 | c :: cs, c2, v :: vs, b :: bs, ⟨h1, h2⟩ => by
  obtain ⟨v1, v2, b1, b2, rfl, rfl, h3, h4⟩ := Xx h2
  exact ⟨v :: v1, v2, b :: b1, b2, rfl, rfl, ⟨h1, h3⟩, h4⟩
 | _ :: _, _, [], _, h => h.elim
 | _ :: _, _, _ :: _, [], h => h.elim
theorem Nm {w : World} {S : Nat → Prop} : ∀ {c : List Leaf} {v : List Value} {b : List (List Nat)} {i : Nat} {x : Leaf},
  Cs w S c v b → c[i]? = some x → ∃ y q, v[i]? = some y ∧ b[i]? = some q ∧ LfV w S x y q
 | c :: cs, v :: vs, b :: bs, 0, x, ⟨h1, h2⟩, hx => by
  simp at hx; subst hx; exact ⟨v, b, rfl, rfl, h1⟩
 | c :: cs, v :: vs, b :: bs, i + 1, x, ⟨h1, h2⟩, hx => by
  simpa using Nm (i := i) h2 (by simpa using hx)
 | [], _, _, _, _, _, hx => by simp at hx
 | _ :: _, [], _, _, _, h, _ => h.elim
 | _ :: _, _ :: _, [], _, _, h, _ => h.elim
theorem Hd {w w' : World} {S S' : Nat → Prop} (hS : ∀ b, S b → S' b) : ∀ {c : List Leaf} {v : List Value} {b : List (List Nat)},
  Cs w S c v b → (∀ q, (S q ∨ q ∈ b.flatten) → w'.heap[q]? = w.heap[q]?) → Cs w' S' c v b
 | [], [], [], _, _ => trivial
 | c :: cs, v :: vs, b :: bs, ⟨h1, h2⟩, hw => by
  refine ⟨?_, Hd hS h2 fun q hq => hw q (hq.imp id fun h => by simp [h])⟩
  cases c with
  | v x => exact h1
  | s m t l => exact h1.imp hS fun q hq => hw q (hq.imp id fun h => by simp [h])
  | _ => exact h1.elim
 | [], _ :: _, _, h, _ => h.elim
 | [], [], _ :: _, h, _ => h.elim
 | _ :: _, [], _, h, _ => h.elim
 | _ :: _, _ :: _, [], h, _ => h.elim
theorem Rd.cs {w : World} {S : Nat → Prop} : ∀ {t : Ty} {m : Mode} {x : den t} {vs : List Value} {bs : List Nat},
  Rd w S t m x vs bs → ∃ bss, Cs w S (enc m t x) vs bss ∧ bs = bss.flatten := by
 intro t
 induction t with
 | int k => rintro m x vs bs ⟨rfl, rfl⟩; exact ⟨[[]], ⟨⟨rfl, rfl⟩, trivial⟩, rfl⟩
 | bool => rintro m x vs bs ⟨rfl, rfl⟩; exact ⟨[[]], ⟨⟨rfl, rfl⟩, trivial⟩, rfl⟩
 | str => rintro m x vs bs ⟨rfl, rfl⟩; exact ⟨[[]], ⟨⟨rfl, rfl⟩, trivial⟩, rfl⟩
 | sl e ih =>
  rintro m x vs bs ⟨y, rfl, h⟩
  exact ⟨[bs], ⟨⟨y, rfl, h⟩, trivial⟩, by simp⟩
 | pair a b iha ihb =>
  rintro m x vs bs ⟨v1, v2, b1, b2, rfl, rfl, h1, h2⟩
  obtain ⟨s1, c1, rfl⟩ := iha h1
  obtain ⟨s2, c2, rfl⟩ := ihb h2
  exact ⟨s1 ++ s2, Em c1 c2, by simp⟩
theorem Fs {w : World} {S : Nat → Prop} {c : Leaf} {cs : List Leaf} : ∀ {v : List Value} {b : List (List Nat)}, Cs w S (c :: cs) v b →
  ∃ y q v' b', v = y :: v' ∧ b = q :: b' ∧ LfV w S c y q ∧ Cs w S cs v' b'
 | y :: v', q :: b', ⟨h, h'⟩ => ⟨y, q, v', b', rfl, rfl, h, h'⟩
 | [], _, h => h.elim
 | _ :: _, [], h => h.elim
theorem Ba (m : Mode) : ∀ (t : Ty) (x : den t), (enc m t x).length = wd t := by
 intro t
 induction t with
 | pair a b iha ihb => intro x; simp [enc, wd, iha, ihb]
 | _ => intro x; rfl
theorem Rd.weaken {w : World} {S : Nat → Prop} {t : Ty} {m n : Mode} {l : List (den t)} {vs : List Value} {bs : List Nat}
  (h : Rd w S (.sl t) n l vs bs) (hf : Kt m n = true) (hm : m ≠ .rox) (hnd : bs.Nodup) :
  ∃ bs', List.Sublist bs' bs ∧ Rd w (fun b => S b ∨ b ∈ bs ∧ b ∉ bs') (.sl t) m l vs bs' := by
 cases m with
 | own => cases n <;> simp [Kt] at hf; exact ⟨bs, List.Sublist.refl _, h.imp (fun _ hb => .inl hb) fun _ _ => rfl⟩
 | rox => exact absurd rfl hm
 | ro => exact ⟨[], List.nil_sublist _, (h.toRo).imp (fun b hb => hb.imp id fun h => ⟨h, by simp⟩) fun _ _ => rfl⟩
 | sown =>
  obtain ⟨y, rfl, ad, c, hy, hc, hx, hr⟩ := h
  have hn : n.isOwn = true := by cases n <;> simp_all [Kt, Mode.isOwn]
  rcases hr with ⟨h1, h2, h3, h4⟩ | ⟨b, o, bss, had, hlen, ho, hro, hh, hel⟩
  ·exact ⟨[], List.nil_sublist _, y, rfl, ad, c, hy, hc, by simp, .inl ⟨h1.imp id (fun h => by rw [hn] at h; cases h), h2, h3, rfl⟩⟩
  obtain ⟨hbs, hblk⟩ := ho hn
  subst hbs
  refine ⟨[b], by simp, y, rfl, ad, c, hy, hc, by simp, .inr ⟨b, o, bss.map fun _ => [], had, by simp [hlen], ?_, by simp [Mode.isOwn], by simp, ?_⟩⟩
  ·intro _
   exact ⟨by rw [Eo (by simp)], hblk⟩
  ·intro i x' b' hi hx' hb'
   have hi' : i < bss.length := by
    rw [hlen]; exact (List.getElem?_eq_some_iff.1 hx').1
   obtain ⟨vs, hvs, hcell, hx2⟩ := hel i x' bss[i] hi hx' (List.getElem?_eq_getElem hi')
   have hb0 : b' = [] := by
    rw [List.getElem?_map, List.getElem?_eq_getElem hi'] at hb'
    simpa using hb'.symm
   subst hb0
   refine ⟨vs, hvs, hcell, ?_⟩
   refine (hx2.toRo).imp (fun q hq => ?_) (fun _ _ => rfl)
   rcases hq with hq | hq
   ·exact .inl hq
   ·right
    have hq' : q ∈ bss.flatten := List.mem_flatten.2 ⟨_, List.getElem_mem hi', hq⟩
    refine ⟨List.mem_cons_of_mem _ hq', fun hqb => ?_⟩
    have : q = b := by simpa using hqb
    subst this
    exact (List.nodup_cons.1 hnd).1 hq'
theorem Bj {α : Type} {f : Leaf → Option α} {cs r : List Leaf} {x : α} (h : hd f cs = some (x, r)) : ∃ c, cs = c :: r ∧ f c = some x := by
 cases cs with
 | nil => simp [hd] at h
 | cons c r' =>
  simp only [hd] at h
  cases hf : f c with
  | none => rw [hf] at h; simp at h
  | some a =>
   rw [hf] at h; simp only [Option.some.injEq, Prod.mk.injEq] at h
   obtain ⟨rfl, rfl⟩ := h
   exact ⟨c, rfl, hf⟩
theorem Ky {k k' : IntKind} (h : ikb k k' = true) : k = k' := by cases k <;> cases k' <;> first | rfl | simp [ikb] at h
theorem Xgy {w : World} {m : Mode} (hm : m ≠ .rox) : ∀ {t : Ty} {S : Nat → Prop} {cs r : List Leaf} {x : den t} {vs : List Value} {bss : List (List Nat)},
  Nj m t cs = some (x, r) → Cs w S cs vs bss → bss.flatten.Nodup →
  ∃ v1 v2 b1 b2 bs', vs = v1 ++ v2 ∧ bss = b1 ++ b2 ∧ Cs w S r v2 b2 ∧ List.Sublist bs' b1.flatten ∧
   Rd w (fun b => S b ∨ b ∈ b1.flatten ∧ b ∉ bs') t m x v1 bs' := by
 intro t
 induction t with
 | int k =>
  intro S cs r x vs bss h hc hnd
  obtain ⟨c, rfl, hf⟩ := Bj h
  obtain ⟨y, q, vs', bss', rfl, rfl, h1, h2⟩ := Fs hc
  unfold Xgf at hf
  split at hf <;> try (simp at hf; done)
  rename_i k' n
  cases hk : ikb k k' with
  | false => rw [hk] at hf; simp at hf
  | true =>
   rw [hk] at hf; simp only [cond_true, Option.some.injEq] at hf
   subst hf
   obtain ⟨rfl, rfl⟩ := h1
   exact ⟨[_], vs', [[]], bss', [], rfl, rfl, h2, by simp, by rw [Ky hk], rfl⟩
 | bool =>
  intro S cs r x vs bss h hc hnd
  obtain ⟨c, rfl, hf⟩ := Bj h
  obtain ⟨y, q, vs', bss', rfl, rfl, h1, h2⟩ := Fs hc
  unfold Xgc at hf
  split at hf <;> try (simp at hf; done)
  simp only [Option.some.injEq] at hf
  subst hf
  obtain ⟨rfl, rfl⟩ := h1
  exact ⟨[_], vs', [[]], bss', [], rfl, rfl, h2, by simp, rfl, rfl⟩
 | str =>
  intro S cs r x vs bss h hc hnd
  obtain ⟨c, rfl, hf⟩ := Bj h
  obtain ⟨y, q, vs', bss', rfl, rfl, h1, h2⟩ := Fs hc
  unfold Xgw at hf
  split at hf <;> try (simp at hf; done)
  simp only [Option.some.injEq] at hf
  subst hf
  obtain ⟨rfl, rfl⟩ := h1
  exact ⟨[_], vs', [[]], bss', [], rfl, rfl, h2, by simp, rfl, rfl⟩
 | sl e ih =>
  intro S cs r x vs bss h hc hnd
  obtain ⟨c, rfl, hf⟩ := Bj h
  obtain ⟨y, q, vs', bss', rfl, rfl, h1, h2⟩ := Fs hc
  have hq : q.Nodup := by simp only [List.flatten_cons] at hnd; exact (List.nodup_append.1 hnd).1
  unfold Xg1 at hf
  split at hf <;> try (simp at hf; done)
  ·rename_i n u l
   cases hfi : Kt m n with
   | false => rw [hfi] at hf; simp at hf
   | true =>
    rw [hfi] at hf
    simp only [cond_true] at hf
    split at hf <;> try (simp at hf; done)
    rename_i hu
    subst hu
    simp only [Option.some.injEq] at hf
    subst hf
    have h3 : Rd w S (.sl u) n l [y] q := h1
    obtain ⟨bs', hs, hr⟩ := h3.weaken hfi hm hq
    exact ⟨[y], vs', [q], bss', bs', rfl, rfl, h2, by simpa using hs, by simpa using hr⟩
  ·simp only [Option.some.injEq] at hf
   subst hf
   obtain ⟨rfl, rfl⟩ := h1
   refine ⟨[_], vs', [[]], bss', [], rfl, rfl, h2, by simp, _, rfl, none, 0, rfl, Nat.le_refl _, fun _ => rfl, .inl ⟨.inl rfl, rfl, rfl, rfl⟩⟩
 | pair a b iha ihb =>
  intro S cs r x vs bss h hc hnd
  simp only [Nj] at h
  split at h <;> try (simp at h; done)
  rename_i y r1 h1
  split at h <;> try (simp at h; done)
  rename_i z r2 h2
  simp only [Option.some.injEq, Prod.mk.injEq] at h
  obtain ⟨rfl, rfl⟩ := h
  obtain ⟨v1, v2, b1, b2, bs1, rfl, rfl, hc2, hs1, hr1⟩ := iha h1 hc hnd
  simp only [List.flatten_append] at hnd
  obtain ⟨hn1, hn2, hn3⟩ := List.nodup_append.1 hnd
  obtain ⟨v3, v4, b3, b4, bs2, rfl, rfl, hc3, hs2, hr2⟩ := ihb h2 hc2 hn2
  refine ⟨v1 ++ v3, v4, b1 ++ b3, b4, bs1 ++ bs2, by simp, by simp, hc3, by simpa using hs1.append hs2, v1, v3, bs1, bs2, rfl, rfl, ?_, ?_⟩
  ·refine hr1.imp (fun q hq => ?_) fun _ _ => rfl
   rcases hq with hq | ⟨hq, hq'⟩
   ·exact .inl hq
   ·refine .inr ⟨by simp [hq], ?_⟩
    simp only [List.mem_append, not_or]
    exact ⟨hq', fun h5 => hn3 q hq q (by simp [hs2.subset h5]) rfl⟩
  ·refine hr2.imp (fun q hq => ?_) fun _ _ => rfl
   rcases hq with hq | ⟨hq, hq'⟩
   ·exact .inl hq
   ·refine .inr ⟨by simp [hq], ?_⟩
    simp only [List.mem_append, not_or]
    exact ⟨fun h5 => hn3 q (hs1.subset h5) q (by simp [hq]) rfl, hq'⟩
theorem Y7 {w : World} {S : Nat → Prop} {m : Mode} (hm : m ≠ .rox) {t : Ty} {cs : List Leaf} {x : den t} {vs : List Value} {bss : List (List Nat)}
  (h : Og m t cs = some x) (hc : Cs w S cs vs bss) (hnd : bss.flatten.Nodup) :
  ∃ bs', List.Sublist bs' bss.flatten ∧ Rd w (fun b => S b ∨ b ∈ bss.flatten ∧ b ∉ bs') t m x vs bs' := by
 unfold Og at h
 split at h <;> try (simp at h; done)
 rename_i y hd
 simp only [Option.some.injEq] at h
 subst h
 obtain ⟨v1, v2, b1, b2, bs', rfl, rfl, h2, h3, h4⟩ := Xgy hm hd hc hnd
 have : v2 = [] ∧ b2 = [] := by
  cases v2 <;> cases b2 <;> simp_all [Cs]
 obtain ⟨rfl, rfl⟩ := this
 exact ⟨bs', by simpa using h3, by simpa using h4⟩
end Go.Rf
end

section
set_option linter.unusedVariables false
namespace Go.Rf
abbrev Mem := Nat → Option Ent
structure Gh where
 ad : Nat → Option (Nat × Nat)
 hv : Nat → Value
 bl : Nat → List Nat
 S : Nat → Prop
def leafAt (mem : Mem) : Loc → Option Leaf
 | .cell k => (mem k).map (·.c)
 | .elem k e c =>
  match mem k with
  | some ⟨.s m t l, _, _⟩ => Dt (enc m.nest t (nthD l e (Bl t))) c
  | _ => none
def lstOf : Leaf → Option (Ty × Nat)
 | .s _ t l => some (t, l.length)
 | .h _ t l _ => some (t, l.length)
 | _ => none
def inR (mem : Mem) : Loc → Prop
 | .cell _ => True
 | .elem k e _ => ∃ x t q, mem k = some x ∧ lstOf x.c = some (t, q) ∧ e < q
def hdrAt (w : World) (g : Gh) (mem : Mem) : Loc → Option Value
 | .cell k => some (g.hv k)
 | .elem k e c =>
  match g.hv k, mem k with
  | .slice (some a) _ _, some ⟨.s m t l, _, _⟩ => cellAt w a.block (a.off + e * wd t + c)
  | _, _ => none
def Qj (q n : Nat) (win : Option (Nat × Nat)) (h y : Value) : Prop :=
 match win with
 | none => y = h
 | some (lo, hi) => ∃ ad c p c', h = .slice ad n c ∧ lo ≤ hi ∧ hi ≤ n ∧
   y = .slice (ad.map (·.add (p * q))) (hi - lo) c' ∧ hi - lo ≤ c' ∧ p + c' ≤ c ∧ (p = lo ∨ c' = 0)
def AOk (w : World) (g : Gh) (mem : Mem) (p : Loc) (v0 v1 : Nat) (win : Option (Nat × Nat)) (y : Value) : Prop :=
 (∃ ad n c, y = .slice ad n c) ∧ ∃ e, mem (Kj p) = some e ∧ v0 ≤ e.v0 ∧ v1 ≤ e.v1 ∧
  (J6 p v0 v1 e = true → inR mem p ∧ ∃ t q h, (leafAt mem p).bind lstOf = some (t, q) ∧ hdrAt w g mem p = some h ∧ Qj (wd t) q win h y)
def POk (g : Gh) (mem : Mem) (p : Loc) (n v0 : Nat) (y : Value) : Prop :=
 match p with
 | .cell k => ∃ b o, y = .pointer (some ⟨b, o, none⟩) ∧ ∀ j, j < n → g.ad (k + j) = some (b, o + j)
 | .elem k e c => (∃ a' : Addr, y = .pointer (some a')) ∧ ∃ x, mem k = some x ∧ v0 ≤ x.v0 ∧ (v0 = x.v0 → ∃ t q, ∃ a : Addr, ∃ len cap, lstOf x.c = some (t, q) ∧ e < q ∧ c + n ≤ wd t ∧
   g.hv k = .slice (some ⟨a.block, a.off, none⟩) len cap ∧ y = .pointer (some ⟨a.block, a.off + e * wd t + c, none⟩))
def ItV (w : World) (S : Nat → Prop) (f : Nat) (t : Ty) (l : List (den t)) (n : Int) (y : Value) : Prop :=
 ∃ b1 b2 v, y = .func (.func f) #[] #[.pointer (some ⟨b1, 0, none⟩), .pointer (some ⟨b2, 0, none⟩)] ∧ S b1 ∧ S b2 ∧ cellAt w b1 0 = some v ∧ cellAt w b2 0 = some (.int .i64 n) ∧
  Rd w S (.sl t) .ro l [v] [] ∧ (1 ≤ n ∧ n ≤ 9223372036854775807) ∧ l.length ≤ 140737488355328
theorem ItV.imp {w w' : World} {S S' : Nat → Prop} {f : Nat} {t : Ty} {l : List (den t)} {n : Int} {y : Value} (h : ItV w S f t l n y) (hS : ∀ b, S b → S' b) (hw : ∀ b, S b → w'.heap[b]? = w.heap[b]?) : ItV w' S' f t l n y := by
 obtain ⟨b1, b2, v, e, h1, h2, h3, h4, h5, h6, h7⟩ := h
 exact ⟨b1, b2, v, e, hS _ h1, hS _ h2, (A2 (hw _ h1)).trans h3, (A2 (hw _ h2)).trans h4, h5.imp hS fun b hb => hw b (hb.resolve_right (by simp)), h6, h7⟩
def LfR (w : World) (g : Gh) (mem : Mem) : Leaf → Value → List Nat → Prop
 | .v x, y, bs => y = x ∧ bs = []
 | .s m t l, y, bs => Rd w g.S (.sl t) m l [y] bs
 | .h m t l e, y, bs => SlR w g.S (wd t) m (some e) (fun x vs bs => Rd w g.S t m.nest x vs bs) l y bs
 | .a p v0 v1 win, y, bs => bs = [] ∧ AOk w g mem p v0 v1 win y
 | .ptr p n v0, y, bs => bs = [] ∧ POk g mem p n v0 y
 | .fn f cs, y, bs => bs = [] ∧ ∃ ys : List Value, y = .func (.func f) #[] ys.toArray ∧ ys.length = cs.length ∧
   ∀ (i : Nat) (p : Loc) (n v0 : Nat) (z : Value), cs[i]? = some (p, n, v0) → ys[i]? = some z → POk g mem p n v0 z
 | .it f t l n, y, bs => bs = [] ∧ ItV w g.S f t l n y
 | .d, _, bs => bs = []
def LsR (w : World) (g : Gh) (mem : Mem) (xs : List Leaf) (ys : List Value) : Prop :=
 ys.length = xs.length ∧ ∀ (i : Nat) (x : Leaf) (z : Value), xs[i]? = some x → ys[i]? = some z → LfR w g mem x z []
def TR (w : World) (g : Gh) (mem : Mem) : Bool × List Leaf → Value → Prop
 | (false, [x]), z => LfR w g mem x z []
 | (true, zs), z => ∃ us : List Value, z = .agg us.toArray ∧ LsR w g mem zs us
 | _, _ => False
def AR (w : World) (g : Gh) (mem : Mem) : A → Value → Prop
 | .one x, y => LfR w g mem x y []
 | .agg xs, y => ∃ ys : List Value, y = .agg ys.toArray ∧ LsR w g mem xs ys
 | .tup xs, y => ∃ ys : List Value, y = .tuple ys.toArray ∧ ys.length = xs.length ∧
   ∀ (i : Nat) (q : Bool × List Leaf) (z : Value), xs[i]? = some q → ys[i]? = some z → TR w g mem q z
abbrev Hand := List (Leaf × Value × List Nat)
def Hand.bs (H : Hand) : List Nat := H.flatMap (·.2.2)
structure Rel (w : World) (g : Gh) (σ : St) (ts : Array Value) (H : Hand) : Prop where
 mem : ∀ k e, σ.mem k = some e → LfR w g σ.mem e.c (g.hv k) (g.bl k)
 cell : ∀ k b o, g.ad k = some (b, o) → cellAt w b o = some (g.hv k) ∧ BlkOk w b (o + 1)
 inj : ∀ k k' a, g.ad k = some a → g.ad k' = some a → k = k'
 pres : ∀ k, σ.mem k = none → g.ad k = none ∧ g.bl k = []
 tmps : ∀ t, AR w g σ.mem (σ.tmp t) (ts.getD t undef)
 len : σ.ts.length = ts.size
 nd : ∀ k, (g.bl k).Nodup
 dj : ∀ k k', k ≠ k' → ∀ b ∈ g.bl k, b ∉ g.bl k'
 box : ∀ k b o, g.ad k = some (b, o) → (∀ k', b ∉ g.bl k') ∧ b ∉ H.bs ∧ ¬ g.S b
 st : ∀ b, g.S b → (∀ k, b ∉ g.bl k) ∧ b ∉ H.bs ∧ b < w.heap.size
 hnd : H.bs.Nodup
 hdj : ∀ k, ∀ b ∈ g.bl k, b ∉ H.bs
 hand : ∀ x ∈ H, LfV w g.S x.1 x.2.1 x.2.2
structure Step (w : World) (g : Gh) (mem : Mem) (w' : World) (g' : Gh) (mem' : Mem) : Prop where
 S : ∀ b, g.S b → g'.S b
 ad : ∀ k a, g.ad k = some a → g'.ad k = some a
 key : ∀ k e, mem k = some e → ∃ e', mem' k = some e' ∧ e.v0 ≤ e'.v0 ∧ e.v1 ≤ e'.v1 ∧
  (e.v0 = e'.v0 → ∀ z, lstOf e.c = some z → g'.hv k = g.hv k ∧ lstOf e'.c = some z ∧
   (e.v1 = e'.v1 → ∀ i c z', (leafAt mem (.elem k i c)).bind lstOf = some z' → inR mem (.elem k i c) →
    (leafAt mem' (.elem k i c)).bind lstOf = some z' ∧ hdrAt w' g' mem' (.elem k i c) = hdrAt w g mem (.elem k i c)))
theorem Step.inR {w w' : World} {g g' : Gh} {mem mem' : Mem} (h : Step w g mem w' g' mem') {k i c : Nat} {e e' : Ent} (he : mem k = some e) (he' : mem' k = some e')
  (hv : e.v0 = e'.v0) (hr : inR mem (.elem k i c)) : inR mem' (.elem k i c) := by
 obtain ⟨x, t, q, hx, hl, hi⟩ := hr
 rw [he] at hx; cases hx
 obtain ⟨e2, h1, h2, h3, h4⟩ := h.key k e he
 rw [he'] at h1; cases h1
 exact ⟨_, t, q, he', (h4 hv _ hl).2.1, hi⟩
theorem AOk.step {w w' : World} {g g' : Gh} {mem mem' : Mem} (h : Step w g mem w' g' mem') {p : Loc} {v0 v1 : Nat} {win : Option (Nat × Nat)} {y : Value}
  (ha : AOk w g mem p v0 v1 win y) : AOk w' g' mem' p v0 v1 win y := by
 obtain ⟨hsl, e, he, h0, h1, hc⟩ := ha
 obtain ⟨e', he', k0, k1, hk⟩ := h.key _ e he
 refine ⟨hsl, e', he', Nat.le_trans h0 k0, Nat.le_trans h1 k1, fun hch => ?_⟩
 cases p with
 | cell k =>
  simp only [J6] at hch
  have hv' : v0 = e'.v0 := Nat.eq_of_beq_eq_true hch
  have hv : e.v0 = e'.v0 := by omega
  obtain ⟨_, t, q, hh, r1, r2, r3⟩ := hc (by simp only [J6]; rw [hv]; exact hch)
  simp only [Kj] at he he'
  simp only [leafAt, he, Option.map_some, Option.bind_some] at r1
  obtain ⟨g1, g2, _⟩ := hk hv _ r1
  refine ⟨trivial, t, q, hh, ?_, ?_, r3⟩
  ·simp only [leafAt, he', Option.map_some, Option.bind_some]
   exact g2
  ·simp only [hdrAt, Kj] at r2 g1 ⊢
   rw [g1]; exact r2
 | elem k i c =>
  simp only [J6, Bool.and_eq_true] at hch
  have hv' : v0 = e'.v0 := Nat.eq_of_beq_eq_true hch.1
  have hv'' : v1 = e'.v1 := Nat.eq_of_beq_eq_true hch.2
  have hv : e.v0 = e'.v0 := by omega
  have hv1 : e.v1 = e'.v1 := by omega
  obtain ⟨r0, t, q, hh, r1, r2, r3⟩ := hc (by simp only [J6, Bool.and_eq_true]; rw [hv, hv1]; exact hch)
  obtain ⟨x0, t0, q0, hx0, hl0, hi0⟩ := r0
  simp only [Kj] at he
  rw [he] at hx0; cases hx0
  obtain ⟨g1, g2, g3⟩ := hk hv _ hl0
  have r0 : Rf.inR mem (.elem k i c) := ⟨_, t0, q0, he, hl0, hi0⟩
  obtain ⟨s1, s2⟩ := g3 hv1 i c _ r1 r0
  exact ⟨h.inR he he' hv r0, t, q, hh, s1, s2.trans r2, r3⟩
theorem POk.step {w w' : World} {g g' : Gh} {mem mem' : Mem} (h : Step w g mem w' g' mem') {p : Loc} {n v0 : Nat} {y : Value}
  (ha : POk g mem p n v0 y) : POk g' mem' p n v0 y := by
 cases p with
 | cell k =>
  obtain ⟨b, o, hy, hj⟩ := ha
  exact ⟨b, o, hy, fun j hlt => h.ad _ _ (hj j hlt)⟩
 | elem k i c =>
  obtain ⟨hp, x, hx, h0, hc⟩ := ha
  obtain ⟨e', he', k0, k1, hk⟩ := h.key _ x hx
  refine ⟨hp, e', he', Nat.le_trans h0 k0, fun hv => ?_⟩
  have hv2 : x.v0 = e'.v0 := by omega
  obtain ⟨t, q, a, len, cap, r1, r2, r3, r4, r5⟩ := hc (by omega)
  obtain ⟨g1, g2, _⟩ := hk hv2 _ r1
  exact ⟨t, q, a, len, cap, g2, r2, r3, g1.trans r4, r5⟩
theorem LfR.step {w w' : World} {g g' : Gh} {mem mem' : Mem} (h : Step w g mem w' g' mem') {x : Leaf} {y : Value} {bs : List Nat}
  (hw : ∀ b, (g.S b ∨ b ∈ bs) → w'.heap[b]? = w.heap[b]?) (ha : LfR w g mem x y bs) : LfR w' g' mem' x y bs := by
 cases x with
 | v x => exact ha
 | s m t l =>
  have ha' : Rd w g.S (.sl t) m l [y] bs := ha
  exact ha'.imp h.S hw
 | h m t l e =>
  have ha' : SlR w g.S (wd t) m (some e) (fun x vs bs => Rd w g.S t m.nest x vs bs) l y bs := ha
  exact ha'.imp h.S hw fun x vs b' hsub hx => hx.imp h.S fun b hb => hw b (hb.imp id (hsub b))
 | a p v0 v1 win => exact ⟨ha.1, ha.2.step h⟩
 | ptr p n v0 => exact ⟨ha.1, ha.2.step h⟩
 | fn f cs =>
  obtain ⟨hb, ys, hy, hl, hp⟩ := ha
  exact ⟨hb, ys, hy, hl, fun i p n v0 z h1 h2 => (hp i p n v0 z h1 h2).step h⟩
 | it f t l n => exact ⟨ha.1, ha.2.imp h.S fun b hb => hw b (.inl hb)⟩
 | d => exact ha
theorem LsR.step {w w' : World} {g g' : Gh} {mem mem' : Mem} (h : Step w g mem w' g' mem') (hw : ∀ b, g.S b → w'.heap[b]? = w.heap[b]?) {xs : List Leaf} {ys : List Value}
  (ha : LsR w g mem xs ys) : LsR w' g' mem' xs ys :=
 ⟨ha.1, fun i x z h1 h2 => (ha.2 i x z h1 h2).step h fun b hb => hw b (hb.resolve_right (by simp))⟩
theorem TR.step {w w' : World} {g g' : Gh} {mem mem' : Mem} (h : Step w g mem w' g' mem') (hw : ∀ b, g.S b → w'.heap[b]? = w.heap[b]?) {q : Bool × List Leaf} {z : Value}
  (ha : TR w g mem q z) : TR w' g' mem' q z := by
 obtain ⟨f, xs⟩ := q
 cases f with
 | true => obtain ⟨us, h1, h2⟩ := ha; exact ⟨us, h1, h2.step h hw⟩
 | false =>
  match xs, ha with
  | [x], ha => exact LfR.step h (fun b hb => hw b (hb.resolve_right (by simp))) ha
theorem AR.step {w w' : World} {g g' : Gh} {mem mem' : Mem} (h : Step w g mem w' g' mem') (hw : ∀ b, g.S b → w'.heap[b]? = w.heap[b]?) {x : A} {y : Value}
  (ha : AR w g mem x y) : AR w' g' mem' x y := by
 cases x with
 | one x => exact LfR.step h (fun b hb => hw b (hb.resolve_right (by simp))) ha
 | agg xs => obtain ⟨us, h1, h2⟩ := ha; exact ⟨us, h1, h2.step h hw⟩
 | tup xs =>
  obtain ⟨ys, h1, h2, h3⟩ := ha
  exact ⟨ys, h1, h2, fun i q z h4 h5 => (h3 i q z h4 h5).step h hw⟩
end Go.Rf
end

section
set_option linter.unusedVariables false
namespace Go.Rf
theorem Xmf : ∀ (mm : List (Nat × Ent)) (k : Nat) (e : Ent) (q : Nat), lk (ups mm k e) q = if q = k then some e else lk mm q
 | [], k, e, q => by
  simp only [ups, lk]
  by_cases h : q = k
  ·subst h; simp [Nat.beq_refl]
  ·have : Nat.beq k q = false := by
    cases hb : Nat.beq k q with
    | false => rfl
    | true => exact absurd (Nat.eq_of_beq_eq_true hb).symm h
   simp [this, h]
 | (k', x) :: r, k, e, q => by
  simp only [ups]
  cases hb : Nat.beq k' k with
  | true =>
   have hk := Nat.eq_of_beq_eq_true hb
   subst hk
   simp only [cond_true, lk]
   by_cases h : q = k'
   ·subst h; simp [Nat.beq_refl]
   ·have : Nat.beq k' q = false := by
     cases hb : Nat.beq k' q with
     | false => rfl
     | true => exact absurd (Nat.eq_of_beq_eq_true hb).symm h
    simp [this, h]
  | false =>
   simp only [cond_false, lk]
   cases hq : Nat.beq k' q with
   | true =>
    have hk := Nat.eq_of_beq_eq_true hq
    subst hk
    have : k' ≠ k := fun h => by subst h; simp [Nat.beq_refl] at hb
    simp [this]
   | false => simp only [cond_false]; exact Xmf r k e q
theorem St.mem_setM (σ : St) (k : Nat) (e : Ent) (q : Nat) : (σ.setM k e).mem q = if q = k then some e else σ.mem q := Xmf _ _ _ _
theorem St.tmp_setM (σ : St) (k : Nat) (e : Ent) (t : Nat) : (σ.setM k e).tmp t = σ.tmp t := rfl
theorem St.mem_setT (σ : St) (t : Nat) (x : A) (q : Nat) : (σ.setT t x).mem q = σ.mem q := rfl
theorem Ji {α : Type} : ∀ (l : List α) (n : Nat) (x : α) (q : Nat) (d : α), nthD (Ux l n x) q d = if q = n ∧ n < l.length then x else nthD l q d
 | [], n, x, q, d => by simp [Ux, nthD]
 | a :: r, 0, x, q, d => by cases q <;> simp [Ux, nthD]
 | a :: r, n + 1, x, q, d => by
  cases q with
  | zero => simp [Ux, nthD]
  | succ q => simp only [Ux, nthD, Ji r n x q d, List.length_cons]; simp
theorem Ra {α : Type} : ∀ (l : List α) (n : Nat) (x : α), (Ux l n x).length = l.length
 | [], n, x => rfl
 | a :: r, 0, x => rfl
 | a :: r, n + 1, x => by simp [Ux, Ra r n x]
theorem B8 {α : Type} : ∀ (l : List α) (n : Nat) (d : α), nthD l n d = l.getD n d
 | [], n, d => by simp [nthD]
 | a :: r, 0, d => by simp [nthD]
 | a :: r, n + 1, d => by simp only [nthD, B8 r n d]; simp
theorem Cc {α : Type} : ∀ (l : List α) (n : Nat), Dt l n = l[n]?
 | [], n => by simp [Dt]
 | a :: r, 0 => by simp [Dt]
 | a :: r, n + 1 => by simp only [Dt, Cc r n]; simp
theorem Bn (b o n : Nat) : (⟨b, o, none⟩ : Addr).add n = ⟨b, o + n, none⟩ := by
 unfold Addr.add
 split
 ·rename_i h; subst h; rfl
 ·rfl
theorem O7 {l1 l2 : List (List Nat)} (h : List.Sublist l1 l2) : List.Sublist l1.flatten l2.flatten := by
 induction h with
 | slnil => exact List.Sublist.refl _
 | cons a h ih => simp only [List.flatten_cons]; exact ih.trans (List.sublist_append_right _ _)
 | cons_cons a h ih => simp only [List.flatten_cons]; exact (List.Sublist.refl _).append ih
theorem SlR.win {w : World} {S : Nat → Prop} {α : Type} {n : Nat} {m : Mode} {el : α → List Value → List Nat → Prop} {l : List α} {h y : Value} {bs : List Nat}
  {wi : Option (Nat × Nat)} (hs : SlR w S n m none el l h bs) (hm : m ≠ .rox) (hw : Qj n l.length wi h y) :
  ∃ bs', List.Sublist bs' bs ∧ SlR w S n m none el (Rf.win wi l) y bs' := by
 cases wi with
 | none =>
  simp only [Qj] at hw
  subst hw
  exact ⟨bs, List.Sublist.refl _, hs⟩
 | some p =>
  obtain ⟨lo, hi⟩ := p
  obtain ⟨ad, c, p, c', rfl, hlo, hhi, rfl, hc1, hc2, hp⟩ := hw
  obtain ⟨ad', c2, he, hlc, hx, hr⟩ := hs
  simp only [Value.slice.injEq] at he
  obtain ⟨rfl, _, rfl⟩ := he
  have hlen : (Rf.win (some (lo, hi)) l).length = hi - lo := by
   simp only [Rf.win, List.length_drop, List.length_take, Nat.min_eq_left hhi]
  rcases hr with ⟨h0, rfl, rfl, rfl⟩ | ⟨b, o, bss, rfl, hbl, ho, hro, hh, hel⟩
  ·simp at hhi
   subst hhi
   have : lo = 0 := by omega
   subst this
   exact ⟨[], by simp, ad.map (·.add (p * n)), c', by simp [Rf.win], by simp [Rf.win], fun h => absurd h hm, .inl ⟨h0.imp (fun h => by rw [h]; rfl) id, by simp [Rf.win], by omega, rfl⟩⟩
  ·have hsub : List.Sublist ((bss.take hi).drop lo) bss := (List.drop_sublist _ _).trans (List.take_sublist _ _)
   refine ⟨if m.isOwn then b :: ((bss.take hi).drop lo).flatten else [], ?_, some ⟨b, o + p * n, none⟩, c', ?_, ?_, fun h => absurd h hm, .inr ⟨b, o + p * n, (bss.take hi).drop lo, rfl, ?_, ?_, ?_, by simp, ?_⟩⟩
   ·cases hmo : m.isOwn with
    | true => simp only [if_true]; rw [(ho hmo).1]; exact (O7 hsub).cons_cons b
    | false => simp
   ·rw [hlen]; simp [Bn]
   ·rw [hlen]; exact hc1
   ·rw [hlen]; simp only [List.length_drop, List.length_take, hbl, Nat.min_eq_left hhi]
   ·intro hmo
    obtain ⟨_, cs, te, h1, h2⟩ := ho hmo
    refine ⟨by simp [hmo], cs, te, h1, ?_⟩
    have : p * n + c' * n ≤ c * n := by rw [← Nat.add_mul]; exact Nat.mul_le_mul_right _ hc2
    omega
   ·intro hmo
    obtain ⟨h1, h2, h3⟩ := hro hmo
    refine ⟨by simp [hmo], ?_, fun hne => h3 fun hnil => hne (by simp [hnil, Rf.win])⟩
    exact Eo fun b' hb' => Pb h2 (hsub.subset hb')
   ·intro i x b' _ hx' hb'
    have hi' : i < hi - lo := by rw [← hlen]; exact (List.getElem?_eq_some_iff.1 hx').1
    have hp' : p = lo := by rcases hp with h | h; exact h; omega
    subst hp'
    simp only [Rf.win] at hx'
    rw [List.getElem?_drop, List.getElem?_take_of_lt (by omega)] at hx' hb'
    obtain ⟨vs, hvs, hcell, hxx⟩ := hel (p + i) x b' (by simp) hx' hb'
    refine ⟨vs, hvs, fun j hj => ?_, hxx⟩
    rw [← hcell j hj]
    congr 1
    rw [Nat.add_mul]; omega
end Go.Rf
end

section
set_option linter.unusedVariables false
namespace Go.Rf
def B2 {α : Type} (f : Nat → α) (k : Nat) (v : α) : Nat → α := fun q => if q = k then v else f q
theorem Ae {α : Type} (f : Nat → α) (k : Nat) (v : α) : B2 f k v k = v := by simp [B2]
theorem Au {α : Type} (f : Nat → α) {k q : Nat} (v : α) (h : q ≠ k) : B2 f k v q = f q := by simp [B2, h]
theorem BlkOk.lt {w : World} {b n : Nat} (h : BlkOk w b n) : b < w.heap.size := by
 obtain ⟨cs, te, h1, _⟩ := h
 exact (Array.getElem?_eq_some_iff.1 h1).1
theorem La {w : World} {S : Nat → Prop} : ∀ {t : Ty} {m : Mode} {x : den t} {vs : List Value} {bs : List Nat}, Rd w S t m x vs bs → ∀ b ∈ bs, b < w.heap.size := by
 intro t
 induction t with
 | int k => rintro m x vs bs ⟨_, rfl⟩ b hb; cases hb
 | bool => rintro m x vs bs ⟨_, rfl⟩ b hb; cases hb
 | str => rintro m x vs bs ⟨_, rfl⟩ b hb; cases hb
 | pair a b iha ihb =>
  rintro m x vs bs ⟨v1, v2, b1, b2, rfl, rfl, h1, h2⟩ q hq
  rcases List.mem_append.1 hq with h | h
  ·exact iha h1 q h
  ·exact ihb h2 q h
 | sl e ih =>
  rintro m x vs bs ⟨y, rfl, ad, c, hy, hc, hx, hr⟩ q hq
  rcases hr with ⟨_, _, _, rfl⟩ | ⟨b, o, bss, had, hlen, ho, hro, hh, hel⟩
  ·cases hq
  cases hm : m.isOwn with
  | false => rw [(hro hm).1] at hq; cases hq
  | true =>
   obtain ⟨h1, h2⟩ := ho hm
   rw [h1] at hq
   rcases List.mem_cons.1 hq with rfl | hq
   ·exact h2.lt
   ·obtain ⟨b', hb', hq'⟩ := List.mem_flatten.1 hq
    obtain ⟨i, hi, rfl⟩ := List.mem_iff_getElem.1 hb'
    have hil : i < x.length := by rw [← hlen]; exact hi
    obtain ⟨vs, _, _, hx'⟩ := hel i x[i] bss[i] (by simp) (List.getElem?_eq_getElem hil) (List.getElem?_eq_getElem hi)
    exact ih hx' q hq'
theorem Step.refl (w : World) (g : Gh) (mem : Mem) : Step w g mem w g mem :=
 ⟨fun _ h => h, fun _ _ h => h, fun k e he => ⟨e, he, Nat.le_refl _, Nat.le_refl _, fun _ z hz => ⟨rfl, hz, fun _ i c z h1 h2 => ⟨h1, rfl⟩⟩⟩⟩
theorem Step.bump {w : World} {g g' : Gh} {σ : St} {k : Nat} {e e' : Ent} (he : σ.mem k = some e) (h0 : e.v0 < e'.v0) (h1 : e.v1 ≤ e'.v1)
  (hS : ∀ b, g.S b → g'.S b) (had : ∀ q a, g.ad q = some a → g'.ad q = some a) (hhv : ∀ q, q ≠ k → g'.hv q = g.hv q) :
  Step w g σ.mem w g' (σ.setM k e').mem := by
 refine ⟨hS, had, fun q x hx => ?_⟩
 by_cases hq : q = k
 ·subst hq
  rw [he] at hx; cases hx
  exact ⟨e', by rw [St.mem_setM]; simp, Nat.le_of_lt h0, h1, fun h => by omega⟩
 ·refine ⟨x, by rw [St.mem_setM]; simp [hq, hx], Nat.le_refl _, Nat.le_refl _, fun _ z hz => ⟨hhv q hq, hz, fun _ i c z h2 h3 => ?_⟩⟩
  simp only [leafAt, hdrAt, St.mem_setM, hq, if_false, hhv q hq] at h2 ⊢
  exact ⟨h2, trivial⟩
theorem Step.fresh {w : World} {g g' : Gh} {σ : St} {k : Nat} {e' : Ent} (he : σ.mem k = none)
  (hS : ∀ b, g.S b → g'.S b) (had : ∀ q a, g.ad q = some a → g'.ad q = some a) (hhv : ∀ q, q ≠ k → g'.hv q = g.hv q) :
  Step w g σ.mem w g' (σ.setM k e').mem := by
 refine ⟨hS, had, fun q x hx => ?_⟩
 have hq : q ≠ k := fun h => by subst h; rw [he] at hx; cases hx
 refine ⟨x, by rw [St.mem_setM]; simp [hq, hx], Nat.le_refl _, Nat.le_refl _, fun _ z hz => ⟨hhv q hq, hz, fun _ i c z h2 h3 => ?_⟩⟩
 simp only [leafAt, hdrAt, St.mem_setM, hq, if_false, hhv q hq] at h2 ⊢
 exact ⟨h2, trivial⟩
theorem SlR.hdr {w : World} {S : Nat → Prop} {α : Type} {n : Nat} {m : Mode} {hole : Option Nat} {el : α → List Value → List Nat → Prop} {l : List α} {y : Value} {bs : List Nat}
  (h : SlR w S n m hole el l y bs) {i : Nat} (hi : i < l.length) : ∃ b o c, y = .slice (some ⟨b, o, none⟩) l.length c ∧ l.length ≤ c ∧ (S b ∨ b ∈ bs) := by
 obtain ⟨ad, c, rfl, hc, hx, hr⟩ := h
 rcases hr with ⟨_, rfl, _, _⟩ | ⟨b, o, bss, rfl, hlen, ho, hro, hh, hel⟩
 ·simp at hi
 ·refine ⟨b, o, c, rfl, hc, ?_⟩
  cases hm : m.isOwn with
  | true => exact .inr (by rw [(ho hm).1]; exact List.mem_cons_self)
  | false => exact .inl ((hro hm).2.2 (by intro h; rw [h] at hi; simp at hi))
theorem Step.world {w w' : World} {g g' : Gh} {σ : St} {ts : Array Value} {H : Hand} (h : Rel w g σ ts H)
  (hw : ∀ b, (g.S b ∨ ∃ k, b ∈ g.bl k) → w'.heap[b]? = w.heap[b]?) (hS : ∀ b, g.S b → g'.S b) (had : ∀ q a, g.ad q = some a → g'.ad q = some a)
  (hhv : g'.hv = g.hv) : Step w g σ.mem w' g' σ.mem := by
 refine ⟨hS, had, fun q x hx => ⟨x, hx, Nat.le_refl _, Nat.le_refl _, fun _ z hz => ⟨by rw [hhv], hz, fun _ i c z h2 h3 => ⟨h2, ?_⟩⟩⟩⟩
 obtain ⟨x', t, q', hx', hl, hi⟩ := h3
 rw [hx] at hx'; cases hx'
 obtain ⟨xc, xv0, xv1⟩ := x
 have hm := h.mem q _ hx
 cases xc with
 | s m t l =>
  obtain ⟨y, hy, hs⟩ := (hm : Rd w g.S (.sl t) m l [g.hv q] (g.bl q))
  simp only [List.cons.injEq, and_true] at hy
  subst hy
  simp only [lstOf, Option.some.injEq, Prod.mk.injEq] at hl
  obtain ⟨b, o, c', hy, _, hb⟩ := hs.hdr (i := i) (by omega)
  simp only [hdrAt, hhv, hy, hx]
  exact A2 (hw b (hb.imp id fun h => ⟨q, h⟩))
 | h m t l e => simp [leafAt, hx] at h2
 | _ => simp [leafAt, hx] at h2
theorem Rel.grow {w w' : World} {g : Gh} {σ : St} {ts : Array Value} {H : Hand} (h : Rel w g σ ts H) (hw : ∀ b, b < w.heap.size → w'.heap[b]? = w.heap[b]?)
  (hsz : w.heap.size ≤ w'.heap.size) : Rel w' g σ ts H := by
 have hbl : ∀ k b, b ∈ g.bl k → b < w.heap.size := by
  intro k b hb
  cases hm : σ.mem k with
  | none => rw [(h.pres k hm).2] at hb; cases hb
  | some e =>
   have := h.mem k e hm
   cases hc : e.c with
   | v x => rw [hc] at this; rw [this.2] at hb; cases hb
   | s m t l => rw [hc] at this; exact La (t := .sl t) this b hb
   | h m t l i =>
    rw [hc] at this
    obtain ⟨ad, c, hy, hcc, hx, hr⟩ := this
    rcases hr with ⟨_, _, _, h4⟩ | ⟨b', o, bss, had, hlen, ho, hro, hh, hel⟩
    ·rw [h4] at hb; cases hb
    cases hmo : m.isOwn with
    | false => rw [(hro hmo).1] at hb; cases hb
    | true =>
     obtain ⟨h1, h2⟩ := ho hmo
     rw [h1] at hb
     rcases List.mem_cons.1 hb with rfl | hq
     ·exact h2.lt
     ·obtain ⟨q, hq', hq2⟩ := List.mem_flatten.1 hq
      obtain ⟨j, hj, rfl⟩ := List.mem_iff_getElem.1 hq'
      have hjl : j < l.length := by rw [← hlen]; exact hj
      by_cases hji : i = j
      ·subst hji
       have := hh i rfl
       simp only [List.getD_eq_getElem?_getD, List.getElem?_eq_getElem hj, Option.getD_some] at this
       rw [this] at hq2; cases hq2
      ·obtain ⟨vs, _, _, hx'⟩ := hel j l[j] bss[j] (by simp [hji]) (List.getElem?_eq_getElem hjl) (List.getElem?_eq_getElem hj)
       exact La hx' b hq2
   | a p v0 v1 wi => rw [hc] at this; rw [this.1] at hb; cases hb
   | ptr p n v0 => rw [hc] at this; rw [this.1] at hb; cases hb
   | fn f cs => rw [hc] at this; rw [this.1] at hb; cases hb
   | it f t l n => rw [hc] at this; rw [this.1] at hb; cases hb
   | d => rw [hc] at this; rw [show g.bl k = [] from this] at hb; cases hb
 have hS : ∀ b, (g.S b ∨ ∃ k, b ∈ g.bl k) → w'.heap[b]? = w.heap[b]? := by
  rintro b (hb | ⟨k, hb⟩)
  ·exact hw b (h.st b hb).2.2
  ·exact hw b (hbl k b hb)
 have hst := Step.world (g' := g) h hS (fun _ h => h) (fun _ _ h => h) rfl
 refine ⟨fun k e he => (h.mem k e he).step hst fun b hb => hS b (hb.imp id fun h => ⟨k, h⟩), ?_, h.inj, h.pres, fun t => (h.tmps t).step hst fun b hb => hS b (.inl hb), h.len, h.nd, h.dj, h.box,
  fun b hb => ⟨(h.st b hb).1, (h.st b hb).2.1, Nat.lt_of_lt_of_le (h.st b hb).2.2 hsz⟩, h.hnd, h.hdj, ?_⟩
 ·intro k b o ha
  obtain ⟨h1, h2⟩ := h.cell k b o ha
  exact ⟨(A2 (hw b h2.lt)).trans h1, h2.same (hw b h2.lt)⟩
 ·intro x hx
  have := h.hand x hx
  obtain ⟨xl, xv, xb⟩ := x
  cases xl with
  | v z => exact this
  | s m t l =>
   have h2 : Rd w g.S (.sl t) m l [xv] xb := this
   refine h2.imp (fun _ h => h) fun b hb => ?_
   rcases hb with hb | hb
   ·exact hS b (.inl hb)
   ·exact hw b (La h2 b hb)
  | _ => exact this.elim
end Go.Rf
end

section
set_option linter.unusedVariables false
namespace Go.Rf
theorem Hand.bs_cons (x : Leaf × Value × List Nat) (H : Hand) : Hand.bs (x :: H) = x.2.2 ++ Hand.bs H := by simp [Hand.bs]
theorem LfV.imp {w w' : World} {S S' : Nat → Prop} {x : Leaf} {y : Value} {bs : List Nat} (h : LfV w S x y bs) (hS : ∀ b, S b → S' b)
  (hw : ∀ b, (S b ∨ b ∈ bs) → w'.heap[b]? = w.heap[b]?) : LfV w' S' x y bs := by
 cases x with
 | v z => exact h
 | s m t l => exact Rd.imp (t := .sl t) hS h hw
 | _ => exact h.elim
theorem LfV.lt {w : World} {S : Nat → Prop} {x : Leaf} {y : Value} {bs : List Nat} (h : LfV w S x y bs) : ∀ b ∈ bs, b < w.heap.size := by
 cases x with
 | v z => intro b hb; rw [h.2] at hb; cases hb
 | s m t l => exact La (t := .sl t) h
 | _ => exact h.elim
theorem Rel.setKey {w : World} {g g' : Gh} {σ : St} {ts : Array Value} {H H' : Hand} {k : Nat} {e' : Ent} (h : Rel w g σ ts H)
  (hst : Step w g σ.mem w g' (σ.setM k e').mem) (had : g'.ad = g.ad) (hhv : ∀ q, q ≠ k → g'.hv q = g.hv q) (hbl : ∀ q, q ≠ k → g'.bl q = g.bl q)
  (hcell : ∀ b o, g.ad k = some (b, o) → g'.hv k = g.hv k)
  (hk : LfR w g' (σ.setM k e').mem e'.c (g'.hv k) (g'.bl k))
  (hS : ∀ b, g'.S b → g.S b ∨ b ∈ g.bl k ∨ b ∈ H.bs)
  (hSlt : ∀ b, g'.S b → b < w.heap.size)
  (hnd : (g'.bl k ++ H'.bs).Nodup) (hsub : ∀ b, b ∈ g'.bl k ∨ b ∈ H'.bs → b ∈ g.bl k ∨ b ∈ H.bs)
  (hSd : ∀ b, g'.S b → b ∉ g'.bl k ∧ b ∉ H'.bs)
  (hand : ∀ x ∈ H', LfV w g'.S x.1 x.2.1 x.2.2) : Rel w g' (σ.setM k e') ts H' := by
 obtain ⟨n1, n2, n3⟩ := List.nodup_append.1 hnd
 have hbd : ∀ q, q ≠ k → ∀ b ∈ g.bl q, b ∉ g.bl k ∧ b ∉ H.bs := fun q hq b hb => ⟨h.dj q k hq b hb, h.hdj q b hb⟩
 refine ⟨?_, ?_, by rw [had]; exact h.inj, ?_, fun t => (h.tmps t).step hst fun _ _ => rfl, h.len, ?_, ?_, ?_, ?_, n2, ?_, hand⟩
 ·intro q e he
  rw [St.mem_setM] at he
  by_cases hq : q = k
  ·subst hq; simp at he; subst he; exact hk
  ·simp only [hq, if_false] at he
   rw [hhv q hq, hbl q hq]
   exact (h.mem q e he).step hst fun _ _ => rfl
 ·intro q b o ha
  rw [had] at ha
  by_cases hq : q = k
  ·subst hq; rw [hcell b o ha]; exact h.cell q b o ha
  ·rw [hhv q hq]; exact h.cell q b o ha
 ·intro q hq
  rw [St.mem_setM] at hq
  by_cases hqk : q = k
  ·subst hqk; simp at hq
  ·simp only [hqk, if_false] at hq
   rw [had, hbl q hqk]; exact h.pres q hq
 ·intro q
  by_cases hq : q = k
  ·subst hq; exact n1
  ·rw [hbl q hq]; exact h.nd q
 ·intro q q' hne b hb hb'
  by_cases hq : q = k
  ·subst hq
   rw [hbl q' (Ne.symm hne)] at hb'
   obtain ⟨h1, h2⟩ := hbd q' (Ne.symm hne) b hb'
   exact (hsub b (.inl hb)).elim h1 h2
  ·by_cases hq' : q' = k
   ·subst hq'
    rw [hbl q hq] at hb
    obtain ⟨h1, h2⟩ := hbd q hq b hb
    exact (hsub b (.inl hb')).elim h1 h2
   ·rw [hbl q hq] at hb; rw [hbl q' hq'] at hb'
    exact h.dj q q' hne b hb hb'
 ·intro q b o ha
  rw [had] at ha
  obtain ⟨h1, h2, h3⟩ := h.box q b o ha
  refine ⟨fun q' hb => ?_, fun hb => (hsub b (.inr hb)).elim (h1 k) h2, fun hs => (hS b hs).elim h3 fun h4 => h4.elim (h1 k) h2⟩
  by_cases hq' : q' = k
  ·subst hq'; exact (hsub b (.inl hb)).elim (h1 q') h2
  ·rw [hbl q' hq'] at hb; exact h1 q' hb
 ·intro b hs
  obtain ⟨d1, d2⟩ := hSd b hs
  refine ⟨fun q hb => ?_, d2, hSlt b hs⟩
  by_cases hq : q = k
  ·subst hq; exact d1 hb
  ·rw [hbl q hq] at hb
   rcases hS b hs with h1 | h1 | h1
   ·exact (h.st b h1).1 q hb
   ·exact (hbd q hq b hb).1 h1
   ·exact (hbd q hq b hb).2 h1
 ·intro q b hb hb'
  by_cases hq : q = k
  ·subst hq; exact n3 b hb b hb' rfl
  ·rw [hbl q hq] at hb
   obtain ⟨h1, h2⟩ := hbd q hq b hb
   exact (hsub b (.inr hb')).elim h1 h2
theorem Rel.take {w : World} {g : Gh} {σ : St} {ts : Array Value} {H : Hand} (h : Rel w g σ ts H) {k : Nat} {m : Mode} {t : Ty} {l : List (den t)} {v0 v1 : Nat}
  {wi : Option (Nat × Nat)} {y : Value} (he : σ.mem k = some ⟨.s m t l, v0, v1⟩) (hm : m ≠ .rox) (hy : Qj (wd t) l.length wi (g.hv k) y) :
  ∃ bs, (∀ b ∈ bs, b ∈ g.bl k) ∧ Rel w { g with bl := B2 g.bl k [] } (σ.setM k ⟨.d, v0 + 1, v1⟩) ts ((.s m t (Rf.win wi l), y, bs) :: H) := by
 obtain ⟨y', hy', hs⟩ := (h.mem k _ he : Rd w g.S (.sl t) m l [g.hv k] (g.bl k))
 simp only [List.cons.injEq, and_true] at hy'
 subst hy'
 obtain ⟨bs, hsub, hs'⟩ := hs.win hm hy
 have hst : Step w g σ.mem w { g with bl := B2 g.bl k [] } (σ.setM k ⟨.d, v0 + 1, v1⟩).mem :=
  Step.bump he (by simp) (Nat.le_refl _) (fun _ h => h) (fun _ _ h => h) (fun _ _ => rfl)
 have hr : Rd w g.S (.sl t) m (Rf.win wi l) [y] bs := ⟨y, rfl, hs'⟩
 refine ⟨bs, fun b hb => hsub.subset hb, h.setKey hst rfl (fun _ _ => rfl) (fun q hq => Au _ _ hq) (fun _ _ _ => rfl) (by simp [LfR, Ae]) (fun b hb => .inl hb) (fun b hb => (h.st b hb).2.2) ?_ ?_ ?_ ?_⟩
 ·simp only [Ae, List.nil_append, Hand.bs_cons]
  exact List.nodup_append.2 ⟨List.Nodup.sublist hsub (h.nd k), h.hnd, fun a ha b hb hab => by subst hab; exact h.hdj k a (hsub.subset ha) hb⟩
 ·intro b hb
  simp only [Ae, Hand.bs_cons, List.mem_append] at hb
  rcases hb with hb | hb | hb
  ·cases hb
  ·exact .inl (hsub.subset hb)
  ·exact .inr hb
 ·intro b hb
  simp only [Ae, Hand.bs_cons, List.mem_append]
  refine ⟨by simp, ?_⟩
  rintro (h1 | h1)
  ·exact (h.st b hb).1 k (hsub.subset h1)
  ·exact (h.st b hb).2.1 h1
 ·intro x hx
  rcases List.mem_cons.1 hx with rfl | hx
  ·exact hr
  ·exact h.hand x hx
theorem Rel.drop {w : World} {g : Gh} {σ : St} {ts : Array Value} {x : Leaf × Value × List Nat} {H : Hand} (h : Rel w g σ ts (x :: H)) : Rel w g σ ts H := by
 have hs : ∀ b, b ∈ Hand.bs H → b ∈ Hand.bs (x :: H) := fun b hb => by rw [Hand.bs_cons]; exact List.mem_append_right _ hb
 refine ⟨h.mem, h.cell, h.inj, h.pres, h.tmps, h.len, h.nd, h.dj, fun k b o ha => ⟨(h.box k b o ha).1, fun hb => (h.box k b o ha).2.1 (hs b hb), (h.box k b o ha).2.2⟩,
  fun b hb => ⟨(h.st b hb).1, fun hb' => (h.st b hb).2.1 (hs b hb'), (h.st b hb).2.2⟩, ?_, fun k b hb hb' => h.hdj k b hb (hs b hb'), fun y hy => h.hand y (List.mem_cons_of_mem _ hy)⟩
 have := h.hnd
 rw [Hand.bs_cons] at this
 exact (List.nodup_append.1 this).2.1
theorem Rel.root {w : World} {g : Gh} {σ : St} {ts : Array Value} {x : Leaf} {y : Value} {bs : List Nat} {H : Hand} {k : Nat} (h : Rel w g σ ts ((x, y, bs) :: H))
  (he : σ.mem k = none) : Rel w { g with hv := B2 g.hv k y, bl := B2 g.bl k bs } (σ.setM k ⟨x, 0, 0⟩) ts H := by
 have hxv := h.hand (x, y, bs) List.mem_cons_self
 have hst : Step w g σ.mem w { g with hv := B2 g.hv k y, bl := B2 g.bl k bs } (σ.setM k ⟨x, 0, 0⟩).mem :=
  Step.fresh he (fun _ h => h) (fun _ _ h => h) (fun q hq => Au _ _ hq)
 obtain ⟨ha, hb0⟩ := h.pres k he
 have hnd := h.hnd
 rw [Hand.bs_cons] at hnd
 have hbs : ∀ b, b ∈ bs → b ∈ Hand.bs ((x, y, bs) :: H) := fun b hb => by rw [Hand.bs_cons]; exact List.mem_append_left _ hb
 have hHs : ∀ b, b ∈ Hand.bs H → b ∈ Hand.bs ((x, y, bs) :: H) := fun b hb => by rw [Hand.bs_cons]; exact List.mem_append_right _ hb
 refine h.setKey hst rfl (fun q hq => Au _ _ hq) (fun q hq => Au _ _ hq) (fun b o h1 => by rw [ha] at h1; cases h1) ?_ (fun b hb => .inl hb) (fun b hb => (h.st b hb).2.2) ?_ ?_ ?_ ?_
 ·simp only [Ae]
  cases x with
  | v z => exact hxv
  | s m t l => exact hxv
  | _ => exact hxv.elim
 ·simp only [Ae]; exact hnd
 ·intro b hb
  simp only [Ae] at hb
  exact .inr (hb.elim (hbs b) (hHs b))
 ·intro b hb
  simp only [Ae]
  exact ⟨fun h1 => (h.st b hb).2.1 (hbs b h1), fun h1 => (h.st b hb).2.1 (hHs b h1)⟩
 ·exact fun z hz => h.hand z (List.mem_cons_of_mem _ hz)
theorem Rel.rootAlias {w : World} {g : Gh} {σ : St} {m : Mode} {t : Ty} {l : List (den t)} {y : Value} {bs : List Nat} {k : Nat} (hy : ∃ ad n c, y = .slice ad n c) :
  LfR w { g with hv := B2 g.hv k y, bl := B2 g.bl k bs } (σ.setM k ⟨.s m t l, 0, 0⟩).mem (.a (.cell k) 0 0 none) y [] := by
 refine ⟨rfl, hy, ⟨.s m t l, 0, 0⟩, by simp [Kj, St.mem_setM], Nat.le_refl _, Nat.le_refl _, fun _ => ⟨trivial, t, l.length, y, ?_, ?_, rfl⟩⟩
 ·simp [leafAt, St.mem_setM, lstOf]
 ·simp [hdrAt, Ae]
theorem Rel.setT {w : World} {g : Gh} {σ : St} {ts : Array Value} {H : Hand} (h : Rel w g σ ts H) {t : Nat} {x : A} {y : Value} (hx : AR w g σ.mem x y) :
  Rel w g (σ.setT t x) (ts.setIfInBounds t y) H := by
 refine ⟨h.mem, h.cell, h.inj, h.pres, ?_, by simp [St.setT, Ra, h.len], h.nd, h.dj, h.box, h.st, h.hnd, h.hdj, h.hand⟩
 intro q
 have hm : (σ.setT t x).mem = σ.mem := rfl
 rw [hm]
 simp only [St.tmp, St.setT, Ji]
 by_cases hq : q = t ∧ t < σ.ts.length
 ·rw [if_pos hq]
  obtain ⟨rfl, hlt⟩ := hq
  have : (ts.setIfInBounds q y).getD q undef = y := by
   rw [h.len] at hlt
   simp [Array.getD, hlt]
  rw [this]; exact hx
 ·rw [if_neg hq]
  have : (ts.setIfInBounds t y).getD q undef = ts.getD q undef := by
   by_cases hqt : q = t
   ·subst hqt
    have hge : ¬ q < ts.size := fun h' => hq ⟨rfl, by rw [h.len]; exact h'⟩
    simp [Array.getD, hge]
   ·simp only [Array.getD_eq_getD_getElem?]
    rw [Array.getElem?_setIfInBounds_ne (Ne.symm hqt)]
  rw [this]; exact h.tmps q
end Go.Rf
end

section
set_option linter.unusedVariables false
namespace Go.Rf
theorem run_bind {tab : Tab} {α β γ : Type} (q : α → Pg β) (k : β → St → Option γ) : ∀ (p : Pg α) (σ : St),
  (p.bind q).run tab σ k = p.run tab σ fun a σ' => (q a).run tab σ' k := by
 intro p
 induction p with
 | ret a => intro σ; rfl
 | fail => intro σ; rfl
 | getT t p ih => intro σ; simp only [Pg.bind, Pg.run, ih]
 | setT t x p ih => intro σ; simp only [Pg.bind, Pg.run, ih]
 | getM κ p ih => intro σ; simp only [Pg.bind, Pg.run, ih]
 | setM κ e p ih => intro σ; simp only [Pg.bind, Pg.run, ih]
 | br b p q ihp ihq => intro σ; simp only [Pg.bind, Pg.run, ihp, ihq]
 | brT t p q u ihp ihq ihu => intro σ; simp only [Pg.bind, Pg.run, ihp, ihq, ihu]
 | call f as p ih => intro σ; simp only [Pg.bind, Pg.run, ih]
section
variable {tab : Tab} {γ : Type} {σ : St} {r : γ}
theorem A5 {k : Nat} {K : Ent → St → Option γ} (h : (Db k).run tab σ K = some r) : ∃ e, σ.mem k = some e ∧ K e σ = some r := by
 simp only [Db, Pg.run] at h
 cases hm : σ.mem k with
 | none => rw [hm] at h; simp [Pg.run] at h
 | some e => rw [hm] at h; exact ⟨e, rfl, h⟩
theorem Ar {b : Bool} {K : Unit → St → Option γ} (h : (Dz b).run tab σ K = some r) : b = true ∧ K () σ = some r := by
 cases b with
 | true => exact ⟨rfl, h⟩
 | false => simp [Dz, Pg.run] at h
theorem Dk {b : Bool} {K : Unit → St → Option γ} (h : (Sk b).run tab σ K = some r) : b = true ∧ K () σ = some r := by
 cases b with
 | true => exact ⟨rfl, h⟩
 | false => simp [Sk, Pg.run] at h
theorem G0 {α : Type} {b : Bool} {p q : Pg α} {K : α → St → Option γ} (h : (Pg.br b p q).run tab σ K = some r) :
  (b = true ∧ p.run tab σ K = some r) ∨ (b = false ∧ q.run tab σ K = some r) := by
 cases b with
 | true => exact .inl ⟨rfl, h⟩
 | false => exact .inr ⟨rfl, h⟩
end
def Own (g : Gh) (H : Hand) (b : Nat) : Prop := (∃ k, b ∈ g.bl k) ∨ b ∈ H.bs
structure Io (w w' : World) : Prop where
 os : w'.os = w.os
 tape : w'.tape = w.tape
 output : w'.output = w.output
theorem Io.refl (w : World) : Io w w := ⟨rfl, rfl, rfl⟩
theorem Io.trans {a b c : World} (h : Io a b) (h' : Io b c) : Io a c := ⟨h'.os.trans h.os, h'.tape.trans h.tape, h'.output.trans h.output⟩
structure Mv (w : World) (g : Gh) (σ : St) (H : Hand) (w' : World) (g' : Gh) (σ' : St) (H' : Hand) : Prop where
 st : Step w g σ.mem w' g' σ'.mem
 own : ∀ b, Own g' H' b → Own g H b ∨ w.heap.size ≤ b
 S : ∀ b, g'.S b → g.S b ∨ Own g H b ∨ w.heap.size ≤ b
 ad : ∀ k a, g'.ad k = some a → g.ad k = some a ∨ w.heap.size ≤ a.1
 sz : w.heap.size ≤ w'.heap.size
 io : Io w w'
theorem Step.trans {w1 w2 w3 : World} {g1 g2 g3 : Gh} {m1 m2 m3 : Mem} (h : Step w1 g1 m1 w2 g2 m2) (h' : Step w2 g2 m2 w3 g3 m3) : Step w1 g1 m1 w3 g3 m3 := by
 refine ⟨fun b hb => h'.S b (h.S b hb), fun k a ha => h'.ad k a (h.ad k a ha), fun k e he => ?_⟩
 obtain ⟨e2, he2, a0, a1, ha⟩ := h.key k e he
 obtain ⟨e3, he3, b0, b1, hb⟩ := h'.key k e2 he2
 refine ⟨e3, he3, Nat.le_trans a0 b0, Nat.le_trans a1 b1, fun hv z0 hz0 => ?_⟩
 have hv1 : e.v0 = e2.v0 := by omega
 have hv2 : e2.v0 = e3.v0 := by omega
 obtain ⟨x1, x2, x3⟩ := ha hv1 _ hz0
 obtain ⟨y1, y2, y3⟩ := hb hv2 _ x2
 refine ⟨y1.trans x1, y2, fun hw i c z hz hr => ?_⟩
 obtain ⟨u1, u2⟩ := x3 (by omega) i c z hz hr
 obtain ⟨t1, t2⟩ := y3 (by omega) i c z u1 (h.inR he he2 hv1 hr)
 exact ⟨t1, t2.trans u2⟩
theorem Mv.refl (w : World) (g : Gh) (σ : St) (H : Hand) : Mv w g σ H w g σ H :=
 ⟨Step.refl _ _ _, fun _ h => .inl h, fun _ h => .inl h, fun _ _ h => .inl h, Nat.le_refl _, Io.refl _⟩
theorem Mv.trans {w1 w2 w3 : World} {g1 g2 g3 : Gh} {s1 s2 s3 : St} {H1 H2 H3 : Hand} (h : Mv w1 g1 s1 H1 w2 g2 s2 H2) (h' : Mv w2 g2 s2 H2 w3 g3 s3 H3) :
  Mv w1 g1 s1 H1 w3 g3 s3 H3 := by
 have hs := h.sz
 refine ⟨h.st.trans h'.st, fun b hb => ?_, fun b hb => ?_, fun k a ha => ?_, Nat.le_trans h.sz h'.sz, h.io.trans h'.io⟩
 ·rcases h'.own b hb with h1 | h1
  ·exact h.own b h1
  ·exact .inr (by omega)
 ·rcases h'.S b hb with h1 | h1 | h1
  ·exact h.S b h1
  ·rcases h.own b h1 with h2 | h2
   ·exact .inr (.inl h2)
   ·exact .inr (.inr h2)
  ·exact .inr (.inr (by omega))
 ·rcases h'.ad k a ha with h1 | h1
  ·exact h.ad k a h1
  ·exact .inr (by omega)
theorem Rel.take2 {w : World} {g : Gh} {σ : St} {ts : Array Value} {H : Hand} (h : Rel w g σ ts H) {k : Nat} {m : Mode} {t : Ty} {l : List (den t)} {v0 v1 : Nat}
  {wi : Option (Nat × Nat)} {y : Value} (he : σ.mem k = some ⟨.s m t l, v0, v1⟩) (hm : m ≠ .rox) (hy : Qj (wd t) l.length wi (g.hv k) y) :
  ∃ bs g', Rel w g' (σ.setM k ⟨.d, v0 + 1, v1⟩) ts ((.s m t (Rf.win wi l), y, bs) :: H) ∧ Mv w g σ H w g' (σ.setM k ⟨.d, v0 + 1, v1⟩) ((.s m t (Rf.win wi l), y, bs) :: H) := by
 obtain ⟨bs, hs, hr⟩ := h.take he hm hy
 refine ⟨bs, _, hr, Step.bump he (by simp) (Nat.le_refl _) (fun _ h => h) (fun _ _ h => h) (fun _ _ => rfl), ?_, fun b hb => .inl hb, fun _ _ h => .inl h, Nat.le_refl _, Io.refl _⟩
 intro b hb
 left
 rcases hb with ⟨q, hq⟩ | hb
 ·by_cases hqk : q = k
  ·subst hqk; simp [B2] at hq
  ·simp only [B2, hqk, if_false] at hq; exact .inl ⟨q, hq⟩
 ·rw [Hand.bs_cons] at hb
  rcases List.mem_append.1 hb with hb | hb
  ·exact .inl ⟨k, hs b hb⟩
  ·exact .inr hb
theorem Rel.rehand {w : World} {g : Gh} {σ : St} {ts : Array Value} {H H' : Hand} (h : Rel w g σ ts H) (F : Nat → Prop)
  (hF : ∀ b, F b → (∀ k, b ∉ g.bl k) ∧ ¬ g.S b ∧ (∀ k o, g.ad k ≠ some (b, o)))
  (hFlt : ∀ b, F b → b < w.heap.size)
  (hs : ∀ b ∈ H'.bs, b ∈ H.bs ∨ F b) (hnd : H'.bs.Nodup)
  (hand : ∀ x ∈ H', LfV w (fun b => g.S b ∨ (b ∈ H.bs ∨ F b) ∧ b ∉ H'.bs) x.1 x.2.1 x.2.2) :
  Rel w { g with S := fun b => g.S b ∨ (b ∈ H.bs ∨ F b) ∧ b ∉ H'.bs } σ ts H' := by
 have hlt : ∀ b ∈ H.bs, b < w.heap.size := by
  intro b hb
  obtain ⟨x, hx, hb⟩ := List.mem_flatMap.1 hb
  exact (h.hand x hx).lt b hb
 have hst : Step w g σ.mem w { g with S := fun b => g.S b ∨ (b ∈ H.bs ∨ F b) ∧ b ∉ H'.bs } σ.mem := Step.world h (fun _ _ => rfl) (fun b hb => .inl hb) (fun _ _ h => h) rfl
 refine ⟨fun k e he => (h.mem k e he).step hst fun _ _ => rfl, h.cell, h.inj, h.pres, fun t => (h.tmps t).step hst fun _ _ => rfl, h.len, h.nd, h.dj, ?_, ?_, hnd, ?_, hand⟩
 ·intro k b o ha
  obtain ⟨h1, h2, h3⟩ := h.box k b o ha
  refine ⟨h1, fun hb => (hs b hb).elim h2 fun hf => (hF b hf).2.2 k o ha, ?_⟩
  rintro (h4 | ⟨h4 | h4, _⟩)
  ·exact h3 h4
  ·exact h2 h4
  ·exact (hF b h4).2.2 k o ha
 ·rintro b (hb | ⟨hb, hb'⟩)
  ·refine ⟨(h.st b hb).1, fun h4 => (hs b h4).elim (h.st b hb).2.1 fun hf => (hF b hf).2.1 hb, (h.st b hb).2.2⟩
  ·rcases hb with hb | hb
   ·exact ⟨fun k hk => h.hdj k b hk hb, hb', hlt b hb⟩
   ·exact ⟨(hF b hb).1, hb', hFlt b hb⟩
 ·intro k b hb hb'
  exact (hs b hb').elim (h.hdj k b hb) fun hf => (hF b hf).1 k hb
theorem Mv.rehand {w : World} {g : Gh} {σ : St} {ts : Array Value} {H H' : Hand} (h : Rel w g σ ts H) (F : Nat → Prop) {w0 : World} {g0 : Gh} {s0 : St} {H0 : Hand}
  (hF : ∀ b, F b → w0.heap.size ≤ b) (hs : ∀ b ∈ H'.bs, b ∈ H.bs ∨ F b) (hm : Mv w0 g0 s0 H0 w g σ H) :
  Mv w0 g0 s0 H0 w { g with S := fun b => g.S b ∨ (b ∈ H.bs ∨ F b) ∧ b ∉ H'.bs } σ H' := by
 have hst : Step w g σ.mem w { g with S := fun b => g.S b ∨ (b ∈ H.bs ∨ F b) ∧ b ∉ H'.bs } σ.mem := Step.world h (fun _ _ => rfl) (fun b hb => .inl hb) (fun _ _ h => h) rfl
 refine ⟨hm.st.trans hst, fun b hb => ?_, fun b hb => ?_, hm.ad, hm.sz, hm.io⟩
 ·rcases hb with ⟨k, hb⟩ | hb
  ·exact hm.own b (.inl ⟨k, hb⟩)
  ·rcases hs b hb with h1 | h1
   ·exact hm.own b (.inr h1)
   ·exact .inr (hF b h1)
 ·rcases hb with hb | ⟨hb | hb, _⟩
  ·exact hm.S b hb
  ·exact .inr (hm.own b (.inr hb))
  ·exact .inr (.inr (hF b hb))
theorem Rel.push {w : World} {g : Gh} {σ : St} {ts : Array Value} {H : Hand} (h : Rel w g σ ts H) {x : Leaf} {y : Value} (hx : LfV w g.S x y []) :
  Rel w g σ ts ((x, y, []) :: H) := by
 have hb : Hand.bs ((x, y, []) :: H) = H.bs := by rw [Hand.bs_cons]; rfl
 refine ⟨h.mem, h.cell, h.inj, h.pres, h.tmps, h.len, h.nd, h.dj, by rw [hb]; exact h.box, by rw [hb]; exact h.st, by rw [hb]; exact h.hnd, by rw [hb]; exact h.hdj, ?_⟩
 intro z hz
 rcases List.mem_cons.1 hz with rfl | hz
 ·exact hx
 ·exact h.hand z hz
theorem Mv.push (w : World) (g : Gh) (σ : St) (H : Hand) (x : Leaf) (y : Value) : Mv w g σ H w g σ ((x, y, []) :: H) :=
 ⟨Step.refl _ _ _, fun b hb => .inl (by unfold Own at *; rw [Hand.bs_cons] at hb; simpa using hb), fun _ h => .inl h, fun _ _ h => .inl h, Nat.le_refl _, Io.refl _⟩
theorem Rel.perm {w : World} {g : Gh} {σ : St} {ts : Array Value} {H H' : Hand} (h : Rel w g σ ts H) (hp : H.Perm H') : Rel w g σ ts H' := by
 have hb : (Hand.bs H).Perm (Hand.bs H') := hp.flatMap_right _
 refine ⟨h.mem, h.cell, h.inj, h.pres, h.tmps, h.len, h.nd, h.dj, fun k b o ha => ⟨(h.box k b o ha).1, fun h1 => (h.box k b o ha).2.1 (hb.mem_iff.2 h1), (h.box k b o ha).2.2⟩,
  fun b hs => ⟨(h.st b hs).1, fun h1 => (h.st b hs).2.1 (hb.mem_iff.2 h1), (h.st b hs).2.2⟩, hb.nodup_iff.1 h.hnd, fun k b h1 h2 => h.hdj k b h1 (hb.mem_iff.2 h2),
  fun x hx => h.hand x (hp.mem_iff.2 hx)⟩
theorem Mv.perm {w w' : World} {g g' : Gh} {σ σ' : St} {H H1 H2 : Hand} (h : Mv w g σ H w' g' σ' H1) (hp : H1.Perm H2) : Mv w g σ H w' g' σ' H2 := by
 have hb : (Hand.bs H1).Perm (Hand.bs H2) := hp.flatMap_right _
 exact ⟨h.st, fun b hb' => h.own b (hb'.imp id fun h => hb.mem_iff.2 h), h.S, h.ad, h.sz, h.io⟩
section
variable {tab : Tab} {γ : Type} {σ : St} {r : γ} {w : World} {g : Gh} {ts : Array Value} {H : Hand}
theorem Hm {m : Mode} (h : m.isOwn = true) : m ≠ .rox := by rintro rfl; cases h
theorem Fi (h : Rel w g σ ts H) {k v0 v1 : Nat} {wi : Option (Nat × Nat)} {y : Value} (hy : AOk w g σ.mem (.cell k) v0 v1 wi y)
  {K : Leaf → St → Option γ} (hr : (Fc k v0 wi).run tab σ K = some r) :
  ∃ x bs g' σ', K x σ' = some r ∧ Rel w g' σ' ts ((x, y, bs) :: H) ∧ Mv w g σ H w g' σ' ((x, y, bs) :: H) ∧ ∃ m t l, x = .s m t l := by
 simp only [Fc, run_bind] at hr
 obtain ⟨e, he, hr⟩ := A5 hr
 obtain ⟨hv, hr⟩ := Ar hr
 obtain ⟨_, e2, he2, h0, h1, hc⟩ := hy
 simp only [Kj] at he2
 rw [he] at he2; cases he2
 obtain ⟨_, t', q, hh, r1, r2, r3⟩ := hc hv
 obtain ⟨ec, ev0, ev1⟩ := e
 cases ec with
 | s m t l =>
  simp only [leafAt, he, Option.map_some, Option.bind_some, lstOf, Option.some.injEq, Prod.mk.injEq] at r1
  obtain ⟨rfl, rfl⟩ := r1
  simp only [hdrAt, Option.some.injEq] at r2
  subst r2
  simp only at hr
  cases hm : m.isOwn with
  | true =>
   rw [hm] at hr
   simp only [cond_true, Pg.run] at hr
   obtain ⟨bs, g', h1, h2⟩ := h.take2 he (Hm hm) r3
   exact ⟨_, bs, g', _, hr, h1, h2, _, _, _, rfl⟩
  | false =>
   rw [hm] at hr
   simp only [cond_false, Pg.run] at hr
   have hmem : Rd w g.S (.sl t) m l [g.hv k] (g.bl k) := h.mem k _ he
   obtain ⟨y', hy', hs⟩ := (hmem.toRo : Rd w _ (.sl t) .ro l [g.hv k] [])
   simp only [List.cons.injEq, and_true] at hy'
   subst hy'
   obtain ⟨bs, hsub, hs'⟩ := hs.win (by simp) r3
   have hb : bs = [] := by simpa using hsub
   subst hb
   have hbl : g.bl k = [] := by
    obtain ⟨_, _, ad, c, _, _, _, hr0⟩ := hmem
    rcases hr0 with ⟨_, _, _, h4⟩ | ⟨_, _, _, _, _, _, hro, _⟩
    ·exact h4
    ·exact (hro hm).1
   refine ⟨_, [], g, σ, hr, h.push ?_, Mv.push _ _ _ _ _ _, _, _, _, rfl⟩
   refine Rd.imp (t := .sl t) (w := w) (S := fun b => g.S b ∨ b ∈ g.bl k) (fun b hb => ?_) ⟨_, rfl, hs'⟩ fun _ _ => rfl
   rcases hb with hb | hb
   ·exact hb
   ·rw [hbl] at hb; cases hb
 | _ => simp [Pg.run] at hr
theorem Qv {m m' : Mode} : ∀ {t : Ty} {x : den t} {i : Nat}, ((enc m t x)[i]?).bind lstOf = ((enc m' t x)[i]?).bind lstOf := by
 intro t
 induction t with
 | pair a b iha ihb =>
  intro x i
  simp only [enc]
  by_cases hi : i < wd a
  ·rw [List.getElem?_append_left (by rw [Ba]; exact hi), List.getElem?_append_left (by rw [Ba]; exact hi)]; exact iha
  ·rw [List.getElem?_append_right (by rw [Ba]; omega), List.getElem?_append_right (by rw [Ba]; omega), Ba, Ba]; exact ihb
 | sl e ih => intro x i; cases i <;> rfl
 | _ => intro x i; cases i <;> rfl
theorem Rel.freezeKey (h : Rel w g σ ts H) {k : Nat} {m : Mode} {t : Ty} {l : List (den t)} {v0 v1 : Nat} (he : σ.mem k = some ⟨.s m t l, v0, v1⟩) :
  ∃ g', Rel w g' (σ.setM k ⟨.s .ro t l, v0, v1⟩) ts H ∧ Mv w g σ H w g' (σ.setM k ⟨.s .ro t l, v0, v1⟩) H ∧ (∀ b ∈ g.bl k, g'.S b) ∧ (∀ q b, b ∈ g.bl q → b ∈ g'.bl q ∨ g'.S b) ∧ g'.hv = g.hv ∧ g'.ad = g.ad ∧ ∀ q, q ≠ k → g'.bl q = g.bl q := by
 have hrd : Rd w g.S (.sl t) m l [g.hv k] (g.bl k) := h.mem k _ he
 have hst : Step w g σ.mem w { g with bl := B2 g.bl k [], S := fun b => g.S b ∨ b ∈ g.bl k } (σ.setM k ⟨.s .ro t l, v0, v1⟩).mem := by
  refine ⟨fun b hb => .inl hb, fun _ _ h => h, fun q x hx => ?_⟩
  by_cases hq : q = k
  ·subst hq
   rw [he] at hx; cases hx
   refine ⟨⟨.s .ro t l, v0, v1⟩, by rw [St.mem_setM]; simp, Nat.le_refl _, Nat.le_refl _, fun _ z hz => ⟨rfl, hz, fun _ i c z' h1 h2 => ?_⟩⟩
   simp only [leafAt, he, hdrAt, St.mem_setM, if_true] at h1 ⊢
   refine ⟨?_, ?_⟩
   ·rw [Cc] at h1 ⊢
    rw [← h1]
    exact Qv
   ·cases g.hv q with
    | slice ad len cap => cases ad <;> rfl
    | _ => rfl
  ·refine ⟨x, by rw [St.mem_setM]; simp [hq, hx], Nat.le_refl _, Nat.le_refl _, fun _ z hz => ⟨rfl, hz, fun _ i c z' h1 h2 => ?_⟩⟩
   simp only [leafAt, hdrAt, St.mem_setM, hq, if_false] at h1 ⊢
   exact ⟨h1, trivial⟩
 refine ⟨{ g with bl := B2 g.bl k [], S := fun b => g.S b ∨ b ∈ g.bl k }, ?_, ⟨hst, ?_, ?_, fun _ _ h => .inl h, Nat.le_refl _, Io.refl _⟩, fun b hb => .inr hb, fun q b hb => ?_, rfl, rfl, fun q hq => Au _ _ hq⟩
 ·refine h.setKey hst rfl (fun _ _ => rfl) (fun q hq => Au _ _ hq) (fun _ _ _ => rfl) ?_ (fun b hb => ?_) ?_ ?_ ?_ ?_ (fun x hx => (h.hand x hx).imp (fun b hb => .inl hb) fun _ _ => rfl)
  ·simp only [Ae]; exact hrd.toRo
  ·exact hb.elim .inl fun hb => .inr (.inl hb)
  ·rintro b (hb | hb)
   ·exact (h.st b hb).2.2
   ·exact La hrd b hb
  ·simp only [Ae, List.nil_append]; exact h.hnd
  ·intro b hb; simp only [Ae] at hb; exact hb.elim (fun h => by cases h) .inr
  ·rintro b (hb | hb)
   ·exact ⟨by simp [Ae], (h.st b hb).2.1⟩
   ·exact ⟨by simp [Ae], h.hdj k b hb⟩
 ·rintro b (⟨q, hb⟩ | hb)
  ·by_cases hq : q = k
   ·subst hq; simp [Ae] at hb
   ·simp only [Au _ _ hq] at hb; exact .inl (.inl ⟨q, hb⟩)
  ·exact .inl (.inr hb)
 ·rintro b (hb | hb)
  ·exact .inl hb
  ·exact .inr (.inl (.inl ⟨k, hb⟩))
 ·by_cases hq : q = k
  ·subst hq; exact .inr (.inr hb)
  ·exact .inl (by simp only [Au _ _ hq]; exact hb)
theorem Rel.shareKey (h : Rel w g σ ts H) {k : Nat} {m : Mode} {t : Ty} {l : List (den t)} {v0 v1 : Nat} (he : σ.mem k = some ⟨.s m t l, v0, v1⟩) (hm : m.isOwn = true) :
  ∃ g', Rel w g' (σ.setM k ⟨.s .sown t l, v0, v1⟩) ts H ∧ Mv w g σ H w g' (σ.setM k ⟨.s .sown t l, v0, v1⟩) H ∧ g'.hv = g.hv := by
 have hrd : Rd w g.S (.sl t) m l [g.hv k] (g.bl k) := h.mem k _ he
 obtain ⟨bs', hsub, hr⟩ := hrd.weaken (m := .sown) hm (by simp) (h.nd k)
 have hst : Step w g σ.mem w { g with bl := B2 g.bl k bs', S := fun b => g.S b ∨ b ∈ g.bl k ∧ b ∉ bs' } (σ.setM k ⟨.s .sown t l, v0, v1⟩).mem := by
  refine ⟨fun b hb => .inl hb, fun _ _ h => h, fun q x hx => ?_⟩
  by_cases hq : q = k
  ·subst hq
   rw [he] at hx; cases hx
   refine ⟨⟨.s .sown t l, v0, v1⟩, by rw [St.mem_setM]; simp, Nat.le_refl _, Nat.le_refl _, fun _ z hz => ⟨rfl, hz, fun _ i c z' h1 h2 => ?_⟩⟩
   simp only [leafAt, he, hdrAt, St.mem_setM, if_true] at h1 ⊢
   refine ⟨?_, ?_⟩
   ·rw [Cc] at h1 ⊢
    rw [← h1]
    exact Qv
   ·cases g.hv q with
    | slice ad len cap => cases ad <;> rfl
    | _ => rfl
  ·refine ⟨x, by rw [St.mem_setM]; simp [hq, hx], Nat.le_refl _, Nat.le_refl _, fun _ z hz => ⟨rfl, hz, fun _ i c z' h1 h2 => ?_⟩⟩
   simp only [leafAt, hdrAt, St.mem_setM, hq, if_false] at h1 ⊢
   exact ⟨h1, trivial⟩
 refine ⟨{ g with bl := B2 g.bl k bs', S := fun b => g.S b ∨ b ∈ g.bl k ∧ b ∉ bs' }, ?_, ⟨hst, ?_, ?_, fun _ _ h => .inl h, Nat.le_refl _, Io.refl _⟩, rfl⟩
 ·refine h.setKey hst rfl (fun _ _ => rfl) (fun q hq => Au _ _ hq) (fun _ _ _ => rfl) ?_ (fun b hb => ?_) ?_ ?_ ?_ ?_ (fun x hx => (h.hand x hx).imp (fun b hb => .inl hb) fun _ _ => rfl)
  ·simp only [Ae]; exact hr
  ·exact hb.elim .inl fun hb => .inr (.inl hb.1)
  ·rintro b (hb | hb)
   ·exact (h.st b hb).2.2
   ·exact La hrd b hb.1
  ·simp only [Ae]
   exact List.nodup_append.2 ⟨(h.nd k).sublist hsub, h.hnd, fun a ha b hb hab => h.hdj k a (hsub.subset ha) (hab ▸ hb)⟩
  ·intro b hb; simp only [Ae] at hb; exact hb.elim (fun h => .inl (hsub.subset h)) .inr
  ·rintro b (hb | hb)
   ·refine ⟨?_, (h.st b hb).2.1⟩
    simp only [Ae]
    exact fun hb' => (h.st b hb).1 k (hsub.subset hb')
   ·exact ⟨by simp only [Ae]; exact hb.2, h.hdj k b hb.1⟩
 ·rintro b (⟨q, hb⟩ | hb)
  ·by_cases hq : q = k
   ·subst hq; simp only [Ae] at hb; exact .inl (.inl ⟨_, hsub.subset hb⟩)
   ·simp only [Au _ _ hq] at hb; exact .inl (.inl ⟨q, hb⟩)
  ·exact .inl (.inr hb)
 ·rintro b (hb | hb)
  ·exact .inl hb
  ·exact .inr (.inl (.inl ⟨k, hb.1⟩))
theorem Hh (h : Rel w g σ ts H) {k i v0 v1 : Nat} {m : Mode} {t : Ty} {l : List (den t)} (he : σ.mem k = some ⟨.s m t l, v0, v1⟩) (hi : i < l.length) :
  ∃ b o cap vs bss, g.hv k = .slice (some ⟨b, o, none⟩) l.length cap ∧ Cs w g.S (enc m.nest t (nthD l i (Bl t))) vs bss ∧ vs.length = wd t ∧
   (∀ j, j < wd t → cellAt w b (o + i * wd t + j) = vs[j]?) ∧ (∀ q ∈ bss.flatten, q ∈ g.bl k) := by
 obtain ⟨y, hy, hs⟩ := (h.mem k _ he : Rd w g.S (.sl t) m l [g.hv k] (g.bl k))
 simp only [List.cons.injEq, and_true] at hy
 subst hy
 obtain ⟨ad, c, hy, hc, hx, hr⟩ := hs
 rcases hr with ⟨_, hl, _, _⟩ | ⟨b, o, bss, rfl, hlen, ho, hro, hh, hel⟩
 ·rw [hl] at hi; simp at hi
 have hib : i < bss.length := by omega
 obtain ⟨vs, hvs, hcell, hx'⟩ := hel i l[i] bss[i] (by simp) (List.getElem?_eq_getElem hi) (List.getElem?_eq_getElem hib)
 obtain ⟨bs2, hcs, hfl⟩ := hx'.cs
 have hn : nthD l i (Bl t) = l[i] := by rw [B8]; simp [List.getD, hi]
 refine ⟨b, o, c, vs, bs2, hy, by rw [hn]; exact hcs, hvs, hcell, fun q hq => ?_⟩
 have hq' : q ∈ bss.flatten := List.mem_flatten.2 ⟨_, List.getElem_mem hib, by rw [hfl]; exact hq⟩
 cases hm : m.isOwn with
 | true => rw [(ho hm).1]; exact List.mem_cons_of_mem _ hq'
 | false => rw [(hro hm).2.1] at hq'; cases hq'
theorem Xm8 {m : Mode} : ∀ {t : Ty} {x : den t} {c : Nat} {n : Mode} {u : Ty} {l' : List (den u)}, (enc m t x)[c]? = some (.s n u l') → n = m := by
 intro t
 induction t with
 | pair a b iha ihb =>
  intro x c n u l' h1
  simp only [enc] at h1
  by_cases hp : c < (enc m a x.1).length
  ·rw [List.getElem?_append_left hp] at h1; exact iha h1
  ·rw [List.getElem?_append_right (by omega)] at h1; exact ihb h1
 | sl e _ => intro x c n u l' h1; cases c with
  | zero => simp [enc] at h1; exact h1.1.symm
  | succ c => simp [enc] at h1
 | _ => intro x c n u l' h1; cases c with
  | zero => simp [enc] at h1
  | succ c => simp [enc] at h1
theorem Li (h : Rel w g σ ts H) {k e c v0 v1 : Nat} {wi : Option (Nat × Nat)} {y : Value} (hy : AOk w g σ.mem (.elem k e c) v0 v1 wi y)
  {K : Leaf → St → Option γ} (hr : (Me k e c v0 v1 wi).run tab σ K = some r) :
  ∃ x bs g' σ', K x σ' = some r ∧ Rel w g' σ' ts ((x, y, bs) :: H) ∧ Mv w g σ H w g' σ' ((x, y, bs) :: H) ∧ bs = [] := by
 simp only [Me, run_bind] at hr
 obtain ⟨x, hx, hr1⟩ := A5 hr
 obtain ⟨hv, hr2⟩ := Ar hr1
 clear hr hr1
 obtain ⟨_, x2, hx2, _, _, hch⟩ := hy
 simp only [Kj] at hx2
 rw [hx] at hx2; cases hx2
 obtain ⟨hin, t', q, hd, r1, r2, r3⟩ := hch hv
 obtain ⟨x0, t0, q0, hx0, hl0, hi0⟩ := hin
 rw [hx] at hx0; cases hx0
 obtain ⟨ec, ev0, ev1⟩ := x
 cases ec with
 | s m t l =>
  simp only [lstOf, Option.some.injEq, Prod.mk.injEq] at hl0
  obtain ⟨rfl, rfl⟩ := hl0
  simp only [run_bind] at hr2
  have key : ∃ g1 σ1, Rel w g1 σ1 ts H ∧ Mv w g σ H w g1 σ1 H ∧ g1.hv = g.hv ∧ (∃ m1, m1.nest = .ro ∧ σ1.mem k = some ⟨.s m1 t l, ev0, ev1⟩) ∧
    (match Dt (enc .ro t (nthD l e (Bl t))) c with
     | some (Leaf.s _ u l') => Pg.ret (Leaf.s .ro u (win wi l'))
     | _ => .fail).run tab σ1 K = some r := by
   cases hm : m.isOwn with
   | true =>
    rw [hm] at hr2
    simp only [cond_true, Pg.run] at hr2
    obtain ⟨g1, h1, m1, e1⟩ := h.shareKey hx hm
    exact ⟨g1, _, h1, m1, e1, ⟨.sown, rfl, by rw [St.mem_setM]; simp⟩, hr2⟩
   | false =>
    rw [hm] at hr2
    simp only [cond_false, Pg.run] at hr2
    exact ⟨g, σ, h, Mv.refl _ _ _ _, rfl, ⟨m, by cases m <;> simp_all [Mode.isOwn, Mode.nest], hx⟩, hr2⟩
  obtain ⟨g1, σ1, h1, m1, ehv, ⟨mm, hmm, hx1⟩, hr3⟩ := key
  clear hr2
  split at hr3
  ·rename_i n u l' hc
   have hr := hr3
   clear hr3
   simp only [Pg.run] at hr
   rw [Cc] at hc
   have hn := Xm8 hc
   subst hn
   obtain ⟨b, o, cap, vs, bss, a1, a2, a3, a4, a5⟩ := Hh h1 hx1 hi0
   rw [hmm] at a2
   obtain ⟨yv, qv, b1, b2, b3⟩ := Nm a2 hc
   have hcw : c < wd t := by rw [← Ba .ro t (nthD l e (Bl t))]; exact (List.getElem?_eq_some_iff.1 hc).1
   have hyd : yv = hd := by
    rw [ehv] at a1
    simp only [hdrAt, a1, hx] at r2
    have h5 := a4 c hcw
    rw [r2, b1] at h5
    exact (Option.some.inj h5).symm
   subst hyd
   have hlt : (some (t', q) : Option (Ty × Nat)) = some (u, l'.length) := by
    rw [← r1]
    simp only [leafAt, hx, Cc]
    rw [Qv (m' := .ro), hc]
    rfl
   simp only [Option.some.injEq, Prod.mk.injEq] at hlt
   obtain ⟨rfl, rfl⟩ := hlt
   obtain ⟨y', hy', hs⟩ := (Rd.toRo (t := .sl t') b3 : Rd w _ (.sl t') .ro l' [yv] [])
   simp only [List.cons.injEq, and_true] at hy'
   subst hy'
   obtain ⟨bs, hsub, hs'⟩ := hs.win (by simp) r3
   have hb : bs = [] := by simpa using hsub
   subst hb
   have hq0 : qv = [] := by
    obtain ⟨_, _, ad, c2, _, _, _, hr0⟩ := (b3 : Rd w g1.S (.sl t') .ro l' [yv] qv)
    rcases hr0 with ⟨_, _, _, h4⟩ | ⟨_, _, _, _, _, _, hro, _⟩
    ·exact h4
    ·exact (hro rfl).1
   refine ⟨_, [], g1, σ1, hr, h1.push ?_, m1.trans (Mv.push _ _ _ _ _ _), rfl⟩
   refine Rd.imp (t := .sl t') (w := w) (S := fun b => g1.S b ∨ b ∈ qv) (fun b hb => ?_) ⟨_, rfl, hs'⟩ fun _ _ => rfl
   rcases hb with hb | hb
   ·exact hb
   ·rw [hq0] at hb; cases hb
  ·simp [Pg.run] at hr3
 | _ => simp [Pg.run] at hr2
theorem B7 (h : Rel w g σ ts H) {x : Leaf} {y : Value} (hx : LfR w g σ.mem x y [])
  {K : Leaf → St → Option γ} (hr : (resolve x).run tab σ K = some r) :
  ∃ x' bs g' σ', K x' σ' = some r ∧ Rel w g' σ' ts ((x', y, bs) :: H) ∧ Mv w g σ H w g' σ' ((x', y, bs) :: H) := by
 cases x with
 | v z => exact ⟨.v z, [], g, σ, hr, h.push hx, Mv.push _ _ _ _ _ _⟩
 | s m t l => exact ⟨.s m t l, [], g, σ, hr, h.push hx, Mv.push _ _ _ _ _ _⟩
 | a p v0 v1 wi =>
  cases p with
  | cell k =>
   obtain ⟨x', bs, g', σ', h1, h2, h3, _⟩ := Fi h hx.2 hr
   exact ⟨x', bs, g', σ', h1, h2, h3⟩
  | elem k e c =>
   obtain ⟨x', bs, g', σ', h1, h2, h3, _⟩ := Li h hx.2 hr
   exact ⟨x', bs, g', σ', h1, h2, h3⟩
 | _ => simp [resolve, Pg.run] at hr
def hz : List Leaf → List Value → List (List Nat) → Hand
 | x :: xs, y :: ys, b :: bs => (x, y, b) :: hz xs ys bs
 | _, _, _ => []
theorem LsR.tail {mem : Mem} {x : Leaf} {xs : List Leaf} {y : Value} {ys : List Value} (h : LsR w g mem (x :: xs) (y :: ys)) : LfR w g mem x y [] ∧ LsR w g mem xs ys :=
 ⟨h.2 0 x y rfl rfl, by simpa using h.1, fun i a z h1 h2 => h.2 (i + 1) a z (by simpa using h1) (by simpa using h2)⟩
theorem Co : ∀ {xs : List Leaf} {ys : List Value} {g : Gh} {σ : St} {H : Hand} (h : Rel w g σ ts H) (hx : LsR w g σ.mem xs ys)
  {K : List Leaf → St → Option γ} (hr : (Pg.mapL resolve xs).run tab σ K = some r),
  ∃ xs' bss g' σ', K xs' σ' = some r ∧ xs'.length = xs.length ∧ bss.length = xs.length ∧ Rel w g' σ' ts (hz xs' ys bss ++ H) ∧ Mv w g σ H w g' σ' (hz xs' ys bss ++ H)
 | [], ys, g, σ, H, h, hx, K, hr => ⟨[], [], g, σ, hr, rfl, rfl, h, Mv.refl _ _ _ _⟩
 | x :: xs, ys, g, σ, H, h, hx, K, hr => by
  match ys, hx with
  | [], hx => have := hx.1; simp at this
  | y :: ys, hx =>
   simp only [Pg.mapL, run_bind] at hr
   obtain ⟨hx1, hx2⟩ := hx.tail
   obtain ⟨x', b, g1, σ1, hr, h1, m1⟩ := B7 h hx1 hr
   obtain ⟨xs', bss, g2, σ2, hr, l1, l2, h2, m2⟩ := Co h1 (hx2.step m1.st fun _ _ => rfl) hr
   have hp : (hz xs' ys bss ++ ((x', y, b) :: H)).Perm (hz (x' :: xs') (y :: ys) (b :: bss) ++ H) := by
    simp only [hz, List.cons_append]
    exact List.perm_middle
   exact ⟨x' :: xs', b :: bss, g2, σ2, hr, by simp [l1], by simp [l2], h2.perm hp, (m1.trans m2).perm hp⟩
theorem To {S : Nat → Prop} : ∀ {xs : List Leaf} {ys : List Value} {bss : List (List Nat)}, xs.length = ys.length → bss.length = ys.length →
  (∀ z ∈ hz xs ys bss, LfV w S z.1 z.2.1 z.2.2) → Cs w S xs ys bss
 | [], [], [], _, _, _ => trivial
 | x :: xs, y :: ys, b :: bss, h1, h2, h => ⟨h (x, y, b) (by simp [hz]), To (by simpa using h1) (by simpa using h2) fun z hz' => h z (by simp [hz, hz'])⟩
 | [], _ :: _, _, h, _, _ => by simp at h
 | _ :: _, [], _, h, _, _ => by simp at h
 | _ :: _, _ :: _, [], _, h, _ => by simp at h
 | [], [], _ :: _, _, h, _ => by simp at h
theorem Sy : ∀ {xs : List Leaf} {ys : List Value} {bss : List (List Nat)}, xs.length = ys.length → bss.length = ys.length → Hand.bs (hz xs ys bss) = bss.flatten
 | [], [], [], _, _ => rfl
 | x :: xs, y :: ys, b :: bss, h1, h2 => by simp only [hz, Hand.bs_cons, List.flatten_cons]; rw [Sy (by simpa using h1) (by simpa using h2)]
 | [], _ :: _, _, h, _ => by simp at h
 | _ :: _, [], _, h, _ => by simp at h
 | _ :: _, _ :: _, [], _, h => by simp at h
 | [], [], _ :: _, _, h => by simp at h
end
end Go.Rf
end

section
set_option linter.unusedVariables false
namespace Go.Rf
theorem Cw {w : World} {S : Nat → Prop} {t : Ty} {m : Mode} {l : List (den t)} {vs : List Value} {bs : List Nat} (h : Rd w S (.sl t) m l vs bs)
  (hm : m.isOwn = false) : bs = [] := by
 obtain ⟨_, _, ad, c, _, _, _, hr⟩ := h
 rcases hr with ⟨_, _, _, h4⟩ | ⟨_, _, _, _, _, _, hro, _⟩
 ·exact h4
 ·exact (hro hm).1
theorem Bz {w : World} {S : Nat → Prop} {t : Ty} {m : Mode} {l : List (den t)} {y : Value} {bs : List Nat} (h : Rd w S (.sl t) m l [y] bs) :
  ∃ ad c, y = .slice ad l.length c := by
 obtain ⟨y', hy, ad, c, h1, _⟩ := h
 simp only [List.cons.injEq, and_true] at hy
 subst hy
 exact ⟨ad, c, h1⟩
section
variable {w : World} {g : Gh} {σ : St} {ts : Array Value} {H : Hand}
theorem Xb7 (h : Rel w g σ ts H) {k : Nat} {e : Ent} (he : σ.mem k = some e) : LfR w g σ.mem (Qz (.cell k) e) (g.hv k) [] := by
 obtain ⟨c, v0, v1⟩ := e
 have hm := h.mem k _ he
 cases c with
 | v x => exact ⟨hm.1, rfl⟩
 | s m t l =>
  have hr : Rd w g.S (.sl t) m l [g.hv k] (g.bl k) := hm
  simp only [Qz]
  cases hmo : m.isOwn with
  | true =>
   simp only [cond_true]
   obtain ⟨ad, c, hy⟩ := Bz hr
   exact ⟨rfl, ⟨ad, _, c, hy⟩, _, he, Nat.le_refl _, Nat.le_refl _, fun _ => ⟨trivial, t, l.length, g.hv k, by simp [leafAt, he, lstOf], rfl, rfl⟩⟩
  | false =>
   simp only [cond_false]
   rw [Cw hr hmo] at hr
   exact hr
 | h m t l e => rfl
 | a p u0 u1 wi => exact ⟨rfl, hm.2⟩
 | ptr p n u => exact ⟨rfl, hm.2⟩
 | fn f cs => exact ⟨rfl, hm.2⟩
 | it f t l n => exact ⟨rfl, hm.2⟩
 | d => rfl
theorem Xh6 {tab : Tab} {γ : Type} {r : γ} (h : Rel w g σ ts H) : ∀ {n k : Nat} {K : List Leaf → St → Option γ}, (Xfa k n).run tab σ K = some r →
  ∃ ys, K ys σ = some r ∧ ys.length = n ∧ ∀ i x, ys[i]? = some x → LfR w g σ.mem x (g.hv (k + i)) [] := by
 intro n
 induction n with
 | zero => intro k K hr; exact ⟨[], hr, rfl, fun i x hx => by simp at hx⟩
 | succ n ih =>
  intro k K hr
  simp only [Xfa, run_bind] at hr
  obtain ⟨e, he, hr⟩ := A5 hr
  obtain ⟨ys, hr, hl, hy⟩ := ih hr
  refine ⟨_, hr, by simp [hl], fun i x hx => ?_⟩
  cases i with
  | zero => simp at hx; subst hx; exact Xb7 h he
  | succ i =>
   have := hy i x (by simpa using hx)
   rwa [show k + (i + 1) = k + 1 + i by omega]
theorem Ly (k e v0 v1 : Nat) : ∀ (c : Nat) (xs : List Leaf) (i : Nat), (Dl k e v0 v1 c xs)[i]? = (xs[i]?).map fun y => Qz (.elem k e (c + i)) ⟨y, v0, v1⟩
 | c, [], i => by simp [Dl]
 | c, y :: r, 0 => by simp [Dl]
 | c, y :: r, i + 1 => by
  simp only [Dl, List.getElem?_cons_succ, Ly k e v0 v1 (c + 1) r i]
  rw [show c + 1 + i = c + (i + 1) by omega]
theorem Gy (k e v0 v1 : Nat) : ∀ (c : Nat) (xs : List Leaf), (Dl k e v0 v1 c xs).length = xs.length
 | c, [] => rfl
 | c, y :: r => by simp [Dl, Gy k e v0 v1 (c + 1) r]
theorem Xc8 (h : Rel w g σ ts H) {k i c v0 v1 : Nat} {m : Mode} {t : Ty} {l : List (den t)} (he : σ.mem k = some ⟨.s m t l, v0, v1⟩) (hi : i < l.length)
  {x : Leaf} {y : Value} {q : List Nat} {b o cap : Nat} (hh : g.hv k = .slice (some ⟨b, o, none⟩) l.length cap)
  (hx : (enc m.nest t (nthD l i (Bl t)))[c]? = some x) (hy : cellAt w b (o + i * wd t + c) = some y) (hl : LfV w g.S x y q) :
  LfR w g σ.mem (Qz (.elem k i c) ⟨x, v0, v1⟩) y [] := by
 cases x with
 | v z => exact ⟨hl.1, rfl⟩
 | s n u l' =>
  have hr : Rd w g.S (.sl u) n l' [y] q := hl
  simp only [Qz]
  cases hmo : n.isOwn with
  | true =>
   simp only [cond_true]
   obtain ⟨ad, c', hy'⟩ := Bz hr
   refine ⟨rfl, ⟨ad, _, c', hy'⟩, _, he, Nat.le_refl _, Nat.le_refl _, fun _ => ⟨⟨_, t, l.length, he, rfl, hi⟩, u, l'.length, y, ?_, ?_, rfl⟩⟩
   ·simp [leafAt, he, Cc, hx, lstOf]
   ·simp [hdrAt, hh, he, hy]
  | false =>
   simp only [cond_false]
   rw [Cw hr hmo] at hr
   exact hr
 | _ => exact hl.elim
theorem Zc {tab : Tab} {γ : Type} {r : γ} (h : Rel w g σ ts H) {p : Loc} {n n0 v0 : Nat} {y : Value} (hp : POk g σ.mem p n0 v0 y) (hn : n ≤ n0)
  {K : List Leaf → St → Option γ} (hr : (V7 p v0 n).run tab σ K = some r) :
  ∃ ys vs b o, K ys σ = some r ∧ ys.length = n ∧ vs.length = n ∧ (0 < n → y = .pointer (some ⟨b, o, none⟩)) ∧ LsR w g σ.mem ys vs ∧ ∀ j v, vs[j]? = some v → cellAt w b (o + j) = some v := by
 cases p with
 | cell k =>
  obtain ⟨b, o, hy, had⟩ := hp
  obtain ⟨ys, hr, hl, hys⟩ := Xh6 h hr
  refine ⟨ys, (List.range n).map fun j => g.hv (k + j), b, o, hr, hl, by simp, fun _ => hy, ⟨by simp [hl], fun i x z hx hz => ?_⟩, fun j v hv => ?_⟩
  ·have := hys i x hx
   simp only [List.getElem?_map] at hz
   have hi : i < n := by rw [← hl]; exact (List.getElem?_eq_some_iff.1 hx).1
   rw [List.getElem?_range hi] at hz
   simp at hz
   subst hz
   exact this
  ·have hj : j < n := by have := (List.getElem?_eq_some_iff.1 hv).1; simpa using this
   rw [List.getElem?_map, List.getElem?_range hj] at hv
   simp at hv
   subst hv
   exact (h.cell _ _ _ (had j (by omega))).1
 | elem k i c =>
  simp only [V7, run_bind] at hr
  obtain ⟨e, he, hr⟩ := A5 hr
  obtain ⟨hv, hr⟩ := Ar hr
  obtain ⟨_, x, hx, h0, hc⟩ := hp
  rw [he] at hx; cases hx
  obtain ⟨t', q, a, len, cap, r1, r2, r3, r4, r5⟩ := hc (Nat.eq_of_beq_eq_true hv)
  obtain ⟨ec, ev0, ev1⟩ := e
  cases ec with
  | s m t l =>
   simp only [lstOf, Option.some.injEq, Prod.mk.injEq] at r1
   obtain ⟨rfl, rfl⟩ := r1
   simp only [Pg.run] at hr
   obtain ⟨b, o, cap', vs, bss, hh, hcs, hvl, hcell, _⟩ := Hh h he r2
   rw [hh] at r4
   simp only [Value.slice.injEq, Option.some.injEq, Addr.mk.injEq, and_true] at r4
   obtain ⟨⟨hb, ho⟩, _, _⟩ := r4
   obtain ⟨hle, _⟩ := Kz hcs
   have hel := Ba m.nest t (nthD l i (Bl t))
   refine ⟨_, (vs.drop c).take n, b, o + i * wd t + c, hr, ?_, ?_, fun _ => by rw [r5, ← hb, ← ho], ⟨?_, ?_⟩, ?_⟩
   ·rw [Gy]; simp [hel]; omega
   ·simp [hvl]; omega
   ·rw [Gy]; simp [hel, hvl]
   ·intro j x z hx hz
    rw [Ly] at hx
    have hjn : j < n := by have := (List.getElem?_eq_some_iff.1 hz).1; simp at this; omega
    rw [List.getElem?_take_of_lt hjn, List.getElem?_drop] at hx hz
    cases hxx : (enc m.nest t (nthD l i (Bl t)))[c + j]? with
    | none => rw [hxx] at hx; simp at hx
    | some x0 =>
     rw [hxx] at hx
     simp only [Option.map_some, Option.some.injEq] at hx
     subst hx
     obtain ⟨y0, q0, hy0, _, hlv⟩ := Nm hcs hxx
     rw [hz] at hy0; cases hy0
     have hlt : c + j < wd t := by rw [← hel]; exact (List.getElem?_eq_some_iff.1 hxx).1
     exact Xc8 h he r2 hh hxx (by rw [hcell _ hlt]; exact hz) hlv
   ·intro j v hv
    have hjn : j < n := by have := (List.getElem?_eq_some_iff.1 hv).1; simp at this; omega
    rw [List.getElem?_take_of_lt hjn, List.getElem?_drop] at hv
    have hlt : c + j < wd t := by rw [← hvl]; exact (List.getElem?_eq_some_iff.1 hv).1
    rw [← hv, ← hcell _ hlt]
    congr 1
    omega
  | _ => simp [Pg.run] at hr
theorem Mj {tab : Tab} {γ : Type} {r : γ} (h : Rel w g σ ts H) {x : Leaf} {y : Value} (hx : LfR w g σ.mem x y [])
  {K : Leaf → St → Option γ} (hr : (Hw x).run tab σ K = some r) :
  ∃ x', K x' σ = some r ∧ ((∃ z, x' = .v z ∧ y = z) ∨ ∃ m t l, x' = .s m t l ∧ Rd w (fun b => g.S b ∨ ∃ p v0 v1 wi, x = .a p v0 v1 wi ∧ b ∈ g.bl (Kj p)) (.sl t) m l [y] []) := by
 cases x with
 | v z => exact ⟨_, hr, .inl ⟨z, rfl, hx.1⟩⟩
 | s m t l => exact ⟨_, hr, .inr ⟨m, t, l, rfl, Rd.imp (t := .sl t) (fun b hb => .inl hb) hx fun _ _ => rfl⟩⟩
 | a p v0 v1 wi =>
  simp only [Hw, run_bind] at hr
  obtain ⟨_, _, e, he, h0, h1, hc⟩ := hx
  cases p with
  | cell k =>
   simp only [Hf] at hr
   obtain ⟨e', he', hr⟩ := A5 hr
   simp only [Kj] at he
   rw [he] at he'; cases he'
   obtain ⟨hv, hr⟩ := Ar hr
   obtain ⟨_, t', q, hh, r1, r2, r3⟩ := hc hv
   obtain ⟨ec, ev0, ev1⟩ := e
   cases ec with
   | s m t l =>
    simp only [leafAt, he, Option.map_some, Option.bind_some, lstOf, Option.some.injEq, Prod.mk.injEq] at r1
    obtain ⟨rfl, rfl⟩ := r1
    simp only [hdrAt, Option.some.injEq] at r2
    subst r2
    refine ⟨_, hr, .inr ⟨.ro, t, _, rfl, ?_⟩⟩
    have hmem : Rd w g.S (.sl t) m l [g.hv k] (g.bl k) := h.mem k _ he
    obtain ⟨y', hy', hs⟩ := hmem.toRo
    simp only [List.cons.injEq, and_true] at hy'
    subst hy'
    obtain ⟨bs, hsub, hs'⟩ := hs.win (by simp) r3
    have hb : bs = [] := by simpa using hsub
    subst hb
    exact Rd.imp (t := .sl t) (fun b hb => hb.imp id fun h => ⟨_, _, _, _, rfl, h⟩) ⟨_, rfl, hs'⟩ fun _ _ => rfl
   | v z => simp [leafAt, he, lstOf] at r1
   | h m t l e => simp [Pg.run] at hr
   | _ => simp [Pg.run] at hr
  | elem k i c =>
   simp only [Hf, run_bind] at hr
   obtain ⟨e', he', hr⟩ := A5 hr
   simp only [Kj] at he
   rw [he] at he'; cases he'
   obtain ⟨ec, ev0, ev1⟩ := e
   cases ec with
   | s m t l =>
    simp only at hr
    cases hn : Dt (enc m.nest t (nthD l i (Bl t))) c with
    | none => rw [hn] at hr; simp [Pg.run] at hr
    | some y0 =>
     rw [hn] at hr
     simp only [Pg.run] at hr
     obtain ⟨hv, hr⟩ := Ar hr
     obtain ⟨hin, t', q, hh, r1, r2, r3⟩ := hc hv
     obtain ⟨x', t2, q2, hx', hl2, hi⟩ := hin
     rw [he] at hx'; cases hx'
     simp only [lstOf, Option.some.injEq, Prod.mk.injEq] at hl2
     obtain ⟨rfl, rfl⟩ := hl2
     obtain ⟨b, o, cap', vs, bss, hhv, hcs, hvl, hcell, hbl⟩ := Hh h he hi
     have hx0 : (enc m.nest t (nthD l i (Bl t)))[c]? = some y0 := by rw [← Cc]; exact hn
     obtain ⟨y1, q1, hy1, hq1, hlv⟩ := Nm hcs hx0
     have hlt : c < wd t := by rw [← Ba m.nest t (nthD l i (Bl t))]; exact (List.getElem?_eq_some_iff.1 hx0).1
     simp only [leafAt, he, hn, Option.bind_some] at r1
     simp only [hdrAt, hhv, he, hcell c hlt, hy1, Option.some.injEq] at r2
     subst r2
     cases y0 with
     | s n u l' =>
      simp only [lstOf, Option.some.injEq, Prod.mk.injEq] at r1
      obtain ⟨rfl, rfl⟩ := r1
      refine ⟨_, hr, .inr ⟨.ro, u, _, rfl, ?_⟩⟩
      have hr2 : Rd w g.S (.sl u) n l' [y1] q1 := hlv
      obtain ⟨y', hy', hs⟩ := hr2.toRo
      simp only [List.cons.injEq, and_true] at hy'
      subst hy'
      obtain ⟨bs, hsub, hs'⟩ := hs.win (by simp) r3
      have hb : bs = [] := by simpa using hsub
      subst hb
      refine Rd.imp (t := .sl u) (fun b hb => hb.imp id fun h => ⟨_, _, _, _, rfl, hbl b ?_⟩) ⟨_, rfl, hs'⟩ fun _ _ => rfl
      exact List.mem_flatten.2 ⟨_, List.mem_of_getElem? hq1, h⟩
     | v z => simp [lstOf] at r1
     | _ => exact hlv.elim
   | _ => simp [Pg.run] at hr
 | _ => simp [Hw, Pg.run] at hr
theorem Ll {tab : Tab} {γ : Type} {r : γ} (h : Rel w g σ ts H) {x : Leaf} {y : Value} (hx : LfR w g σ.mem x y [])
  {K : Leaf → St → Option γ} (hr : (Hw x).run tab σ K = some r) :
  ∃ x', K x' σ = some r ∧ ((∃ z, x' = .v z ∧ y = z) ∨ ∃ m t l, x' = .s m t l ∧ Rd w (fun b => g.S b ∨ Own g [] b) (.sl t) m l [y] []) := by
 obtain ⟨x', h1, h2⟩ := Mj h hx hr
 refine ⟨x', h1, h2.imp id ?_⟩
 rintro ⟨m, t, l, rfl, hrd⟩
 refine ⟨m, t, l, rfl, Rd.imp (t := .sl t) (fun b hb => hb.imp id ?_) hrd fun _ _ => rfl⟩
 rintro ⟨p, v0, v1, wi, _, hb⟩
 exact .inl ⟨_, hb⟩
end
end Go.Rf
end

section
set_option linter.unusedVariables false
set_option linter.unusedSimpArgs false
namespace Go.Rf
def zv : Ty → List Value
 | .int k => [.int k 0]
 | .bool => [.bool false]
 | .str => [.string ⟨#[]⟩]
 | .sl _ => [.slice none 0 0]
 | .pair a b => zv a ++ zv b
def aggD : TypeDesc → Bool
 | .struct _ | .array _ _ => true
 | _ => false
structure TyOk (P : Program) (t : Nat) (i : TyI) : Prop where
 info : ∃ f, P.info? t = some f ∧ f.size = wd i.ty ∧ ∃ z, f.zero = some z ∧ z.cells.toList = zv i.ty
 agg : ∃ d, P.underlying t = some d ∧ aggD d = i.agg
 int : ∀ k, i.ty = .int k → i.agg = false → P.underlying t = some (.int k)
 bool : i.ty = .bool → i.agg = false → P.underlying t = some .bool
 str : i.ty = .str → i.agg = false → P.underlying t = some .string
 sl : ∀ e, i.ty = .sl e → i.agg = false → ∃ te f, P.underlying t = some (.slice te) ∧ P.info? te = some f ∧ f.size = wd e ∧ f.bytes = i.eb ∧ ∃ z, f.zero = some z ∧ z.cells.toList = zv e
 slI : ∀ k, i.ty = .sl (.int k) → i.agg = false → ∃ te, P.underlying t = some (.slice te) ∧ P.underlying te = some (.int k)
structure FldOk (P : Program) (s f : Nat) (o n : Nat) (g : Bool) : Prop where
 ok : ∃ fs fd i d, P.underlying s = some (.struct fs) ∧ fs[f]? = some fd ∧ fd.offset = o ∧ P.info? fd.type = some i ∧ i.size = n ∧ n ≠ 0 ∧ P.underlying fd.type = some d ∧ aggD d = g
def ObjLike (p : Nat → Prop) (o1 o2 : Option Obj) : Prop :=
 o1 = o2 ∨ ∃ c1 c2 te fz, o1 = some (.cells c1 te fz) ∧ o2 = some (.cells c2 te fz) ∧ c1.size = c2.size ∧ ∀ j, ¬ p j → c1[j]? = c2[j]?
def Frm (w : World) (g : Gh) (w' : World) : Prop :=
 ∀ b, b < w.heap.size → ¬ Own g [] b → ObjLike (fun o => ∃ k, g.ad k = some (b, o)) w.heap[b]? w'.heap[b]?
theorem Frm.refl (w : World) (g : Gh) : Frm w g w := fun b _ _ => .inl rfl
def Out (P : Program) (w : World) (g : Gh) (σ : St) (ts : Array Value) (x : A) (σ' : St) : Result Next → Prop
 | .ok (.value v) w' => ∃ g', Rel w' g' σ' ts [] ∧ AR w' g' σ'.mem x v ∧ Mv w g σ [] w' g' σ' [] ∧ Frm w g w'
 | .ok .skip w' => ∃ g', Rel w' g' σ' ts [] ∧ AR w' g' σ'.mem x undef ∧ Mv w g σ [] w' g' σ' [] ∧ Frm w g w'
 | .ok (.enter f args) w' => Calls P f args w' fun e w'' => ∃ v, e = .returned v ∧ ∃ g', Rel w'' g' σ' ts [] ∧ AR w'' g' σ'.mem x v ∧
   Mv w g σ [] w'' g' σ' [] ∧ Frm w g w''
 | _ => False
section
variable {P : Program} {w : World} {g : Gh} {σ : St} {ts : Array Value} {tab : Tab} {γ : Type} {r : γ}
theorem Out.same (h : Rel w g σ ts []) {x : A} {v : Value} (hx : AR w g σ.mem x v) : Out P w g σ ts x σ (.ok (.value v) w) :=
 ⟨g, h, hx, Mv.refl _ _ _ _, Frm.refl _ _⟩
theorem A9 {a : Act} {H : Hand} (h : Rel w g σ a.tmps H) {x : Operand} {K : A → St → Option γ} (hr : (Mi x).run tab σ K = some r) :
  ∃ v, K v σ = some r ∧ AR w g σ.mem v (a.eval x) := by
 cases x with
 | tmp t => exact ⟨_, hr, h.tmps t⟩
 | const v =>
  cases v with
  | agg cs =>
   refine ⟨_, hr, cs.toList, by simp [Act.eval], by simp, fun i x z hx hz => ?_⟩
   simp only [List.getElem?_map, hz, Option.map_some, Option.some.injEq] at hx
   subst hx
   exact ⟨rfl, rfl⟩
  | _ => exact ⟨_, hr, rfl, rfl⟩
 | global g => simp [Mi, Pg.run] at hr
 | func f => exact ⟨_, hr, rfl, [], by simp [Act.eval], rfl, fun i p n v0 z h1 h2 => by simp at h1⟩
theorem S7 {mem : Mem} {x : A} {y : Value} (hx : AR w g mem x y) {K : Leaf → St → Option γ} (hr : (Xd3 x).run tab σ K = some r) :
  ∃ z, x = .one z ∧ K z σ = some r ∧ LfR w g mem z y [] := by
 cases x with
 | one z => exact ⟨z, rfl, hr, hx⟩
 | _ => simp [Xd3, Pg.run] at hr
theorem Xgd {mem : Mem} {x : A} {y : Value} (hx : AR w g mem x y) {K : IntKind × Int → St → Option γ} (hr : (intOf x).run tab σ K = some r) :
  ∃ k n, y = .int k n ∧ K (k, n) σ = some r := by
 unfold intOf at hr
 split at hr
 ·rename_i k n; exact ⟨k, n, hx.1, hr⟩
 ·simp [Pg.run] at hr
theorem Fb {mem : Mem} {x : A} {y : Value} (hx : AR w g mem x y) {K : List Leaf → St → Option γ} (hr : (cellsOf x).run tab σ K = some r) :
  ∃ xs ys, K xs σ = some r ∧ LsR w g mem xs ys ∧ ((∃ z, x = .one z ∧ xs = [z] ∧ ys = [y] ∧ Eu z = true) ∨ (x = .agg xs ∧ y = .agg ys.toArray)) := by
 cases x with
 | one z =>
  simp only [cellsOf, run_bind] at hr
  obtain ⟨hok, hr⟩ := Ar hr
  refine ⟨[z], [y], hr, ⟨rfl, fun i a b h1 h2 => ?_⟩, .inl ⟨z, rfl, rfl, rfl, hok⟩⟩
  cases i with
  | zero => simp at h1 h2; subst h1; subst h2; exact hx
  | succ i => simp at h1
 | agg xs =>
  obtain ⟨ys, hy, hl⟩ := hx
  exact ⟨xs, ys, hr, hl, .inr ⟨rfl, hy⟩⟩
 | tup xs => simp [cellsOf, Pg.run] at hr
theorem AR.int (k : IntKind) (n : Int) {mem : Mem} : AR w g mem (.one (.v (.int k n))) (.int k n) := ⟨rfl, rfl⟩
theorem Aq {t : Nat} {d : TypeDesc} (h : P.underlying t = some d) : (underlying t).run P w = .ok d w := by
 simp [underlying, h]
theorem Xmu {op : BinOp} {k : IntKind} {x y : Int} {K : A → St → Option γ} (hr : (X2f op k x y).run tab σ K = some r) (t : Nat) :
  ∃ v, K (.one (.v v)) σ = some r ∧ (binOp op t (.int k x) (.int k y)).run P w = .ok v w := by
 cases op with
 | quo =>
  rcases G0 hr with ⟨_, hr⟩ | ⟨hb, hr⟩
  ·simp [Pg.run] at hr
  ·exact ⟨_, hr, by simp at hb; simp [binOp, Op.intDiv, hb]⟩
 | rem =>
  rcases G0 hr with ⟨_, hr⟩ | ⟨hb, hr⟩
  ·simp [Pg.run] at hr
  ·exact ⟨_, hr, by simp at hb; simp [binOp, Op.intDiv, hb]⟩
 | add => exact ⟨_, hr, by simp [binOp, Op.intArith]⟩
 | sub => exact ⟨_, hr, by simp [binOp, Op.intArith]⟩
 | mul => exact ⟨_, hr, by simp [binOp, Op.intArith]⟩
 | and => exact ⟨_, hr, by simp [binOp, Op.intBits, Ca]⟩
 | or => exact ⟨_, hr, by simp [binOp, Op.intBits, Ca]⟩
 | xor => exact ⟨_, hr, by simp [binOp, Op.intBits, Ca]⟩
 | andNot => exact ⟨_, hr, by simp [binOp, Op.intBits, Ca]⟩
 | eql => exact ⟨_, hr, by simp [binOp, Op.intCmp]⟩
 | neq => exact ⟨_, hr, by simp [binOp, Op.intCmp]⟩
 | lss => exact ⟨_, hr, by simp [binOp, Op.intCmp]⟩
 | leq => exact ⟨_, hr, by simp [binOp, Op.intCmp]⟩
 | gtr => exact ⟨_, hr, by simp [binOp, Op.intCmp]⟩
 | geq => exact ⟨_, hr, by simp [binOp, Op.intCmp]⟩
 | _ => simp [X2f, Pg.run] at hr
end
end Go.Rf
end

section
set_option linter.unusedVariables false
namespace Go.Rf
section
variable {w w' : World} {g g' : Gh} {σ : St} {ts : Array Value} {H H' : Hand}
theorem Rel.bllt (h : Rel w g σ ts H) : ∀ k b, b ∈ g.bl k → b < w.heap.size := by
 intro k b hb
 cases hm : σ.mem k with
 | none => rw [(h.pres k hm).2] at hb; cases hb
 | some e =>
  have := h.mem k e hm
  cases hc : e.c with
  | v x => rw [hc] at this; rw [this.2] at hb; cases hb
  | s m t l => rw [hc] at this; exact La (t := .sl t) this b hb
  | h m t l i =>
   rw [hc] at this
   obtain ⟨ad, c, hy, hcc, hx, hr⟩ := this
   rcases hr with ⟨_, _, _, h4⟩ | ⟨b', o, bss, had, hlen, ho, hro, hh, hel⟩
   ·rw [h4] at hb; cases hb
   cases hmo : m.isOwn with
   | false => rw [(hro hmo).1] at hb; cases hb
   | true =>
    obtain ⟨h1, h2⟩ := ho hmo
    rw [h1] at hb
    rcases List.mem_cons.1 hb with rfl | hq
    ·exact h2.lt
    ·obtain ⟨q, hq', hq2⟩ := List.mem_flatten.1 hq
     obtain ⟨j, hj, rfl⟩ := List.mem_iff_getElem.1 hq'
     have hjl : j < l.length := by rw [← hlen]; exact hj
     by_cases hji : i = j
     ·subst hji
      have := hh i rfl
      simp only [List.getD_eq_getElem?_getD, List.getElem?_eq_getElem hj, Option.getD_some] at this
      rw [this] at hq2; cases hq2
     ·obtain ⟨vs, _, _, hx'⟩ := hel j l[j] bss[j] (by simp [hji]) (List.getElem?_eq_getElem hjl) (List.getElem?_eq_getElem hj)
      exact La hx' b hq2
  | a p v0 v1 wi => rw [hc] at this; rw [this.1] at hb; cases hb
  | ptr p n v0 => rw [hc] at this; rw [this.1] at hb; cases hb
  | fn f cs => rw [hc] at this; rw [this.1] at hb; cases hb
  | it f t l n => rw [hc] at this; rw [this.1] at hb; cases hb
  | d => rw [hc] at this; rw [show g.bl k = [] from this] at hb; cases hb
theorem Rel.hdlt (h : Rel w g σ ts H) : ∀ b ∈ H.bs, b < w.heap.size := by
 intro b hb
 obtain ⟨x, hx, hb⟩ := List.mem_flatMap.1 hb
 exact (h.hand x hx).lt b hb
theorem Rel.adlt (h : Rel w g σ ts H) {k b o : Nat} (ha : g.ad k = some (b, o)) : b < w.heap.size := (h.cell k b o ha).2.lt
theorem Step.updW (h : Rel w g σ ts H) {k : Nat} {e e' : Ent} (he : σ.mem k = some e) (h0 : e.v0 ≤ e'.v0) (h1 : e.v1 ≤ e'.v1)
  (hk : e.v0 = e'.v0 → lstOf e.c = none) (hS : ∀ b, g.S b → g'.S b) (had : ∀ q a, g.ad q = some a → g'.ad q = some a)
  (hhv : ∀ q, q ≠ k → g'.hv q = g.hv q) (hw : ∀ b, (g.S b ∨ ∃ q, q ≠ k ∧ b ∈ g.bl q) → w'.heap[b]? = w.heap[b]?) :
  Step w g σ.mem w' g' (σ.setM k e').mem := by
 refine ⟨hS, had, fun q x hx => ?_⟩
 by_cases hq : q = k
 ·subst hq
  rw [he] at hx; cases hx
  exact ⟨e', by rw [St.mem_setM]; simp, h0, h1, fun hv z hz => by rw [hk hv] at hz; cases hz⟩
 ·refine ⟨x, by rw [St.mem_setM]; simp [hq, hx], Nat.le_refl _, Nat.le_refl _, fun _ z hz => ⟨hhv q hq, hz, fun _ i c z h2 h3 => ?_⟩⟩
  refine ⟨?_, ?_⟩
  ·simpa only [leafAt, St.mem_setM, hq, if_false] using h2
  obtain ⟨x', t, q', hx', hl, hi⟩ := h3
  rw [hx] at hx'; cases hx'
  obtain ⟨xc, xv0, xv1⟩ := x
  have hm := h.mem q _ hx
  cases xc with
  | s m t l =>
   obtain ⟨y, hy, hs⟩ := (hm : Rd w g.S (.sl t) m l [g.hv q] (g.bl q))
   simp only [List.cons.injEq, and_true] at hy
   subst hy
   simp only [lstOf, Option.some.injEq, Prod.mk.injEq] at hl
   obtain ⟨b, o, c', hy, _, hb⟩ := hs.hdr (i := i) (by omega)
   simp only [hdrAt, St.mem_setM, hq, if_false, hhv q hq, hy, hx]
   exact A2 (hw b (hb.imp id fun h => ⟨q, hq, h⟩))
  | h m t l e => simp [leafAt, hx] at h2
  | _ => simp [leafAt, hx] at h2
theorem Rel.setKeyW {k : Nat} {e' : Ent} (h : Rel w g σ ts H)
  (hst : Step w g σ.mem w' g' (σ.setM k e').mem) (had : g'.ad = g.ad) (hhv : ∀ q, q ≠ k → g'.hv q = g.hv q) (hbl : ∀ q, q ≠ k → g'.bl q = g.bl q)
  (hpres : σ.mem k ≠ none)
  (hcell : ∀ q b o, g.ad q = some (b, o) → cellAt w' b o = some (g'.hv q) ∧ BlkOk w' b (o + 1))
  (hk : LfR w' g' (σ.setM k e').mem e'.c (g'.hv k) (g'.bl k))
  (hw : ∀ b, (g.S b ∨ ∃ q, q ≠ k ∧ b ∈ g.bl q) → w'.heap[b]? = w.heap[b]?) (hsz : w.heap.size ≤ w'.heap.size)
  (hS : ∀ b, g'.S b → g.S b ∨ b ∈ g.bl k ∨ b ∈ H.bs ∨ w.heap.size ≤ b)
  (hSlt : ∀ b, g'.S b → b < w'.heap.size)
  (hnd : (g'.bl k ++ H'.bs).Nodup) (hsub : ∀ b, b ∈ g'.bl k ∨ b ∈ H'.bs → b ∈ g.bl k ∨ b ∈ H.bs ∨ w.heap.size ≤ b)
  (hSd : ∀ b, g'.S b → b ∉ g'.bl k ∧ b ∉ H'.bs)
  (hand : ∀ x ∈ H', LfV w' g'.S x.1 x.2.1 x.2.2) : Rel w' g' (σ.setM k e') ts H' := by
 obtain ⟨n1, n2, n3⟩ := List.nodup_append.1 hnd
 have hbd : ∀ q, q ≠ k → ∀ b ∈ g.bl q, b ∉ g.bl k ∧ b ∉ H.bs ∧ ¬ w.heap.size ≤ b :=
  fun q hq b hb => ⟨h.dj q k hq b hb, h.hdj q b hb, by have := h.bllt q b hb; omega⟩
 refine ⟨?_, ?_, by rw [had]; exact h.inj, ?_, fun t => (h.tmps t).step hst fun b hb => hw b (.inl hb), h.len, ?_, ?_, ?_, ?_, n2, ?_, hand⟩
 ·intro q e he
  rw [St.mem_setM] at he
  by_cases hq : q = k
  ·subst hq; simp at he; subst he; exact hk
  ·simp only [hq, if_false] at he
   rw [hhv q hq, hbl q hq]
   exact (h.mem q e he).step hst fun b hb => hw b (hb.imp id fun hb => ⟨q, hq, hb⟩)
 ·intro q b o ha
  rw [had] at ha
  exact hcell q b o ha
 ·intro q hq
  rw [St.mem_setM] at hq
  by_cases hqk : q = k
  ·subst hqk; simp at hq
  ·simp only [hqk, if_false] at hq
   rw [had, hbl q hqk]; exact h.pres q hq
 ·intro q
  by_cases hq : q = k
  ·subst hq; exact n1
  ·rw [hbl q hq]; exact h.nd q
 ·intro q q' hne b hb hb'
  by_cases hq : q = k
  ·subst hq
   rw [hbl q' (Ne.symm hne)] at hb'
   obtain ⟨h1, h2, h3⟩ := hbd q' (Ne.symm hne) b hb'
   rcases hsub b (.inl hb) with h4 | h4 | h4
   ·exact h1 h4
   ·exact h2 h4
   ·exact h3 h4
  ·by_cases hq' : q' = k
   ·subst hq'
    rw [hbl q hq] at hb
    obtain ⟨h1, h2, h3⟩ := hbd q hq b hb
    rcases hsub b (.inl hb') with h4 | h4 | h4
    ·exact h1 h4
    ·exact h2 h4
    ·exact h3 h4
   ·rw [hbl q hq] at hb; rw [hbl q' hq'] at hb'
    exact h.dj q q' hne b hb hb'
 ·intro q b o ha
  rw [had] at ha
  obtain ⟨h1, h2, h3⟩ := h.box q b o ha
  have h0 := h.adlt ha
  refine ⟨fun q' hb => ?_, fun hb => ?_, fun hs => ?_⟩
  ·by_cases hq' : q' = k
   ·subst hq'
    rcases hsub b (.inl hb) with h4 | h4 | h4
    ·exact h1 q' h4
    ·exact h2 h4
    ·omega
   ·rw [hbl q' hq'] at hb; exact h1 q' hb
  ·rcases hsub b (.inr hb) with h4 | h4 | h4
   ·exact h1 k h4
   ·exact h2 h4
   ·omega
  ·rcases hS b hs with h4 | h4 | h4 | h4
   ·exact h3 h4
   ·exact h1 k h4
   ·exact h2 h4
   ·omega
 ·intro b hs
  obtain ⟨d1, d2⟩ := hSd b hs
  refine ⟨fun q hb => ?_, d2, hSlt b hs⟩
  by_cases hq : q = k
  ·subst hq; exact d1 hb
  ·rw [hbl q hq] at hb
   obtain ⟨e1, e2, e3⟩ := hbd q hq b hb
   rcases hS b hs with h1 | h1 | h1 | h1
   ·exact (h.st b h1).1 q hb
   ·exact e1 h1
   ·exact e2 h1
   ·exact e3 h1
 ·intro q b hb hb'
  by_cases hq : q = k
  ·subst hq; exact n3 b hb b hb' rfl
  ·rw [hbl q hq] at hb
   obtain ⟨h1, h2, h3⟩ := hbd q hq b hb
   rcases hsub b (.inr hb') with h4 | h4 | h4
   ·exact h1 h4
   ·exact h2 h4
   ·exact h3 h4
theorem Ao {w : World} {b o : Nat} {y : Value} {q : Nat} (h : q ≠ b) : (w.setCell ⟨b, o, none⟩ y).heap[q]? = w.heap[q]? := by
 simp only [World.setCell]
 rw [Array.getElem?_modify]
 simp [Ne.symm h]
theorem C0 {w : World} {b o : Nat} {y : Value} {cs : Array Value} {te : TypeId} {fz : Nat × Nat} (h : w.heap[b]? = some (.cells cs te fz)) :
  (w.setCell ⟨b, o, none⟩ y).heap[b]? = some (.cells (cs.setIfInBounds o y) te fz) := by
 simp only [World.setCell]
 rw [Array.getElem?_modify]
 simp [h]
theorem Fr {w : World} {b o : Nat} {cs : Array Value} {te : TypeId} {fz : Nat × Nat} (h : w.heap[b]? = some (.cells cs te fz)) : cellAt w b o = cs[o]? := by
 simp [cellAt, World.cell?, h]
theorem B9 {w : World} {b o : Nat} {y : Value} {q n : Nat} (h : BlkOk w q n) : BlkOk (w.setCell ⟨b, o, none⟩ y) q n := by
 obtain ⟨cs, te, h1, h2⟩ := h
 by_cases hq : q = b
 ·subst hq; exact ⟨_, te, C0 h1, by simpa using h2⟩
 ·exact ⟨cs, te, (Ao hq).trans h1, h2⟩
theorem Bu (w : World) (a : Addr) (y : Value) : (w.setCell a y).heap.size = w.heap.size := by simp [World.setCell]
theorem C4 {w : World} {b o q p : Nat} {y : Value} {n : Nat} (h : BlkOk w b n) (ho : o < n) :
  cellAt (w.setCell ⟨b, o, none⟩ y) q p = if q = b ∧ p = o then some y else cellAt w q p := by
 obtain ⟨cs, te, h1, h2⟩ := h
 by_cases hq : q = b
 ·subst hq
  rw [Fr (C0 h1), Fr h1]
  by_cases hp : p = o
  ·subst hp
   have hlt : p < cs.size := by omega
   simp [hlt]
  ·simp [hp, Array.getElem?_setIfInBounds_ne (Ne.symm hp)]
 ·rw [A2 (Ao hq)]; simp [hq]
theorem Rel.storeCell (h : Rel w g σ ts H) {k b o : Nat} {e : Ent} {x : Leaf} {y : Value} (he : σ.mem k = some e) (ha : g.ad k = some (b, o)) (hx : LfR w g σ.mem x y []) :
  Rel (w.setCell ⟨b, o, none⟩ y) { g with hv := B2 g.hv k y, bl := B2 g.bl k [] } (σ.setM k ⟨x, e.v0 + bump e.c, e.v1⟩) ts H ∧
  Step w g σ.mem (w.setCell ⟨b, o, none⟩ y) { g with hv := B2 g.hv k y, bl := B2 g.bl k [] } (σ.setM k ⟨x, e.v0 + bump e.c, e.v1⟩).mem := by
 obtain ⟨hc1, hc2⟩ := h.cell k b o ha
 obtain ⟨hb1, hb2, hb3⟩ := h.box k b o ha
 have hw : ∀ q, (g.S q ∨ ∃ p, p ≠ k ∧ q ∈ g.bl p) → (w.setCell ⟨b, o, none⟩ y).heap[q]? = w.heap[q]? := by
  rintro q hq
  refine Ao ?_
  rintro rfl
  rcases hq with hq | ⟨p, _, hq⟩
  ·exact hb3 hq
  ·exact hb1 p hq
 have hst : Step w g σ.mem (w.setCell ⟨b, o, none⟩ y) { g with hv := B2 g.hv k y, bl := B2 g.bl k [] } (σ.setM k ⟨x, e.v0 + bump e.c, e.v1⟩).mem := by
  refine Step.updW h he (Nat.le_add_right _ _) (Nat.le_refl _) ?_ (fun _ h => h) (fun _ _ h => h) (fun q hq => Au _ _ hq) hw
  intro hv
  have hb : bump e.c = 0 := by simp at hv; exact hv
  cases hc : e.c <;> simp [hc, bump] at hb <;> rfl
 refine ⟨h.setKeyW hst rfl (fun q hq => Au _ _ hq) (fun q hq => Au _ _ hq) (by rw [he]; simp) ?_ ?_ hw (by rw [Bu]; exact Nat.le_refl _) (fun b hb => .inl hb) ?_ ?_ ?_ ?_ ?_, hst⟩
 ·intro q b' o' ha'
  obtain ⟨h1, h2⟩ := h.cell q b' o' ha'
  refine ⟨?_, B9 h2⟩
  rw [C4 hc2 (by omega)]
  by_cases hq : q = k
  ·subst hq
   rw [ha] at ha'; cases ha'
   simp [Ae]
  ·have : ¬ (b' = b ∧ o' = o) := by
    rintro ⟨rfl, rfl⟩
    exact hq (h.inj q k _ ha' ha)
   rw [if_neg this, h1]
   simp only [Au _ _ hq]
 ·simp only [Ae]
  refine hx.step hst fun q hq => ?_
  rcases hq with hq | hq
  ·exact hw q (.inl hq)
  ·cases hq
 ·intro q hq; rw [Bu]; exact (h.st q hq).2.2
 ·simp only [Ae, List.nil_append]; exact h.hnd
 ·intro q hq
  simp only [Ae] at hq
  rcases hq with hq | hq
  ·cases hq
  ·exact .inr (.inl hq)
 ·intro q hq
  simp only [Ae]
  exact ⟨by simp, (h.st q hq).2.1⟩
 ·intro z hz
  refine (h.hand z hz).imp (fun _ h => h) fun q hq => ?_
  rcases hq with hq | hq
  ·exact hw q (.inl hq)
  ·refine Ao ?_
   rintro rfl
   exact hb2 (List.mem_flatMap.2 ⟨z, hz, hq⟩)
end
end Go.Rf
end

section
set_option linter.unusedVariables false
namespace Go.Rf
theorem ObjLike.trans {p p' : Nat → Prop} {o1 o2 o3 : Option Obj} (h : ObjLike p o1 o2) (h' : ObjLike p' o2 o3) (hp : ∀ j, p' j → p j) : ObjLike p o1 o3 := by
 rcases h with rfl | ⟨c1, c2, te, fz, e1, e2, hs, hj⟩
 ·rcases h' with rfl | ⟨c1, c2, te, fz, e1, e2, hs, hj⟩
  ·exact .inl rfl
  ·exact .inr ⟨c1, c2, te, fz, e1, e2, hs, fun j h => hj j fun h' => h (hp j h')⟩
 ·rcases h' with rfl | ⟨c1', c2', te', fz', e1', e2', hs', hj'⟩
  ·exact .inr ⟨c1, c2, te, fz, e1, e2, hs, hj⟩
  ·rw [e2] at e1'
   simp only [Option.some.injEq, Obj.cells.injEq] at e1'
   obtain ⟨rfl, rfl, rfl⟩ := e1'
   exact .inr ⟨c1, c2', te, fz, e1, e2', hs.trans hs', fun j h => (hj j h).trans (hj' j fun h' => h (hp j h'))⟩
theorem Frm.trans {w w1 w2 : World} {g g1 : Gh} {σ σ1 : St} (h : Frm w g w1) (h' : Frm w1 g1 w2) (hm : Mv w g σ [] w1 g1 σ1 []) : Frm w g w2 := by
 intro b hb ho
 have hs := hm.sz
 refine (h b hb ho).trans (h' b (by omega) fun ho' => ?_) fun j hj => ?_
 ·rcases hm.own b ho' with h1 | h1
  ·exact ho h1
  ·omega
 ·obtain ⟨k, hk⟩ := hj
  rcases hm.ad k _ hk with h1 | h1
  ·exact ⟨k, h1⟩
  ·simp at h1; omega
section
variable {P : Program} {w w' : World} {g g' : Gh} {σ : St} {ts : Array Value} {tab : Tab} {γ : Type} {r : γ}
theorem Lw {b o : Nat} {y : Value} (h : BlkOk w b (o + 1)) (hy : y.oneCell' = true) :
  (store ⟨b, o, none⟩ y).run P w = .ok () (w.setCell ⟨b, o, none⟩ y) := by
 obtain ⟨cs, te, h1, h2⟩ := h
 rw [run_store P w _ y _ hy]
 have hc : w.cell? ⟨b, o, none⟩ = some cs[o] := by simp [World.cell?, h1]
 have hf : w.frozen? ⟨b, o, none⟩ = false := by simp [World.frozen?, h1]
 simp [hc, hf]
theorem G3 {mem : Mem} {x : Leaf} {y : Value} {bs : List Nat} (h : Eu x = true) (hx : LfR w g mem x y bs) : y.oneCell' = true := by
 cases x with
 | v z =>
  obtain ⟨rfl, _⟩ := hx
  cases y <;> simp_all [Eu, Value.oneCell']
 | s m t l => obtain ⟨ad, c, rfl⟩ := Bz (hx : Rd w g.S (.sl t) m l [y] bs); rfl
 | h m t l e => simp [Eu] at h
 | a p v0 v1 wi => obtain ⟨_, ⟨ad, n, c, rfl⟩, _⟩ := hx; rfl
 | ptr p n v0 =>
  obtain ⟨_, hp⟩ := hx
  cases p with
  | cell k => obtain ⟨b, o, rfl, _⟩ := hp; rfl
  | elem k e c => obtain ⟨⟨a, rfl⟩, _⟩ := hp; rfl
 | fn f cs => obtain ⟨_, ys, rfl, _⟩ := hx; rfl
 | it f t l n => simp [Eu] at h
 | d => simp [Eu] at h
theorem Rel.narrow (h : Rel w g σ ts []) {k b o : Nat} {m : Mode} {t : Ty} {l : List (den t)} {v0 v1 : Nat} {wi : Option (Nat × Nat)} {y : Value}
  (he : σ.mem k = some ⟨.s m t l, v0, v1⟩) (hm : m ≠ .rox) (ha : g.ad k = some (b, o)) (hy : Qj (wd t) l.length wi (g.hv k) y) :
  ∃ g', g'.ad = g.ad ∧ Rel (w.setCell ⟨b, o, none⟩ y) g' (σ.setM k ⟨.s m t (Rf.win wi l), v0 + 1, v1⟩) ts [] ∧
   Mv w g σ [] (w.setCell ⟨b, o, none⟩ y) g' (σ.setM k ⟨.s m t (Rf.win wi l), v0 + 1, v1⟩) [] := by
 obtain ⟨y', hy', hs⟩ := (h.mem k _ he : Rd w g.S (.sl t) m l [g.hv k] (g.bl k))
 simp only [List.cons.injEq, and_true] at hy'
 subst hy'
 obtain ⟨bs, hsub, hs'⟩ := hs.win hm hy
 have hr : Rd w g.S (.sl t) m (Rf.win wi l) [y] bs := ⟨y, rfl, hs'⟩
 obtain ⟨hc1, hc2⟩ := h.cell k b o ha
 obtain ⟨hb1, hb2, hb3⟩ := h.box k b o ha
 have hw : ∀ q, (g.S q ∨ ∃ p, q ∈ g.bl p) → (w.setCell ⟨b, o, none⟩ y).heap[q]? = w.heap[q]? := by
  rintro q hq
  refine Ao ?_
  rintro rfl
  rcases hq with hq | ⟨p, hq⟩
  ·exact hb3 hq
  ·exact hb1 p hq
 have hst : Step w g σ.mem (w.setCell ⟨b, o, none⟩ y) { g with hv := B2 g.hv k y, bl := B2 g.bl k bs } (σ.setM k ⟨.s m t (Rf.win wi l), v0 + 1, v1⟩).mem := by
  refine Step.updW h he (by simp) (Nat.le_refl _) (fun hv => by simp at hv) (fun _ h => h) (fun _ _ h => h) (fun q hq => Au _ _ hq) fun q hq => hw q ?_
  exact hq.imp id fun ⟨p, _, h⟩ => ⟨p, h⟩
 have hrel : Rel (w.setCell ⟨b, o, none⟩ y) { g with hv := B2 g.hv k y, bl := B2 g.bl k bs } (σ.setM k ⟨.s m t (Rf.win wi l), v0 + 1, v1⟩) ts [] := by
  refine h.setKeyW hst rfl (fun q hq => Au _ _ hq) (fun q hq => Au _ _ hq) (by rw [he]; simp) ?_ ?_ (fun q hq => hw q (hq.imp id fun ⟨p, _, h⟩ => ⟨p, h⟩)) (by rw [Bu]; exact Nat.le_refl _) (fun b hb => .inl hb) ?_ ?_ ?_ ?_ ?_
  ·intro q b' o' ha'
   obtain ⟨h1, h2⟩ := h.cell q b' o' ha'
   refine ⟨?_, B9 h2⟩
   rw [C4 hc2 (by omega)]
   by_cases hq : q = k
   ·subst hq
    rw [ha] at ha'; cases ha'
    simp [Ae]
   ·have : ¬ (b' = b ∧ o' = o) := by
     rintro ⟨rfl, rfl⟩
     exact hq (h.inj q k _ ha' ha)
    rw [if_neg this, h1]
    simp only [Au _ _ hq]
  ·simp only [Ae]
   exact hr.imp (t := .sl t) (fun _ h => h) fun q hq => hw q (hq.imp id fun hq => ⟨k, hsub.subset hq⟩)
  ·intro q hq; rw [Bu]; exact (h.st q hq).2.2
  ·simp only [Ae]
   have : Hand.bs ([] : Hand) = [] := rfl
   rw [this, List.append_nil]; exact List.Nodup.sublist hsub (h.nd k)
  ·intro q hq
   simp only [Ae] at hq
   rcases hq with hq | hq
   ·exact .inl (hsub.subset hq)
   ·exact .inr (.inl hq)
  ·intro q hq
   simp only [Ae]
   exact ⟨fun h1 => (h.st q hq).1 k (hsub.subset h1), (h.st q hq).2.1⟩
  ·intro z hz; cases hz
 refine ⟨{ g with hv := B2 g.hv k y, bl := B2 g.bl k bs }, rfl, hrel, hst, ?_, fun q hq => .inl hq, fun _ _ h => .inl h, by rw [Bu]; exact Nat.le_refl _, ⟨rfl, rfl, rfl⟩⟩
 intro q hq
 left
 rcases hq with ⟨p, hp⟩ | hq
 ·by_cases hpk : p = k
  ·subst hpk; simp only [Ae] at hp; exact .inl ⟨p, hsub.subset hp⟩
  ·simp only [Au _ _ hpk] at hp; exact .inl ⟨p, hp⟩
 ·exact .inr hq
theorem Yd {b o : Nat} {y : Value} {k : Nat} (h : BlkOk w b (o + 1)) (ha : g.ad k = some (b, o)) : Frm w g (w.setCell ⟨b, o, none⟩ y) := by
 intro q hq ho
 by_cases hqb : q = b
 ·subst hqb
  obtain ⟨cs, te, h1, h2⟩ := h
  refine .inr ⟨cs, _, te, (0, 0), h1, C0 h1, by simp, fun j hj => ?_⟩
  have : j ≠ o := fun h => hj ⟨k, by rw [h]; exact ha⟩
  rw [Array.getElem?_setIfInBounds_ne (Ne.symm this)]
 ·exact .inl (Ao hqb).symm
theorem R9 {k : Nat} {x : Leaf} {v0 : Nat} {wi : Option (Nat × Nat)} (h : Jd k x = some (v0, wi)) : ∃ v1, x = .a (.cell k) v0 v1 wi := by
 unfold Jd at h
 split at h
 ·rename_i k' u0 u1 w'
  cases hb : Nat.beq k k' with
  | false => rw [hb] at h; simp at h
  | true =>
   rw [hb] at h
   simp only [cond_true, Option.some.injEq, Prod.mk.injEq] at h
   obtain ⟨rfl, rfl⟩ := h
   rw [Nat.eq_of_beq_eq_true hb]
   exact ⟨u1, rfl⟩
 ·simp at h
theorem Tl : ∀ {xs : List Leaf} {ys : List Value} {w : World} {g : Gh} {σ : St} {k b o i : Nat} (h : Rel w g σ ts [])
  (hx : LsR w g σ.mem xs ys) (had : ∀ j, j < xs.length → g.ad (k + j) = some (b, o + i + j)) {K : Unit → St → Option γ} (hr : (Sx k xs).run tab σ K = some r),
  ∃ w' g' σ', K () σ' = some r ∧ (storeCells ⟨b, o, none⟩ ys i).run P w = .ok () w' ∧ g'.ad = g.ad ∧ Rel w' g' σ' ts [] ∧ Mv w g σ [] w' g' σ' [] ∧ Frm w g w'
 | [], ys, w, g, σ, k, b, o, i, h, hx, had, K, hr => by
  have : ys = [] := List.length_eq_zero_iff.1 hx.1
  subst this
  exact ⟨w, g, σ, hr, rfl, rfl, h, Mv.refl _ _ _ _, Frm.refl _ _⟩
 | x :: xs, [], w, g, σ, k, b, o, i, h, hx, had, K, hr => by have := hx.1; simp at this
 | x :: xs, y :: ys, w, g, σ, k, b, o, i, h, hx, had, K, hr => by
  obtain ⟨hx1, hx2⟩ := hx.tail
  simp only [Sx, run_bind] at hr
  obtain ⟨hok, hr⟩ := Ar hr
  obtain ⟨e, he, hr⟩ := A5 hr
  have ha := had 0 (by simp)
  simp only [Nat.add_zero] at ha
  obtain ⟨hc1, hc2⟩ := h.cell k _ _ ha
  have hone := G3 hok hx1
  have hst1 : (store ((⟨b, o, none⟩ : Addr).add i) y).run P w = .ok () (w.setCell ⟨b, o + i, none⟩ y) := by
   rw [Bn]; exact Lw hc2 hone
  have one : ∃ g1 σ1, g1.ad = g.ad ∧ Rel (w.setCell ⟨b, o + i, none⟩ y) g1 σ1 ts [] ∧ Mv w g σ [] (w.setCell ⟨b, o + i, none⟩ y) g1 σ1 [] ∧
    (Sx (k + 1) xs).run tab σ1 K = some r := by
   cases hsa : Jd k x with
   | none =>
    rw [hsa] at hr
    simp only [Pg.run] at hr
    obtain ⟨h1, h2⟩ := h.storeCell he ha hx1
    refine ⟨{ g with hv := B2 g.hv k y, bl := B2 g.bl k [] }, _, rfl, h1, ⟨h2, ?_, fun q hq => .inl hq, fun _ _ h => .inl h, by rw [Bu]; exact Nat.le_refl _, ⟨rfl, rfl, rfl⟩⟩, hr⟩
    intro q hq
    left
    rcases hq with ⟨p, hp⟩ | hq
    ·by_cases hpk : p = k
     ·subst hpk; simp only [Ae] at hp; cases hp
     ·simp only [Au _ _ hpk] at hp; exact .inl ⟨p, hp⟩
    ·exact .inr hq
   | some z =>
    obtain ⟨u0, wi⟩ := z
    obtain ⟨u1, rfl⟩ := R9 hsa
    rw [hsa] at hr
    simp only [run_bind] at hr
    obtain ⟨hv, hr⟩ := Ar hr
    obtain ⟨ec, ev0, ev1⟩ := e
    cases ec with
    | s m t l =>
     simp only [run_bind] at hr
     obtain ⟨hm, hr⟩ := Ar hr
     simp only [Pg.run] at hr
     obtain ⟨_, _, e2, he2, h0, h1, hc⟩ := hx1
     simp only [Kj] at he2
     rw [he] at he2; cases he2
     obtain ⟨_, t', q, hh, r1, r2, r3⟩ := hc hv
     simp only [leafAt, he, Option.map_some, Option.bind_some, lstOf, Option.some.injEq, Prod.mk.injEq] at r1
     obtain ⟨rfl, rfl⟩ := r1
     simp only [hdrAt, Option.some.injEq] at r2
     subst r2
     obtain ⟨g1, had1, hr1, hm1⟩ := h.narrow he (Hm hm) ha r3
     exact ⟨g1, _, had1, hr1, hm1, hr⟩
    | _ => simp [Pg.run] at hr
  obtain ⟨g1, σ1, had1, hr1, hm1, hr⟩ := one
  have hw1 : ∀ q, g.S q → (w.setCell ⟨b, o + i, none⟩ y).heap[q]? = w.heap[q]? := by
   intro q hq
   refine Ao ?_
   rintro rfl
   exact (h.box k _ _ ha).2.2 hq
  obtain ⟨w2, g2, σ2, hr, hs2, had2, hr2, hm2, hf2⟩ := Tl (i := i + 1) hr1 (hx2.step hm1.st hw1)
   (fun j hj => by rw [had1, show k + 1 + j = k + (j + 1) by omega, had (j + 1) (by simpa using hj), show o + i + (j + 1) = o + (i + 1) + j by omega]) hr
  refine ⟨w2, g2, σ2, hr, ?_, had2.trans had1, hr2, hm1.trans hm2, (Yd hc2 ha).trans hf2 hm1⟩
  simp only [storeCells, Sem.run_bind, hst1, Result.andThen_ok, hs2]
end
end Go.Rf
end

section
set_option linter.unusedVariables false
namespace Go.Rf
theorem Xhf {m : Mode} : ∀ {t : Ty} {cs r : List Leaf} {z : den t}, Nj m t cs = some (z, r) →
  ∃ c1, cs = c1 ++ r ∧ c1.length = wd t ∧ ∀ (j : Nat) (x : Leaf), c1[j]? = some x → ∃ x', (enc m t z)[j]? = some x' ∧ (∀ q, lstOf x = some q → lstOf x' = some q) ∧ (E7 [x] = false → lstOf x' = none) := by
 intro t
 induction t with
 | int k =>
  intro cs r z h
  obtain ⟨c, rfl, hf⟩ := Bj h
  refine ⟨[c], rfl, rfl, fun j x hx => ?_⟩
  cases j with
  | succ j => simp at hx
  | zero =>
   simp at hx; subst hx
   refine ⟨_, rfl, fun q hq => ?_, fun _ => rfl⟩
   unfold Xgf at hf
   split at hf <;> first | (simp [lstOf] at hq; done) | (simp at hf; done)
 | bool =>
  intro cs r z h
  obtain ⟨c, rfl, hf⟩ := Bj h
  refine ⟨[c], rfl, rfl, fun j x hx => ?_⟩
  cases j with
  | succ j => simp at hx
  | zero =>
   simp at hx; subst hx
   refine ⟨_, rfl, fun q hq => ?_, fun _ => rfl⟩
   unfold Xgc at hf
   split at hf <;> first | (simp [lstOf] at hq; done) | (simp at hf; done)
 | str =>
  intro cs r z h
  obtain ⟨c, rfl, hf⟩ := Bj h
  refine ⟨[c], rfl, rfl, fun j x hx => ?_⟩
  cases j with
  | succ j => simp at hx
  | zero =>
   simp at hx; subst hx
   refine ⟨_, rfl, fun q hq => ?_, fun _ => rfl⟩
   unfold Xgw at hf
   split at hf <;> first | (simp [lstOf] at hq; done) | (simp at hf; done)
 | sl e ih =>
  intro cs r z h
  obtain ⟨c, rfl, hf⟩ := Bj h
  refine ⟨[c], rfl, rfl, fun j x hx => ?_⟩
  cases j with
  | succ j => simp at hx
  | zero =>
   simp at hx; subst hx
   refine ⟨_, rfl, fun q hq => ?_, fun ha => ?_⟩
   ·unfold Xg1 at hf
    split at hf
    ·rename_i n u l
     cases hfi : Kt m n with
     | false => rw [hfi] at hf; simp at hf
     | true =>
      rw [hfi] at hf
      simp only [cond_true] at hf
      split at hf
      ·rename_i hu
       subst hu
       simp only [Option.some.injEq] at hf
       subst hf
       exact hq
      ·simp at hf
    ·simp [lstOf] at hq
    ·simp at hf
   ·unfold Xg1 at hf
    split at hf <;> first | (simp [E7] at ha; done) | (simp at hf; done)
 | pair a b iha ihb =>
  intro cs r z h
  simp only [Nj] at h
  split at h <;> try (simp at h; done)
  rename_i y r1 h1
  split at h <;> try (simp at h; done)
  rename_i z' r2 h2
  simp only [Option.some.injEq, Prod.mk.injEq] at h
  obtain ⟨rfl, rfl⟩ := h
  obtain ⟨c1, rfl, l1, p1⟩ := iha h1
  obtain ⟨c2, rfl, l2, p2⟩ := ihb h2
  refine ⟨c1 ++ c2, by simp, by simp [wd, l1, l2], fun j x hx => ?_⟩
  simp only [enc]
  by_cases hj : j < c1.length
  ·rw [List.getElem?_append_left hj] at hx
   obtain ⟨x', hx', h3, h4⟩ := p1 j x hx
   exact ⟨x', by rw [List.getElem?_append_left (by rw [Ba, ← l1]; exact hj)]; exact hx', h3, h4⟩
  ·rw [List.getElem?_append_right (by omega)] at hx
   obtain ⟨x', hx', h3, h4⟩ := p2 _ x hx
   refine ⟨x', ?_, h3, h4⟩
   rw [List.getElem?_append_right (by rw [Ba, ← l1]; omega), Ba, ← l1]
   exact hx'
theorem Xku {m : Mode} {t : Ty} {cs : List Leaf} {z : den t} (h : Og m t cs = some z) :
  cs.length = wd t ∧ ∀ (j : Nat) (x : Leaf), cs[j]? = some x → ∃ x', (enc m t z)[j]? = some x' ∧ (∀ q, lstOf x = some q → lstOf x' = some q) ∧ (E7 [x] = false → lstOf x' = none) := by
 unfold Og at h
 split at h <;> try (simp at h; done)
 rename_i y hd
 simp only [Option.some.injEq] at h
 subst h
 obtain ⟨c1, h1, h2, h3⟩ := Xhf hd
 simp only [List.append_nil] at h1
 subst h1
 exact ⟨h2, h3⟩
theorem Xn7 {m : Mode} : ∀ {t : Ty} {cs r : List Leaf} {z : den t}, Nj m t cs = some (z, r) →
  ∃ c1, cs = c1 ++ r ∧ ∀ v, Leaf.v v ∈ c1 → v.oneCell' = true := by
 intro t
 induction t with
 | pair a b iha ihb =>
  intro cs r z h
  simp only [Nj] at h
  split at h <;> try (simp at h; done)
  rename_i y r1 h1
  split at h <;> try (simp at h; done)
  rename_i z' r2 h2
  simp only [Option.some.injEq, Prod.mk.injEq] at h
  obtain ⟨rfl, rfl⟩ := h
  obtain ⟨c1, rfl, p1⟩ := iha h1
  obtain ⟨c2, rfl, p2⟩ := ihb h2
  exact ⟨c1 ++ c2, by simp, fun v hv => (List.mem_append.1 hv).elim (p1 v) (p2 v)⟩
 | int k =>
  intro cs r z h
  obtain ⟨c, rfl, hf⟩ := Bj h
  refine ⟨[c], rfl, fun v hv => ?_⟩
  have hc : c = .v v := (List.mem_singleton.1 hv).symm
  subst hc
  cases v <;> first | rfl | (simp [Xgf] at hf; done)
 | bool =>
  intro cs r z h
  obtain ⟨c, rfl, hf⟩ := Bj h
  refine ⟨[c], rfl, fun v hv => ?_⟩
  have hc : c = .v v := (List.mem_singleton.1 hv).symm
  subst hc
  cases v <;> first | rfl | (simp [Xgc] at hf; done)
 | str =>
  intro cs r z h
  obtain ⟨c, rfl, hf⟩ := Bj h
  refine ⟨[c], rfl, fun v hv => ?_⟩
  have hc : c = .v v := (List.mem_singleton.1 hv).symm
  subst hc
  cases v <;> first | rfl | (simp [Xgw] at hf; done)
 | sl e ih =>
  intro cs r z h
  obtain ⟨c, rfl, hf⟩ := Bj h
  refine ⟨[c], rfl, fun v hv => ?_⟩
  have hc : c = .v v := (List.mem_singleton.1 hv).symm
  subst hc
  cases v <;> first | rfl | (simp [Xg1] at hf; done)
theorem Xt5 {m : Mode} {t : Ty} {cs : List Leaf} {z : den t} (h : Og m t cs = some z) : ∀ v, Leaf.v v ∈ cs → v.oneCell' = true := by
 unfold Og at h
 split at h <;> try (simp at h; done)
 rename_i y hd
 obtain ⟨c1, h1, h2⟩ := Xn7 hd
 simp only [List.append_nil] at h1
 subst h1
 exact h2
theorem Sl : ∀ {ys : List Leaf}, E7 ys = false → ∀ x ∈ ys, E7 [x] = false
 | [], _, x, hx => by cases hx
 | y :: r, h, x, hx => by
  cases y with
  | v z =>
   cases z with
   | slice a n c => simp [E7] at h
   | _ =>
    simp only [E7] at h
    rcases List.mem_cons.1 hx with rfl | hx
    ·rfl
    ·exact Sl h x hx
  | _ => simp [E7] at h
section
variable {P : Program} {w : World} {g : Gh} {σ : St} {ts : Array Value} {H : Hand}
theorem Dq {b o : Nat} : ∀ {vs : List Value} {i : Nat} {w : World}, BlkOk w b (o + i + vs.length) → (∀ v ∈ vs, v.oneCell' = true) →
  ∃ w', (storeCells ⟨b, o, none⟩ vs i).run P w = .ok () w' ∧ (∀ q, q ≠ b → w'.heap[q]? = w.heap[q]?) ∧ (∀ n, BlkOk w b n → BlkOk w' b n) ∧
   (∀ p, cellAt w' b p = if o + i ≤ p ∧ p < o + i + vs.length then vs[p - (o + i)]? else cellAt w b p) ∧ w'.heap.size = w.heap.size ∧ Io w w'
 | [], i, w, hb, h1 => ⟨w, rfl, fun _ _ => rfl, fun _ h => h, fun p => by rw [if_neg (by simp only [List.length_nil]; omega)], rfl, Io.refl _⟩
 | v :: vs, i, w, hb, h1 => by
  have hb1 : BlkOk w b (o + i + 1) := by obtain ⟨cs, te, h2, h3⟩ := hb; exact ⟨cs, te, h2, by simp at h3; omega⟩
  have hs : (store ((⟨b, o, none⟩ : Addr).add i) v).run P w = .ok () (w.setCell ⟨b, o + i, none⟩ v) := by rw [Bn]; exact Lw hb1 (h1 v (by simp))
  obtain ⟨w', hr, hq, hblk, hcell, hsz, hio⟩ := Dq (b := b) (o := o) (vs := vs) (i := i + 1) (w := w.setCell ⟨b, o + i, none⟩ v)
   (B9 (by obtain ⟨cs, te, h2, h3⟩ := hb; exact ⟨cs, te, h2, by simp at h3; omega⟩)) (fun x hx => h1 x (by simp [hx]))
  refine ⟨w', by simp only [storeCells, Sem.run_bind, hs, Result.andThen_ok, hr], fun q hne => (hq q hne).trans (Ao hne), fun n hn => hblk n (B9 hn), fun p => ?_, hsz.trans (Bu _ _ _), (show Io w (w.setCell ⟨b, o + i, none⟩ v) from ⟨rfl, rfl, rfl⟩).trans hio⟩
  rw [hcell p]
  by_cases h2 : o + (i + 1) ≤ p ∧ p < o + (i + 1) + vs.length
  ·rw [if_pos h2, if_pos (by simp; omega)]
   rw [show p - (o + i) = (p - (o + (i + 1))) + 1 by omega, List.getElem?_cons_succ]
  ·rw [if_neg h2, C4 hb1 (by omega)]
   by_cases h3 : p = o + i
   ·subst h3
    simp
   ·rw [if_neg (by simp [h3]), if_neg (by simp; omega)]
theorem Pm {S : Nat → Prop} {cs : List Leaf} {vs : List Value} {bss : List (List Nat)} (h : Cs w S cs vs bss) (n : Nat) : Cs w S (cs.take n) (vs.take n) (bss.take n) ∧ Cs w S (cs.drop n) (vs.drop n) (bss.drop n) := by
 obtain ⟨l1, l2⟩ := Kz h
 have h' := h
 rw [← List.take_append_drop n cs] at h'
 obtain ⟨v1, v2, b1, b2, rfl, rfl, h1, h2⟩ := Xx h'
 obtain ⟨e1, e2⟩ := Kz h1
 obtain ⟨e3, e4⟩ := Kz h2
 have hv : v1 = (v1 ++ v2).take n ∧ v2 = (v1 ++ v2).drop n := by
  by_cases hn : n ≤ cs.length
  ·have : v1.length = n := by rw [← e1]; simp [hn]
   exact ⟨by rw [← this]; simp, by rw [← this]; simp⟩
  ·have hc : cs.drop n = [] := List.drop_eq_nil_of_le (by omega)
   have : v2 = [] := by rw [hc] at e3; exact List.length_eq_zero_iff.1 e3.symm
   subst this
   have hl : v1.length ≤ n := by rw [← e1]; simp; omega
   exact ⟨by simp [List.take_of_length_le hl], by simp [List.drop_eq_nil_of_le hl]⟩
 have hb : b1 = (b1 ++ b2).take n ∧ b2 = (b1 ++ b2).drop n := by
  by_cases hn : n ≤ cs.length
  ·have : b1.length = n := by rw [e2, ← e1]; simp [hn]
   exact ⟨by rw [← this]; simp, by rw [← this]; simp⟩
  ·have hc : cs.drop n = [] := List.drop_eq_nil_of_le (by omega)
   have : b2 = [] := by rw [hc] at e3; simp at e3; rw [← e3] at e4; simpa using e4
   subst this
   have hl : b1.length ≤ n := by rw [e2, ← e1]; simp; omega
   exact ⟨by simp [List.take_of_length_le hl], by simp [List.drop_eq_nil_of_le hl]⟩
 rw [← hv.1, ← hv.2, ← hb.1, ← hb.2]
 exact ⟨h1, h2⟩
theorem Eb (q : Nat) : ∀ (bss : List (List Nat)) (i : Nat) (h : i < bss.length) (b' : List Nat),
  (bss.set i b').flatten.count q + (bss[i]).count q = bss.flatten.count q + b'.count q
 | a :: r, 0, h, b' => by simp [List.count_append]; omega
 | a :: r, i + 1, h, b' => by
  have := Eb q r i (by simpa using h) b'
  simp only [List.set_cons_succ, List.flatten_cons, List.count_append, List.getElem_cons_succ]
  omega
end
end Go.Rf
end

section
set_option linter.unusedVariables false
namespace Go.Rf
section
variable {P : Program} {w : World} {g : Gh} {σ : St} {ts : Array Value}
theorem Xtr (m : Mode) : ∀ (t : Ty) (x y : den t) (p : Nat) (a b : Leaf), (enc m t x)[p]? = some a → (enc m t y)[p]? = some b → (lstOf a).isSome = (lstOf b).isSome := by
 intro t
 induction t with
 | pair t u iht ihu =>
  intro x y p a b h1 h2
  simp only [enc] at h1 h2
  by_cases hp : p < wd t
  ·rw [List.getElem?_append_left (by rw [Ba]; exact hp)] at h1 h2
   exact iht _ _ p a b h1 h2
  ·rw [List.getElem?_append_right (by rw [Ba]; omega), Ba] at h1 h2
   exact ihu _ _ _ a b h1 h2
 | _ =>
  intro x y p a b h1 h2
  cases p with
  | zero => simp [enc] at h1 h2; subst h1; subst h2; rfl
  | succ p => simp [enc] at h1
theorem Rel.storeElem {k i c v0 v1 n : Nat} {m : Mode} {t : Ty} {l : List (den t)} {ys : List Leaf} {vs : List Value} {bss : List (List Nat)} {z : den t} {b o cap : Nat}
  (h : Rel w g σ ts (hz ys vs bss)) (hl1 : ys.length = vs.length) (hl2 : bss.length = vs.length)
  (he : σ.mem k = some ⟨.s m t l, v0, v1⟩) (hm : m.isOwn = true) (hi : i < l.length) (hc : c + ys.length ≤ wd t)
  (hd : Og m.nest t (Cr (enc m.nest t (nthD l i (Bl t))) c ys) = some z)
  (hone : ∀ v ∈ vs, v.oneCell' = true) (hhv : g.hv k = .slice (some ⟨b, o, none⟩) l.length cap) (hn : E7 ys = false ∨ 1 ≤ n) :
  ∃ w' g', (storeCells ⟨b, o + i * wd t + c, none⟩ vs 0).run P w = .ok () w' ∧ Rel w' g' (σ.setM k ⟨.s m t (l.set i z), v0, v1 + n⟩) ts [] ∧
   Mv w g σ (hz ys vs bss) w' g' (σ.setM k ⟨.s m t (l.set i z), v0, v1 + n⟩) [] ∧ Frm w g w' := by
 obtain ⟨y', hy', hs⟩ := (h.mem k _ he : Rd w g.S (.sl t) m l [g.hv k] (g.bl k))
 simp only [List.cons.injEq, and_true] at hy'
 subst hy'
 obtain ⟨ad, cp, hy, hcap, hx, hr⟩ := hs
 rcases hr with ⟨_, hl, _, _⟩ | ⟨b', o', bss0, rfl, hlen, ho, hro, hh, hel⟩
 ·rw [hl] at hi; simp at hi
 rw [hhv] at hy
 simp only [Value.slice.injEq, Option.some.injEq, Addr.mk.injEq, and_true, true_and] at hy
 obtain ⟨⟨rfl, rfl⟩, rfl⟩ := hy
 obtain ⟨hbk, hblk⟩ := ho hm
 have hib : i < bss0.length := by omega
 obtain ⟨vs0, hv0, hcell0, hx0⟩ := hel i l[i] bss0[i] (by simp) (List.getElem?_eq_getElem hi) (List.getElem?_eq_getElem hib)
 obtain ⟨b0, hcs0, hfl0⟩ := hx0.cs
 have hn0 : nthD l i (Bl t) = l[i] := by rw [B8]; simp [List.getD, hi]
 rw [hn0] at hd
 have hHb : Hand.bs (hz ys vs bss) = bss.flatten := Sy hl1 hl2
 have hcsH : Cs w g.S ys vs bss := To hl1 hl2 fun x hx => h.hand x hx
 have hN : (g.bl k ++ bss.flatten).Nodup := by
  rw [← hHb]
  exact List.nodup_append.2 ⟨h.nd k, h.hnd, fun a ha q hq hab => by subst hab; exact h.hdj k a ha hq⟩
 rw [hbk] at hN
 have hcnt := List.nodup_iff_count.1 hN
 have hbS : ¬ g.S b := fun hs => (h.st b hs).1 k (by rw [hbk]; exact List.mem_cons_self)
 have hb0 : b ∉ bss0.flatten ∧ b ∉ bss.flatten := by
  have := hcnt b
  simp only [List.cons_append, List.count_cons_self, List.count_append] at this
  exact ⟨fun hq => by have := List.count_pos_iff.2 hq; omega, fun hq => by have := List.count_pos_iff.2 hq; omega⟩
 have hmul : i * wd t + wd t ≤ cap * wd t := by
  have h1 : i + 1 ≤ cap := by omega
  have := Nat.mul_le_mul_right (wd t) h1
  rw [Nat.add_mul, Nat.one_mul] at this
  exact this
 obtain ⟨w', hrun, hq, hblk', hcell', hsz, hio⟩ := Dq (P := P) (b := b) (o := o + i * wd t + c) (vs := vs) (i := 0) (w := w)
  (by obtain ⟨cs, te, h1, h2⟩ := hblk; exact ⟨cs, te, h1, by omega⟩) hone
 simp only [Nat.add_zero] at hcell'
 have hel0 := Ba m.nest t l[i]
 obtain ⟨t1, t2⟩ := Pm hcs0 c
 obtain ⟨_, t3⟩ := Pm hcs0 (c + ys.length)
 have hcsp : Cs w g.S (Cr (enc m.nest t l[i]) c ys) (vs0.take c ++ vs ++ vs0.drop (c + ys.length)) (b0.take c ++ bss ++ b0.drop (c + ys.length)) :=
  Em (Em t1 hcsH) t3
 have hcountsp : ∀ q, (b0.take c ++ bss ++ b0.drop (c + ys.length)).flatten.count q ≤ b0.flatten.count q + bss.flatten.count q := by
  intro q
  simp only [List.flatten_append, List.count_append]
  have h1 : b0.flatten.count q = (b0.take c).flatten.count q + (b0.drop c).flatten.count q := by
   rw [← List.count_append, ← List.flatten_append, List.take_append_drop]
  have h2 : (b0.drop (c + ys.length)).flatten.count q ≤ (b0.drop c).flatten.count q := by
   rw [← List.drop_drop]
   exact (O7 (List.drop_sublist _ _)).count_le q
  omega
 have hcount0 : ∀ q, (bss0[i]).count q ≤ bss0.flatten.count q := fun q => by
  have := Eb q bss0 i hib []
  simp at this; omega
 have hndsp : (b0.take c ++ bss ++ b0.drop (c + ys.length)).flatten.Nodup := by
  refine List.nodup_iff_count.2 fun q => ?_
  have h1 := hcountsp q
  have h2 := hcount0 q
  have h3 := hcnt q
  simp only [List.cons_append, List.count_cons, List.count_append] at h3
  rw [hfl0] at h2
  omega
 have hmemsp : ∀ q, q ∈ (b0.take c ++ bss ++ b0.drop (c + ys.length)).flatten → q ∈ bss0.flatten ∨ q ∈ bss.flatten := by
  intro q hq
  have h0 := List.count_pos_iff.2 hq
  have h1 := hcountsp q
  have h2 := hcount0 q
  rw [hfl0] at h2
  by_cases h4 : 0 < bss.flatten.count q
  ·exact .inr (List.count_pos_iff.1 h4)
  ·exact .inl (List.count_pos_iff.1 (by omega))
 have hne : ∀ q, g.S q ∨ q ∈ bss0.flatten ∨ q ∈ bss.flatten → q ≠ b := by
  intro q h1 h2
  subst h2
  rcases h1 with h1 | h1 | h1
  ·exact hbS h1
  ·exact hb0.1 h1
  ·exact hb0.2 h1
 have hcsp' : Cs w' g.S (Cr (enc m.nest t l[i]) c ys) (vs0.take c ++ vs ++ vs0.drop (c + ys.length)) (b0.take c ++ bss ++ b0.drop (c + ys.length)) :=
  Hd (fun _ h => h) hcsp fun q hq' => hq q (hne q (hq'.imp id (hmemsp q)))
 obtain ⟨bs', hsub', hrd'⟩ := Y7 (by cases m <;> simp [Mode.nest]) hd hcsp' hndsp
 have hcount' : ∀ q, (bss0.set i bs').flatten.count q ≤ bss0.flatten.count q + bss.flatten.count q := by
  intro q
  have h1 := Eb q bss0 i hib bs'
  have h2 := hsub'.count_le q
  have h3 := hcountsp q
  rw [hfl0] at h1
  omega
 have hmem' : ∀ q, q ∈ (bss0.set i bs').flatten → q ∈ bss0.flatten ∨ q ∈ bss.flatten := by
  intro q hq
  have h0 := List.count_pos_iff.2 hq
  have h1 := hcount' q
  by_cases h4 : 0 < bss.flatten.count q
  ·exact .inr (List.count_pos_iff.1 h4)
  ·exact .inl (List.count_pos_iff.1 (by omega))
 have hvl : (vs0.take c ++ vs ++ vs0.drop (c + ys.length)).length = wd t := by simp [hv0]; omega
 have hSS : ∀ q, (g.S q ∨ q ∈ (b0.take c ++ bss ++ b0.drop (c + ys.length)).flatten ∧ q ∉ bs') → q ∉ (bss0.set i bs').flatten := by
  rintro q (hq1 | ⟨hq1, hq2⟩) hq3
  ·rcases hmem' q hq3 with h4 | h4
   ·exact (h.st q hq1).1 k (by rw [hbk]; exact List.mem_cons_of_mem _ h4)
   ·exact (h.st q hq1).2.1 (by rw [hHb]; exact h4)
  ·have h1 := Eb q bss0 i hib bs'
   have h2 : bs'.count q = 0 := List.count_eq_zero.2 hq2
   have h3 := List.count_pos_iff.2 hq3
   have h5 := hcnt q
   have h6 := List.count_pos_iff.2 hq1
   have h7 := hcountsp q
   simp only [List.cons_append, List.count_cons, List.count_append] at h5
   rw [hfl0] at h1
   omega
 have hcellN : ∀ j p, j < l.length → p < wd t → cellAt w' b (o + j * wd t + p) = if j = i ∧ c ≤ p ∧ p < c + vs.length then vs[p - c]? else cellAt w b (o + j * wd t + p) := by
  intro j p hj hp
  rw [hcell']
  by_cases hji : j = i
  ·subst hji
   by_cases hpc : c ≤ p ∧ p < c + vs.length
   ·rw [if_pos (by omega), if_pos ⟨rfl, hpc⟩]; congr 1; omega
   ·rw [if_neg (by omega), if_neg (by simp; omega)]
  ·rw [if_neg, if_neg (by simp [hji])]
   rintro ⟨h1, h2⟩
   have hjj : j < i ∨ i < j := by omega
   rcases hjj with hjj | hjj
   ·have := Nat.mul_le_mul_right (wd t) (show j + 1 ≤ i from hjj)
    rw [Nat.add_mul, Nat.one_mul] at this
    omega
   ·have := Nat.mul_le_mul_right (wd t) (show i + 1 ≤ j from hjj)
    rw [Nat.add_mul, Nat.one_mul] at this
    omega
 have hnew : Rd w' (fun q => g.S q ∨ q ∈ (b0.take c ++ bss ++ b0.drop (c + ys.length)).flatten ∧ q ∉ bs') (.sl t) m (l.set i z) [g.hv k] (b :: (bss0.set i bs').flatten) := by
  refine ⟨_, rfl, some ⟨b, o, none⟩, cap, by rw [hhv]; simp, by simpa using hcap, fun h => absurd h (Hm hm), .inr ⟨b, o, bss0.set i bs', rfl, by simp [hlen], fun _ => ⟨rfl, hblk' _ hblk⟩, fun (hf : m.isOwn = false) => absurd (hm.symm.trans hf) (by simp), by simp, ?_⟩⟩
  intro j x b' _ hjx hjb
  have hjl : j < l.length := by have := (List.getElem?_eq_some_iff.1 hjx).1; simpa using this
  by_cases hji : j = i
  ·subst hji
   have hx : x = z := by rw [List.getElem?_set_self hi] at hjx; exact (Option.some.inj hjx).symm
   have hb' : b' = bs' := by rw [List.getElem?_set_self hib] at hjb; exact (Option.some.inj hjb).symm
   subst hx; subst hb'
   refine ⟨_, hvl, fun p hp => ?_, hrd'⟩
   rw [hcellN j p hjl hp]
   by_cases h1 : p < c
   ·rw [if_neg (by omega), hcell0 p hp, List.append_assoc, List.getElem?_append_left (by simp [hv0]; omega), List.getElem?_take_of_lt h1]
   ·by_cases h2 : p < c + vs.length
    ·rw [if_pos ⟨rfl, by omega, h2⟩, List.append_assoc, List.getElem?_append_right (by simp [hv0]; omega), List.getElem?_append_left (by simp [hv0]; omega)]
     congr 1
     simp [hv0]; omega
    ·rw [if_neg (by omega), hcell0 p hp, List.getElem?_append_right (by simp [hv0]; omega), List.getElem?_drop]
     congr 1
     simp [hv0]; omega
  ·rw [List.getElem?_set_ne (Ne.symm hji)] at hjx hjb
   obtain ⟨vs1, hv1, hc1, hx1⟩ := hel j x b' (by simp) hjx hjb
   refine ⟨vs1, hv1, fun p hp => ?_, hx1.imp (fun q hq => .inl hq) fun q hq' => hq q (hne q ?_)⟩
   ·rw [hcellN j p hjl hp, if_neg (by simp [hji])]; exact hc1 p hp
   ·exact hq'.imp id fun hb => .inl (List.mem_flatten.2 ⟨b', List.mem_of_getElem? hjb, hb⟩)
 have hw : ∀ q, (g.S q ∨ ∃ p, p ≠ k ∧ q ∈ g.bl p) → w'.heap[q]? = w.heap[q]? := by
  rintro q hq'
  refine hq q ?_
  rintro rfl
  rcases hq' with hq' | ⟨p, hp, hq'⟩
  ·exact hbS hq'
  ·exact h.dj p k hp q hq' (by rw [hbk]; exact List.mem_cons_self)
 obtain ⟨hdl, hdb⟩ := Xku hd
 have hst : Step w g σ.mem w' { g with bl := B2 g.bl k (b :: (bss0.set i bs').flatten), S := fun q => g.S q ∨ q ∈ (b0.take c ++ bss ++ b0.drop (c + ys.length)).flatten ∧ q ∉ bs' } (σ.setM k ⟨.s m t (l.set i z), v0, v1 + n⟩).mem := by
  refine ⟨fun _ h => .inl h, fun _ _ h => h, fun q x hx => ?_⟩
  by_cases hqk : q = k
  ·subst hqk
   rw [he] at hx; cases hx
   refine ⟨⟨.s m t (l.set i z), v0, v1 + n⟩, by rw [St.mem_setM]; simp, Nat.le_refl _, Nat.le_add_right _ _, fun _ y hy => ⟨rfl, by simpa [lstOf] using hy, fun hv j p y' hlj hin => ?_⟩⟩
   simp only at hv
   have hsl : E7 ys = false := hn.resolve_right (by omega)
   obtain ⟨x', t', q', hx', hl', hj⟩ := hin
   rw [he] at hx'; cases hx'
   simp only [lstOf, Option.some.injEq, Prod.mk.injEq] at hl'
   obtain ⟨rfl, rfl⟩ := hl'
   simp only [leafAt, he, Cc] at hlj
   have hnj : nthD l j (Bl t) = l[j] := by rw [B8]; simp [List.getD, hj]
   rw [hnj] at hlj
   cases hxj : (enc m.nest t l[j])[p]? with
   | none => rw [hxj] at hlj; simp at hlj
   | some x0 =>
    rw [hxj] at hlj
    simp only [Option.bind_some] at hlj
    have hp : p < wd t := by rw [← Ba m.nest t l[j]]; exact (List.getElem?_eq_some_iff.1 hxj).1
    by_cases hji : j = i
    ·subst hji
     have hns : ¬ (c ≤ p ∧ p < c + ys.length) := by
      rintro ⟨h1, h2⟩
      have hsp : (Cr (enc m.nest t l[j]) c ys)[p]? = ys[p - c]? := by
       unfold Cr
       rw [List.append_assoc, List.getElem?_append_right (by simp [hel0]; omega), List.getElem?_append_left (by simp [hel0]; omega)]
       congr 1
       simp [hel0]; omega
      have hyp : p - c < ys.length := by omega
      rw [List.getElem?_eq_getElem hyp] at hsp
      obtain ⟨x1, hx1, _, h4⟩ := hdb p _ hsp
      have h5 := h4 (Sl hsl _ (List.getElem_mem hyp))
      have h6 := Xtr m.nest t l[j] z p x0 x1 hxj hx1
      rw [h5] at h6
      rw [hlj] at h6
      simp at h6
     have hsp : (Cr (enc m.nest t l[j]) c ys)[p]? = some x0 := by
      unfold Cr
      by_cases h1 : p < c
      ·rw [List.append_assoc, List.getElem?_append_left (by simp [hel0]; omega), List.getElem?_take_of_lt h1]; exact hxj
      ·rw [List.getElem?_append_right (by simp [hel0]; omega), List.getElem?_drop, ← hxj]
       congr 1
       simp [hel0]; omega
     obtain ⟨x1, hx1, h3, _⟩ := hdb p _ hsp
     refine ⟨?_, ?_⟩
     ·simp only [leafAt, St.mem_setM, if_true, Cc, B8]
      have : (l.set j z).getD j (Bl t) = z := by simp [List.getD, hj]
      rw [this, hx1]
      exact h3 _ hlj
     ·simp only [hdrAt, St.mem_setM, if_true, hhv, he]
      rw [hcellN j p hj hp, if_neg (by omega)]
    ·refine ⟨?_, ?_⟩
     ·simp only [leafAt, St.mem_setM, if_true, Cc, B8]
      have : (l.set i z).getD j (Bl t) = l[j] := by
       simp only [List.getD_eq_getElem?_getD]
       rw [List.getElem?_set_ne (Ne.symm hji), List.getElem?_eq_getElem hj]
       rfl
      rw [this, hxj]
      exact hlj
     ·simp only [hdrAt, St.mem_setM, if_true, hhv, he]
      rw [hcellN j p hj hp, if_neg (by simp [hji])]
  ·have hstw := (Step.updW (e' := ⟨.d, v0 + 1, v1⟩) (g' := g) h he (by simp) (Nat.le_refl _) (fun hv => by simp at hv) (fun _ h => h) (fun _ _ h => h) (fun q hq => rfl) hw).key q x hx
   obtain ⟨e2, g1, g2, g3, g4⟩ := hstw
   rw [St.mem_setM] at g1
   simp only [hqk, if_false] at g1
   refine ⟨e2, by rw [St.mem_setM]; simp [hqk, g1], g2, g3, fun hv y hy => ?_⟩
   obtain ⟨f1, f2, f3⟩ := g4 hv y hy
   refine ⟨f1, f2, fun hv1 j p y' h1 h2 => ?_⟩
   obtain ⟨f4, f5⟩ := f3 hv1 j p y' h1 h2
   refine ⟨by simpa only [leafAt, St.mem_setM, hqk, if_false] using f4, ?_⟩
   rw [← f5]
   simp only [hdrAt, St.mem_setM, hqk, if_false]
 refine ⟨w', _, hrun, h.setKeyW hst rfl (fun _ _ => rfl) (fun q hq => Au _ _ hq) (by rw [he]; simp) ?_ ?_ hw (by omega) ?_ ?_ ?_ ?_ ?_ ?_, ⟨hst, ?_, ?_, fun _ _ h => .inl h, by omega, hio⟩, ?_⟩
 ·intro q b' o' ha
  obtain ⟨h1, h2⟩ := h.cell q b' o' ha
  have hqb : b' ≠ b := by rintro rfl; exact (h.box q _ _ ha).1 k (by rw [hbk]; exact List.mem_cons_self)
  exact ⟨(A2 (hq b' hqb)).trans h1, h2.same (hq b' hqb)⟩
 ·simp only [Ae]; exact hnew
 ·rintro q (hq1 | ⟨hq1, _⟩)
  ·exact .inl hq1
  ·rcases hmemsp q hq1 with h1 | h1
   ·exact .inr (.inl (by rw [hbk]; exact List.mem_cons_of_mem _ h1))
   ·exact .inr (.inr (.inl (by rw [hHb]; exact h1)))
 ·rintro q (hq1 | ⟨hq1, _⟩)
  ·rw [hsz]; exact (h.st q hq1).2.2
  ·rw [hsz]
   rcases hmemsp q hq1 with h1 | h1
   ·exact h.bllt k q (by rw [hbk]; exact List.mem_cons_of_mem _ h1)
   ·exact h.hdlt q (by rw [hHb]; exact h1)
 ·simp only [Ae]
  have : Hand.bs ([] : Hand) = [] := rfl
  rw [this, List.append_nil]
  refine List.nodup_iff_count.2 fun q => ?_
  have h1 := hcount' q
  have h2 := hcnt q
  simp only [List.cons_append, List.count_cons, List.count_append] at h2 ⊢
  omega
 ·intro q hq1
  simp only [Ae] at hq1
  rcases hq1 with hq1 | hq1
  ·rcases List.mem_cons.1 hq1 with rfl | hq1
   ·exact .inl (by rw [hbk]; exact List.mem_cons_self)
   ·rcases hmem' q hq1 with h1 | h1
    ·exact .inl (by rw [hbk]; exact List.mem_cons_of_mem _ h1)
    ·exact .inr (.inl (by rw [hHb]; exact h1))
  ·cases hq1
 ·intro q hq1
  simp only [Ae]
  refine ⟨?_, by intro h; cases h⟩
  intro h1
  rcases List.mem_cons.1 h1 with rfl | h1
  ·rcases hq1 with hq1 | ⟨hq1, _⟩
   ·exact hbS hq1
   ·exact hne q (.inr (hmemsp q hq1)) rfl
  ·exact hSS q hq1 h1
 ·intro x hx; cases hx
 ·intro q hq1
  left
  rcases hq1 with ⟨p, hp⟩ | hq1
  ·by_cases hpk : p = k
   ·subst hpk
    simp only [Ae] at hp
    rcases List.mem_cons.1 hp with rfl | hp
    ·exact .inl ⟨p, by rw [hbk]; exact List.mem_cons_self⟩
    ·rcases hmem' q hp with h1 | h1
     ·exact .inl ⟨p, by rw [hbk]; exact List.mem_cons_of_mem _ h1⟩
     ·exact .inr (by rw [hHb]; exact h1)
   ·simp only [Au _ _ hpk] at hp; exact .inl ⟨p, hp⟩
  ·cases hq1
 ·rintro q (hq1 | ⟨hq1, _⟩)
  ·exact .inl hq1
  ·rcases hmemsp q hq1 with h1 | h1
   ·exact .inr (.inl (.inl ⟨k, by rw [hbk]; exact List.mem_cons_of_mem _ h1⟩))
   ·exact .inr (.inl (.inr (by rw [hHb]; exact h1)))
 ·intro q hq1 ho1
  refine .inl (hq q ?_).symm
  rintro rfl
  exact ho1 (.inl ⟨k, by rw [hbk]; exact List.mem_cons_self⟩)
end
end Go.Rf
end

section
set_option linter.unusedVariables false
set_option linter.unusedSimpArgs false
namespace Go.Rf
section
variable {P : Program} {w : World} {g : Gh} {σ : St} {ts : Array Value} {H : Hand} {tab : Tab} {γ : Type} {r : γ}
theorem Ed {t : Nat} {d : TypeDesc} (h : P.underlying t = some d) : (isAgg t).run P w = .ok (aggD d) w := by
 cases d <;> simp [isAgg, Aq h, aggD]
theorem G6 {t : Nat} {f : TypeInfo} (h : P.info? t = some f) : (typeInfo t).run P w = .ok f w := by simp [typeInfo, h]
theorem B1 {t : Nat} {f : TypeInfo} (h : P.info? t = some f) : (sizeOf t).run P w = .ok f.size w := by simp [sizeOf, G6 h]
theorem T6 : ∀ t : Ty, 0 < wd t
 | .int _ => Nat.one_pos
 | .bool => Nat.one_pos
 | .str => Nat.one_pos
 | .sl _ => Nat.one_pos
 | .pair a b => by have := T6 a; simp only [wd]; omega
theorem Tm {E : Env} (hE : ∀ t i, E.ty t = some i → TyOk P t i) (h : Rel w g σ ts H) {t : Nat} {x : A} {y : Value} (hx : AR w g σ.mem x y)
  {K : A → St → Option γ} (hr : (Xe2 E t x).run tab σ K = some r) :
  ∃ v z, K v σ = some r ∧ AR w g σ.mem v z ∧ (Instr.loadAt t y).run P w = .ok z w := by
 unfold Xe2 at hr
 split at hr
 ·rename_i ty ag eb p n v0 hty
  simp only [run_bind] at hr
  obtain ⟨hle, hr⟩ := Ar hr
  have hle : wd ty ≤ n := Nat.le_of_ble_eq_true hle
  obtain ⟨_, hp⟩ := (hx : LfR w g σ.mem (.ptr p n v0) y [])
  obtain ⟨ys, vs, b, o, hr, hl1, hl2, hy, hls, hcell⟩ := Zc h hp hle hr
  have hy := hy (T6 ty)
  subst hy
  have hT := hE t _ hty
  obtain ⟨f, hf, hsz, _⟩ := hT.info
  obtain ⟨d, hd, hag⟩ := hT.agg
  simp only at hsz hag
  have hload : (Instr.loadAt t (.pointer (some ⟨b, o, none⟩))).run P w = (loadVar t ⟨b, o, none⟩).run P w := by simp [Instr.loadAt, Instr.sureAddr]
  have hcells : ∀ j v, vs[j]? = some v → w.cell? ((⟨b, o, none⟩ : Addr).add j) = some v := fun j v hv => by rw [Bn]; exact hcell j v hv
  have hlc := run_loadCells_list (P := P) w ⟨b, o, none⟩ vs hcells
  cases ag with
  | true =>
   simp only [cond_true, Pg.run] at hr
   refine ⟨_, .agg vs.toArray, hr, ⟨vs, rfl, hls⟩, ?_⟩
   rw [hload]
   simp [loadVar, Ed hd, hag, B1 hf, hsz, ← hl2, hlc]
  | false =>
   simp only [cond_false] at hr
   split at hr
   ·rename_i y1
    have h1 : vs.length = 1 := by rw [hl2, ← hl1]; rfl
    match vs, h1 with
    | [z], _ =>
     refine ⟨_, z, hr, hls.tail.1, ?_⟩
     rw [hload]
     have := hcells 0 z rfl
     rw [Bn] at this
     simp only [Nat.add_zero] at this
     simp [loadVar, Ed hd, hag, this]
   ·simp [Pg.run] at hr
 ·simp [Pg.run] at hr
theorem Fx {v : Value} (h : v.oneCell' = true) : v.cells = #[v] := by
 cases v <;> first | rfl | simp [Value.oneCell'] at h
theorem Frm.pull {g1 : Gh} {σ1 : St} {H1 : Hand} {w' : World} (hm : Mv w g σ [] w g1 σ1 H1) (hf : Frm w g1 w') : Frm w g w' := by
 intro b hb ho
 refine ObjLike.trans (p := fun o => ∃ k, g.ad k = some (b, o)) (.inl rfl) (hf b hb fun h1 => ?_) fun j hj => ?_
 ·rcases hm.own b (h1.imp id fun h => by cases h) with h2 | h2
  ·exact ho h2
  ·omega
 ·obtain ⟨k, hk⟩ := hj
  rcases hm.ad k _ hk with h1 | h1
  ·exact ⟨k, h1⟩
  ·simp at h1; omega
theorem Xc5 {E : Env} (hE : ∀ t i, E.ty t = some i → TyOk P t i) (h : Rel w g σ ts []) {t : Nat} {x y : A} {u v : Value} (hx : AR w g σ.mem x u) (hy : AR w g σ.mem y v)
  {K : Unit → St → Option γ} (hr : (Xdu E t x y).run tab σ K = some r) :
  ∃ w' g' σ', K () σ' = some r ∧ (Instr.storeAt t u v).run P w = .ok () w' ∧ Rel w' g' σ' ts [] ∧ Mv w g σ [] w' g' σ' [] ∧ Frm w g w' := by
 unfold Xdu at hr
 split at hr
 ·rename_i ty ag eb p n v0 hty
  simp only [run_bind] at hr
  obtain ⟨xs, ys, hr, hls, hkind⟩ := Fb hy hr
  obtain ⟨hlit, hr⟩ := Ar hr
  simp only [Bool.and_eq_true] at hlit
  have hlen : xs.length = wd ty := Nat.eq_of_beq_eq_true hlit.1
  have hle : wd ty ≤ n := Nat.le_of_ble_eq_true hlit.2
  have hpos := T6 ty
  have hT := hE t _ hty
  obtain ⟨f, hf, hsz, _⟩ := hT.info
  simp only at hsz
  have hyl : ys.length = wd ty := by rw [hls.1, hlen]
  have hvc : v.cells.toList = ys := by
   rcases hkind with ⟨z, rfl, rfl, rfl, hok⟩ | ⟨rfl, rfl⟩
   ·have h1 : v.oneCell' = true := G3 hok hls.tail.1
    rw [Fx h1]
   ·rfl
  have hvs : v.cells.size = f.size := by rw [← Array.length_toList, hvc, hyl, hsz]
  obtain ⟨_, hp⟩ := (hx : LfR w g σ.mem (.ptr p n v0) u [])
  cases p with
  | cell k =>
   obtain ⟨b, o, hu, had⟩ := hp
   subst hu
   obtain ⟨w', g', σ', hr, hrun, _, hrel, hm, hfr⟩ := Tl (P := P) (i := 0) (o := o) h hls (fun j hj => by rw [Nat.add_zero]; exact had j (by omega)) hr
   refine ⟨w', g', σ', hr, ?_, hrel, hm, hfr⟩
   simp [Instr.storeAt, Instr.sureAddr, storeVar, B1 hf, hvs, hvc, hrun]
  | elem k i c =>
   simp only [Xfq, run_bind] at hr
   obtain ⟨ys', bss, g1, σ1, hr, l1, l2, h1, m1⟩ := Co h hls hr
   obtain ⟨e, he, hr⟩ := A5 hr
   obtain ⟨hv, hr⟩ := Ar hr
   rw [List.append_nil] at h1 m1
   have hp1 := POk.step m1.st (p := .elem k i c) (by exact hp)
   obtain ⟨_, x1, hx1, h0, hc⟩ := hp1
   rw [he] at hx1; cases hx1
   obtain ⟨t', q, a, len, cap, r1, r2, r3, r4, r5⟩ := hc (Nat.eq_of_beq_eq_true hv)
   obtain ⟨ec, ev0, ev1⟩ := e
   cases ec with
   | s m t0 l =>
    simp only [lstOf, Option.some.injEq, Prod.mk.injEq] at r1
    obtain ⟨rfl, rfl⟩ := r1
    simp only [run_bind] at hr
    obtain ⟨hm, hr⟩ := Ar hr
    split at hr
    ·rename_i z hz
     have hone : ∀ v ∈ ys, v.oneCell' = true := by
      intro v' hv'
      obtain ⟨j, hj, rfl⟩ := List.mem_iff_getElem.1 hv'
      have hcs : Cs w g1.S ys' ys bss := To (by rw [l1, hls.1]) (by rw [l2, hls.1]) fun x hx => h1.hand x hx
      have hjx : j < ys'.length := by rw [l1, ← hls.1]; exact hj
      obtain ⟨y1, q1, hy1, _, hlv⟩ := Nm hcs (List.getElem?_eq_getElem hjx)
      rw [List.getElem?_eq_getElem hj] at hy1
      cases hy1
      cases Tj : ys'[j] with
      | v z0 =>
       rw [Tj] at hlv
       rw [hlv.1]
       refine Xt5 hz z0 ?_
       unfold Cr
       simp only [List.mem_append]
       exact .inl (.inr (by rw [← Tj]; exact List.getElem_mem hjx))
      | s m u l => rw [Tj] at hlv; obtain ⟨ad, c', h4⟩ := Bz (hlv : Rd w g1.S (.sl u) m l [ys[j]] q1); rw [h4]; rfl
      | _ => rw [Tj] at hlv; exact hlv.elim
     obtain ⟨b, o, cap', vs0, bs0, hh, _⟩ := Hh h1 he r2
     rw [hh] at r4
     simp only [Value.slice.injEq, Option.some.injEq, Addr.mk.injEq, and_true] at r4
     obtain ⟨⟨hb, ho⟩, _, _⟩ := r4
     obtain ⟨w', g', hrun, hrel, hmv, hfr⟩ := h1.storeElem (P := P) (n := cond (E7 ys') 1 0) (by rw [l1, hls.1]) (by rw [l2, hls.1]) he hm r2 (by rw [l1, hlen]; omega) hz hone hh
      (by cases E7 ys' <;> simp)
     refine ⟨w', g', _, hr, ?_, hrel, m1.trans hmv, ?_⟩
     ·rw [r5, ← hb, ← ho]
      simp [Instr.storeAt, Instr.sureAddr, storeVar, B1 hf, hvs, hvc, hrun]
     ·exact Frm.pull m1 hfr
    ·simp [Pg.run] at hr
   | _ => simp [Pg.run] at hr
 ·simp [Pg.run] at hr
end
end Go.Rf
end

section
set_option linter.unusedVariables false
set_option linter.unusedSimpArgs false
namespace Go.Rf
def D3 (w : World) (c : Array Value) (te : TypeId) : World := { w with heap := w.heap.push (.cells c te) }
theorem Lg {w : World} {c : Array Value} {te : TypeId} {b : Nat} (h : b < w.heap.size) : (D3 w c te).heap[b]? = w.heap[b]? := by
 simp only [D3, Array.getElem?_push]
 rw [if_neg (by omega)]
theorem Tf {w : World} {c : Array Value} {te : TypeId} : (D3 w c te).heap[w.heap.size]? = some (.cells c te (0, 0)) := by
 simp only [D3, Array.getElem?_push_size]
theorem Qq {w : World} {c : Array Value} {te : TypeId} : (D3 w c te).heap.size = w.heap.size + 1 := by simp [D3]
section
variable {P : Program} {w : World} {g : Gh} {σ : St} {ts : Array Value} {H : Hand} {tab : Tab} {γ : Type} {r : γ}
theorem He {te : TypeId} {c : Array Value} : (Go.newRow te c).run P w = .ok ⟨w.heap.size, 0, none⟩ (D3 w c te) := by
 simp [Go.newRow, D3]
theorem Rel.newCell (h : Rel w g σ ts H) {k b o : Nat} {x : Leaf} {y : Value} (he : σ.mem k = none) (hc : cellAt w b o = some y) (hb : BlkOk w b (o + 1))
  (hf : (∀ k', b ∉ g.bl k') ∧ b ∉ H.bs ∧ ¬ g.S b) (hi : ∀ k', g.ad k' ≠ some (b, o)) (hx : LfR w g σ.mem x y []) :
  Rel w { g with ad := B2 g.ad k (some (b, o)), hv := B2 g.hv k y } (σ.setM k ⟨x, 0, 0⟩) ts H ∧
  Step w g σ.mem w { g with ad := B2 g.ad k (some (b, o)), hv := B2 g.hv k y } (σ.setM k ⟨x, 0, 0⟩).mem := by
 obtain ⟨ha0, hb0⟩ := h.pres k he
 have hst : Step w g σ.mem w { g with ad := B2 g.ad k (some (b, o)), hv := B2 g.hv k y } (σ.setM k ⟨x, 0, 0⟩).mem :=
  Step.fresh he (fun _ h => h) (fun q a ha => by
   have : q ≠ k := fun hq => by subst hq; rw [ha0] at ha; cases ha
   simp only [Au _ _ this]; exact ha) (fun q hq => Au _ _ hq)
 refine ⟨⟨?_, ?_, ?_, ?_, fun t => (h.tmps t).step hst fun _ _ => rfl, h.len, h.nd, h.dj, ?_, h.st, h.hnd, h.hdj, h.hand⟩, hst⟩
 ·intro q e hq
  rw [St.mem_setM] at hq
  by_cases hqk : q = k
  ·subst hqk
   simp at hq; subst hq
   simp only [Ae]
   rw [hb0]
   exact hx.step hst fun _ _ => rfl
  ·simp only [hqk, if_false] at hq
   simp only [Au _ _ hqk]
   exact (h.mem q e hq).step hst fun _ _ => rfl
 ·intro q b' o' ha
  by_cases hqk : q = k
  ·subst hqk
   simp only [Ae, Option.some.injEq, Prod.mk.injEq] at ha ⊢
   obtain ⟨rfl, rfl⟩ := ha
   exact ⟨hc, hb⟩
  ·simp only [Au _ _ hqk] at ha ⊢
   exact h.cell q b' o' ha
 ·intro q q' a h1 h2
  by_cases hqk : q = k
  ·by_cases hqk' : q' = k
   ·rw [hqk, hqk']
   ·subst hqk
    simp only [Ae, Au _ _ hqk', Option.some.injEq] at h1 h2
    subst h1
    exact absurd h2 (hi q')
  ·by_cases hqk' : q' = k
   ·subst hqk'
    simp only [Ae, Au _ _ hqk, Option.some.injEq] at h1 h2
    subst h2
    exact absurd h1 (hi q)
   ·simp only [Au _ _ hqk, Au _ _ hqk'] at h1 h2
    exact h.inj q q' a h1 h2
 ·intro q hq
  rw [St.mem_setM] at hq
  by_cases hqk : q = k
  ·subst hqk; simp at hq
  ·simp only [hqk, if_false] at hq
   simp only [Au _ _ hqk]
   exact h.pres q hq
 ·intro q b' o' ha
  by_cases hqk : q = k
  ·subst hqk
   simp only [Ae, Option.some.injEq, Prod.mk.injEq] at ha
   obtain ⟨rfl, rfl⟩ := ha
   exact hf
  ·simp only [Au _ _ hqk] at ha
   exact h.box q b' o' ha
theorem K3 : ∀ {xs : List Leaf} {ys : List Value} {g : Gh} {σ : St} {k b o : Nat} (h : Rel w g σ ts H) (hx : LsR w g σ.mem xs ys)
  (hc : ∀ j v, ys[j]? = some v → cellAt w b (o + j) = some v) (hb : BlkOk w b (o + ys.length))
  (hf : (∀ k', b ∉ g.bl k') ∧ b ∉ H.bs ∧ ¬ g.S b) (hi : ∀ k' o', g.ad k' = some (b, o') → o' < o)
  {K : Unit → St → Option γ} (hr : (newRow k xs).run tab σ K = some r),
  ∃ g' σ', K () σ' = some r ∧ Rel w g' σ' ts H ∧ Step w g σ.mem w g' σ'.mem ∧ g'.bl = g.bl ∧ g'.S = g.S ∧
   (∀ q a, g'.ad q = some a → g.ad q = some a ∨ a.1 = b) ∧ ∀ j, j < xs.length → g'.ad (k + j) = some (b, o + j)
 | [], ys, g, σ, k, b, o, h, hx, hc, hb, hf, hi, K, hr => ⟨g, σ, hr, h, Step.refl _ _ _, rfl, rfl, fun _ _ h => .inl h, fun j hj => by simp at hj⟩
 | x :: xs, [], g, σ, k, b, o, h, hx, hc, hb, hf, hi, K, hr => by have := hx.1; simp at this
 | x :: xs, y :: ys, g, σ, k, b, o, h, hx, hc, hb, hf, hi, K, hr => by
  obtain ⟨hx1, hx2⟩ := hx.tail
  simp only [newRow, Pg.run] at hr
  cases he : σ.mem k with
  | some e => rw [he] at hr; simp [Pg.run] at hr
  | none =>
   rw [he] at hr
   simp only [Pg.run] at hr
   have hc0 := hc 0 y rfl
   simp only [Nat.add_zero] at hc0
   obtain ⟨h1, s1⟩ := h.newCell he hc0 (by obtain ⟨cs, te, a, b⟩ := hb; exact ⟨cs, te, a, by simp at b; omega⟩) hf (fun k' ha => by have := hi k' o ha; omega) hx1
   obtain ⟨g2, σ2, hr, h2, s2, e1, e2, e3, e4⟩ := K3 (k := k + 1) (b := b) (o := o + 1) h1 (hx2.step s1 fun _ _ => rfl)
    (fun j v hv => by have := hc (j + 1) v (by simpa using hv); rwa [show o + 1 + j = o + (j + 1) by omega])
    (by obtain ⟨cs, te, a, b⟩ := hb; exact ⟨cs, te, a, by simp at b; omega⟩) hf
    (fun k' o' ha => by
     by_cases hk : k' = k
     ·subst hk; simp only [Ae, Option.some.injEq, Prod.mk.injEq] at ha; omega
     ·simp only [Au _ _ hk] at ha; have := hi k' o' ha; omega) hr
   refine ⟨g2, σ2, hr, h2, s1.trans s2, e1, e2, fun q a ha => ?_, fun j hj => ?_⟩
   ·rcases e3 q a ha with h3 | h3
    ·by_cases hk : q = k
     ·subst hk; simp only [Ae, Option.some.injEq] at h3; exact .inr (by rw [← h3])
     ·simp only [Au _ _ hk] at h3; exact .inl h3
    ·exact .inr h3
   ·cases j with
    | zero => exact s2.ad k _ (by simp [Ae])
    | succ j =>
     have := e4 j (by simpa using hj)
     rwa [show k + (j + 1) = k + 1 + j by omega, show o + (j + 1) = o + 1 + j by omega]
theorem Xog (h : Rel w g σ ts []) {xs : List Leaf} {ys : List Value} (hx : LsR w g σ.mem xs ys) {k : Nat} {te : TypeId}
  {K : Unit → St → Option γ} (hr : (newRow k xs).run tab σ K = some r) :
  ∃ g' σ', K () σ' = some r ∧ Rel (D3 w ys.toArray te) g' σ' ts [] ∧ Mv w g σ [] (D3 w ys.toArray te) g' σ' [] ∧ Frm w g (D3 w ys.toArray te) ∧
   AR (D3 w ys.toArray te) g' σ'.mem (.one (.ptr (.cell k) xs.length 0)) (.pointer (some ⟨w.heap.size, 0, none⟩)) := by
 have hgr := h.grow (w' := D3 w ys.toArray te) (fun b hb => Lg hb) (by rw [Qq]; omega)
 have hnew : (∀ k', w.heap.size ∉ g.bl k') ∧ w.heap.size ∉ Hand.bs ([] : Hand) ∧ ¬ g.S w.heap.size :=
  ⟨fun k' hb => by have := h.bllt k' _ hb; omega, (by intro h; cases h), fun hs => by have := (h.st _ hs).2.2; omega⟩
 have hst0 : Step w g σ.mem (D3 w ys.toArray te) g σ.mem := Step.world h (fun b hb => by
  refine Lg ?_
  rcases hb with hb | ⟨k, hb⟩
  ·exact (h.st b hb).2.2
  ·exact h.bllt k b hb) (fun _ h => h) (fun _ _ h => h) rfl
 obtain ⟨g', σ', hr, h1, s1, e1, e2, e3, e4⟩ := K3 (b := w.heap.size) (o := 0) hgr (hx.step hst0 fun b hb => Lg (h.st b hb).2.2)
  (fun j v hv => by rw [Nat.zero_add, Fr Tf]; simpa using hv) ⟨_, te, Tf, by simp⟩ hnew
  (fun k' o' ha => by have := h.adlt ha; omega) hr
 refine ⟨g', σ', hr, h1, ⟨hst0.trans s1, fun b hb => ?_, fun b hb => ?_, fun q a ha => ?_, by rw [Qq]; omega, ⟨rfl, rfl, rfl⟩⟩, fun b hb _ => .inl (Lg hb).symm, rfl, ?_⟩
 ·unfold Own at hb ⊢; rw [e1] at hb; exact .inl hb
 ·rw [e2] at hb; exact .inl hb
 ·rcases e3 q a ha with h2 | h2
  ·exact .inl h2
  ·exact .inr (by rw [h2]; exact Nat.le_refl _)
 ·exact ⟨w.heap.size, 0, rfl, fun j hj => by have := e4 j hj; simpa using this⟩
theorem Zh {mem : Mem} : ∀ (t : Ty), LsR w g mem (enc .own t (Bl t)) (zv t) := by
 have key : ∀ (t : Ty), (zv t).length = wd t ∧ ∀ (i : Nat) (x : Leaf) (z : Value), (enc .own t (Bl t))[i]? = some x → (zv t)[i]? = some z → LfR w g mem x z [] := by
  intro t
  induction t with
  | pair a b iha ihb =>
   refine ⟨by simp [zv, wd, iha.1, ihb.1], fun i x z h1 h2 => ?_⟩
   simp only [enc, Bl, zv] at h1 h2
   by_cases hi : i < wd a
   ·rw [List.getElem?_append_left (by rw [Ba]; exact hi)] at h1
    rw [List.getElem?_append_left (by rw [iha.1]; exact hi)] at h2
    exact iha.2 i x z h1 h2
   ·rw [List.getElem?_append_right (by rw [Ba]; omega), Ba] at h1
    rw [List.getElem?_append_right (by rw [iha.1]; omega), iha.1] at h2
    exact ihb.2 _ x z h1 h2
  | sl e ih =>
   refine ⟨rfl, fun i x z h1 h2 => ?_⟩
   cases i with
   | succ i => simp [enc] at h1
   | zero =>
    simp [enc, zv] at h1 h2; subst h1; subst h2
    exact ⟨_, rfl, none, 0, rfl, Nat.le_refl _, fun _ => rfl, .inl ⟨.inl rfl, rfl, rfl, rfl⟩⟩
  | _ =>
   refine ⟨rfl, fun i x z h1 h2 => ?_⟩
   cases i with
   | succ i => simp [enc] at h1
   | zero => simp [enc, zv, Bl] at h1 h2; subst h1; subst h2; exact ⟨rfl, rfl⟩
 intro t
 exact ⟨by rw [(key t).1, Ba], (key t).2⟩
theorem Xdd {E : Env} (hE : ∀ t i, E.ty t = some i → TyOk P t i) (h : Rel w g σ ts []) {t d : Nat}
  {K : A → St → Option γ} (hr : (Xc0 E t d).run tab σ K = some r) :
  ∃ x v w' g' σ', K x σ' = some r ∧ (Instr.alloc t true (.tuple #[])).run P w = .ok v w' ∧ Rel w' g' σ' ts [] ∧ AR w' g' σ'.mem x v ∧ Mv w g σ [] w' g' σ' [] ∧ Frm w g w' := by
 unfold Xc0 at hr
 split at hr
 ·rename_i ty ag eb hty
  simp only [run_bind] at hr
  obtain ⟨f, hf, hsz, z, hz, hzc⟩ := (hE t _ hty).info
  simp only at hzc
  obtain ⟨g', σ', hr, h1, h2, h3, h4⟩ := Xog (te := t) h (Zh ty) hr
  have hcc : z.cells = (zv ty).toArray := by rw [← hzc]
  rw [Ba] at h4
  refine ⟨_, _, _, g', σ', hr, ?_, h1, h4, h2, h3⟩
  simp [Instr.alloc, zeroValue, G6 hf, hz, newVar, He, hcc]
 ·simp [Pg.run] at hr
theorem Xo2 {E : Env} (h : Rel w g σ ts []) {t d : Nat} {x : A} {y : Value} (hx : AR w g σ.mem x y)
  {K : A → St → Option γ} (hr : (X1n E t d x).run tab σ K = some r) :
  ∃ z v w' g' σ', K z σ' = some r ∧ (Instr.box t y).run P w = .ok v w' ∧ Rel w' g' σ' ts [] ∧ AR w' g' σ'.mem z v ∧ Mv w g σ [] w' g' σ' [] ∧ Frm w g w' := by
 unfold X1n at hr
 split at hr
 ·rename_i ty ag eb hty
  simp only [run_bind] at hr
  obtain ⟨xs, ys, hr, hls, hkind⟩ := Fb hx hr
  obtain ⟨hlit, hr⟩ := Ar hr
  have hlen := Nat.eq_of_beq_eq_true hlit
  have hvc : y.cells = ys.toArray := by
   rcases hkind with ⟨z, rfl, rfl, rfl, hok⟩ | ⟨rfl, rfl⟩
   ·rw [Fx (G3 hok hls.tail.1)]
   ·rfl
  obtain ⟨g', σ', hr, h1, h2, h3, h4⟩ := Xog (te := t) h hls hr
  rw [hlen] at h4
  refine ⟨_, _, _, g', σ', hr, ?_, h1, h4, h2, h3⟩
  simp [Instr.box, newVar, He, hvc]
 ·simp [Pg.run] at hr
end
end Go.Rf
end

section
set_option linter.unusedVariables false
set_option linter.unusedSimpArgs false
namespace Go.Rf
section
variable {P : Program} {w w' : World} {g : Gh} {σ : St} {ts : Array Value} {H : Hand} {tab : Tab} {γ : Type} {r : γ}
theorem Pl {cs : Array Value} {te : TypeId} (hw : w'.heap = w.heap.push (.cells cs te)) {b : Nat} (h : b < w.heap.size) : w'.heap[b]? = w.heap[b]? := by
 rw [hw, Array.getElem?_push, if_neg (by omega)]
theorem Zr {cs : Array Value} {te : TypeId} (hw : w'.heap = w.heap.push (.cells cs te)) : w'.heap[w.heap.size]? = some (.cells cs te (0, 0)) := by
 rw [hw, Array.getElem?_push_size]
theorem Nn {cs : Array Value} {te : TypeId} (hw : w'.heap = w.heap.push (.cells cs te)) : w'.heap.size = w.heap.size + 1 := by rw [hw]; simp
theorem Rel.old (h : Rel w g σ ts H) {b : Nat} (hb : g.S b ∨ Own g H b) : b < w.heap.size := by
 rcases hb with hb | ⟨k, hb⟩ | hb
 ·exact (h.st b hb).2.2
 ·exact h.bllt k b hb
 ·exact h.hdlt b hb
theorem Mv.push_world {cs : Array Value} {te : TypeId} (hw : w'.heap = w.heap.push (.cells cs te)) (hio : Io w w') (h : Rel w g σ ts H) : Mv w g σ H w' g σ H :=
 ⟨Step.world h (fun b hb => Pl hw (h.old (hb.imp id .inl))) (fun _ h => h) (fun _ _ h => h) rfl, fun _ h => .inl h, fun _ h => .inl h, fun _ _ h => .inl h, by rw [Nn hw]; omega, hio⟩
theorem Lp (h : Rel w g σ ts H) {cs : Array Value} {te : TypeId} (hw : w'.heap = w.heap.push (.cells cs te)) (hio : Io w w') {t : Ty} {m : Mode} {l : List (den t)} {c : Nat}
  (hm : m.isOwn = true) (hlc : l.length ≤ c) (hsz : c * wd t ≤ cs.size) {bss : List (List Nat)} (hbl : bss.length = l.length)
  (hsub : ∀ b ∈ bss.flatten, b ∈ H.bs) (hnd : bss.flatten.Nodup)
  (hel : ∀ (i : Nat) (x : den t) (b' : List Nat), l[i]? = some x → bss[i]? = some b' →
   ∃ vs : List Value, vs.length = wd t ∧ (∀ j, j < wd t → cs[i * wd t + j]? = vs[j]?) ∧ Rd w (fun b => g.S b ∨ b ∈ H.bs ∧ b ∉ bss.flatten) t m.nest x vs b') :
  ∃ g', Rel w' g' σ ts [(.s m t l, .slice (some ⟨w.heap.size, 0, none⟩) l.length c, w.heap.size :: bss.flatten)] ∧
   Mv w g σ H w' g' σ [(.s m t l, .slice (some ⟨w.heap.size, 0, none⟩) l.length c, w.heap.size :: bss.flatten)] ∧ (∀ b, g.S b → g'.S b) ∧ g'.ad = g.ad := by
 have hgr := h.grow (w' := w') (fun b hb => Pl hw hb) (by rw [Nn hw]; omega)
 have hHb : Hand.bs [(Leaf.s m t l, Value.slice (some ⟨w.heap.size, 0, none⟩) l.length c, w.heap.size :: bss.flatten)] = w.heap.size :: bss.flatten := by simp [Hand.bs]
 have hnew : w.heap.size ∉ H.bs := fun hb => by have := h.hdlt _ hb; omega
 have hF : ∀ b, b = w.heap.size → (∀ k, b ∉ g.bl k) ∧ ¬ g.S b ∧ ∀ k o, g.ad k ≠ some (b, o) := by
  rintro b rfl
  exact ⟨fun k hb => by have := h.bllt k _ hb; omega, fun hs => by have := (h.st _ hs).2.2; omega, fun k o ha => by have := h.adlt ha; omega⟩
 have hs : ∀ b ∈ Hand.bs [(Leaf.s m t l, Value.slice (some ⟨w.heap.size, 0, none⟩) l.length c, w.heap.size :: bss.flatten)], b ∈ H.bs ∨ b = w.heap.size := by
  intro b hb
  rw [hHb] at hb
  rcases List.mem_cons.1 hb with rfl | hb
  ·exact .inr rfl
  ·exact .inl (hsub b hb)
 refine ⟨_, hgr.rehand (fun b => b = w.heap.size) hF (fun b hb => by rw [hb, Nn hw]; omega) hs ?_ ?_, Mv.rehand hgr (fun b => b = w.heap.size) (fun b hb => by omega) hs (Mv.push_world hw hio h), fun b hb => .inl hb, rfl⟩
 ·rw [hHb]
  exact List.nodup_cons.2 ⟨fun hb => hnew (hsub _ hb), hnd⟩
 ·intro x hx
  have hx : x = _ := List.mem_singleton.1 hx
  subst hx
  refine ⟨_, rfl, some ⟨w.heap.size, 0, none⟩, c, rfl, hlc, fun h => absurd h (Hm hm), .inr ⟨w.heap.size, 0, bss, rfl, hbl, fun _ => ⟨rfl, cs, te, Zr hw, by omega⟩, fun (hf : m.isOwn = false) => absurd (hm.symm.trans hf) (by simp), by simp, ?_⟩⟩
  intro i x b' _ hx hb'
  obtain ⟨vs, h1, h2, h3⟩ := hel i x b' hx hb'
  refine ⟨vs, h1, fun j hj => by rw [Fr (Zr hw), Nat.zero_add]; exact h2 j hj, h3.imp ?_ fun b hb => Pl hw ?_⟩
  ·rintro b (hb | ⟨hb, hb'⟩)
   ·exact .inl hb
   ·refine .inr ⟨.inl hb, ?_⟩
    rw [hHb]
    intro hq
    rcases List.mem_cons.1 hq with rfl | hq
    ·exact hnew hb
    ·exact hb' hq
  ·rcases hb with (hb | ⟨hb, _⟩) | hb
   ·exact (h.st b hb).2.2
   ·exact h.hdlt b hb
   ·exact La h3 b hb
theorem Frm.push {cs : Array Value} {te : TypeId} (hw : w'.heap = w.heap.push (.cells cs te)) : Frm w g w' := fun b hb _ => .inl (Pl hw hb).symm
theorem Bt {x : Leaf} {y : Value} {bs : List Nat} (h : Rel w g σ ts ((x, y, bs) :: H)) {k : Nat} {K : Leaf → St → Option γ} (hr : (Cf k x).run tab σ K = some r) :
  ∃ z g' σ', K z σ' = some r ∧ Rel w g' σ' ts H ∧ Mv w g σ ((x, y, bs) :: H) w g' σ' H ∧ LfR w g' σ'.mem z y [] ∧ Eu z = Eu x ∧ g'.S = g.S := by
 have hx := h.hand (x, y, bs) List.mem_cons_self
 have hdrop : Mv w g σ ((x, y, bs) :: H) w g σ H := ⟨Step.refl _ _ _, fun b hb => .inl (hb.imp id fun hb => by rw [Hand.bs_cons]; exact List.mem_append_right _ hb), fun _ h => .inl h, fun _ _ h => .inl h, Nat.le_refl _, Io.refl _⟩
 cases x with
 | v z => exact ⟨_, g, σ, hr, h.drop, hdrop, ⟨hx.1, rfl⟩, rfl, rfl⟩
 | s m t l =>
  simp only [Cf] at hr
  have hrd : Rd w g.S (.sl t) m l [y] bs := hx
  cases hm : m.isOwn with
  | true =>
   rw [hm] at hr
   simp only [cond_true, run_bind, newRow, Pg.run] at hr
   cases he : σ.mem k with
   | some e => rw [he] at hr; simp [Pg.run] at hr
   | none =>
    rw [he] at hr
    simp only [Pg.run] at hr
    obtain ⟨ad, c, hy⟩ := Bz hrd
    refine ⟨_, _, _, hr, h.root he, ⟨Step.fresh he (fun _ h => h) (fun _ _ h => h) (fun q hq => Au _ _ hq), ?_, fun _ h => .inl h, fun _ _ h => .inl h, Nat.le_refl _, Io.refl _⟩, Rel.rootAlias ⟨ad, _, c, hy⟩, rfl, rfl⟩
    intro b hb
    left
    rcases hb with ⟨q, hq⟩ | hb
    ·by_cases hqk : q = k
     ·subst hqk; simp only [Ae] at hq; exact .inr (by rw [Hand.bs_cons]; exact List.mem_append_left _ hq)
     ·simp only [Au _ _ hqk] at hq; exact .inl ⟨q, hq⟩
    ·exact .inr (by rw [Hand.bs_cons]; exact List.mem_append_right _ hb)
  | false =>
   rw [hm] at hr
   simp only [cond_false, Pg.run] at hr
   have hb := Cw hrd hm
   subst hb
   exact ⟨_, g, σ, hr, h.drop, hdrop, hrd, rfl, rfl⟩
 | _ => exact hx.elim
theorem Pi {S : Nat → Prop} : ∀ (t : Ty) (m : Mode), Rd w S t m (Bl t) (zv t) []
 | .int k, m => ⟨rfl, rfl⟩
 | .bool, m => ⟨rfl, rfl⟩
 | .str, m => ⟨rfl, rfl⟩
 | .sl e, m => ⟨_, rfl, none, 0, rfl, Nat.le_refl _, fun _ => rfl, .inl ⟨.inl rfl, rfl, rfl, rfl⟩⟩
 | .pair a b, m => ⟨zv a, zv b, [], [], rfl, rfl, Pi a m, Pi b m⟩
theorem K9 : ∀ t, (zv t).length = wd t
 | .int k => rfl
 | .bool => rfl
 | .str => rfl
 | .sl e => rfl
 | .pair a b => by simp [zv, wd, K9 a, K9 b]
theorem Xg3 {E : Env} (hE : ∀ t i, E.ty t = some i → TyOk P t i) (h : Rel w g σ ts []) {t d : Nat} {x y : A} {u v : Value} (hx : AR w g σ.mem x u) (hy : AR w g σ.mem y v)
  {K : A → St → Option γ} (hr : (Xif E t d x y).run tab σ K = some r) :
  ∃ z q w' g' σ', K z σ' = some r ∧ (Instr.makeSlice t u v).run P w = .ok q w' ∧ Rel w' g' σ' ts [] ∧ AR w' g' σ'.mem z q ∧ Mv w g σ [] w' g' σ' [] ∧ Frm w g w' := by
 unfold Xif at hr
 split at hr
 ·rename_i e eb n c hty
  rw [run_bind] at hr
  obtain ⟨heb, hr⟩ := Ar hr
  have heb : 1 ≤ eb := Nat.le_of_ble_eq_true heb
  rcases G0 hr with ⟨hb, hr2⟩ | ⟨_, hr2⟩
  ·clear hr
   simp only [Bool.and_eq_true, decide_eq_true_eq] at hb
   obtain ⟨⟨h0, rfl⟩, hle⟩ := hb
   obtain ⟨te, f, hu, hf, hfs, hfb, zz, hz, hzc⟩ := (hE t _ hty).sl e rfl rfl
   simp only at hfb
   obtain ⟨rfl, _⟩ := (hx : u = _ ∧ _)
   obtain ⟨rfl, _⟩ := (hy : v = _ ∧ _)
   have hn63 : n ≤ 9223372036854775807 := by
    have h1 : n * 1 ≤ n * (eb : Int) := Int.mul_le_mul_of_nonneg_left (by omega) h0
    omega
   have hrun := run_make (P := P) w t te f zz hu hf hz .i64 .i64 n n h0 (Int.le_refl _) (by rw [hfb, Int.mul_comm]; omega) hn63
   have hzs : zz.cells.size = wd e := by rw [← Array.length_toList, hzc, K9]
   have hfr := Lp (m := .own) (t := e) (l := List.replicate n.toNat (Bl e)) (c := n.toNat) (bss := List.replicate n.toNat []) h
    (w' := w.alloc (.cells (madeCells zz.cells (n.toNat * f.size)) te)) (cs := madeCells zz.cells (n.toNat * f.size)) (te := te) rfl ⟨rfl, rfl, rfl⟩ rfl (by simp) (by rw [size_madeCells, hfs]; exact Nat.le_refl _)
    (by simp) (by simp) (by simp) (by
     intro i x b' hx hb'
     have hi : i < n.toNat := by have := (List.getElem?_eq_some_iff.1 hx).1; simpa using this
     rw [List.getElem?_replicate, if_pos hi] at hx hb'
     cases hx; cases hb'
     refine ⟨zv e, K9 e, fun j hj => ?_, Pi e _⟩
     have hlt : i * wd e + j < n.toNat * f.size := by
      rw [hfs]
      have := Nat.mul_le_mul_right (wd e) (show i + 1 ≤ n.toNat from hi)
      rw [Nat.add_mul, Nat.one_mul] at this
      omega
     have hmod : (i * wd e + j) % zz.cells.size = j := by rw [hzs, Nat.mul_comm, Nat.mul_add_mod]; exact Nat.mod_eq_of_lt hj
     have hjz : j < zz.cells.size := by omega
     simp only [madeCells, Array.getElem?_map]
     rw [Array.getElem?_range, if_pos hlt]
     simp only [Option.map_some, hmod, getElem!_pos zz.cells j hjz]
     rw [← hzc, Array.getElem?_toList, Array.getElem?_eq_getElem hjz])
   obtain ⟨g1, h1, m1, _, _⟩ := hfr
   rw [run_bind] at hr2
   obtain ⟨z', g2, σ2, hr, h2, m2, hl, _, _⟩ := Bt h1 hr2
   refine ⟨_, _, _, g2, σ2, hr, hrun, h2, ?_, m1.trans m2, Frm.push rfl⟩
   have : (List.replicate n.toNat (Bl e)).length = n.toNat := by simp
   rw [this] at hl
   exact hl
  ·simp [Pg.run] at hr2
 ·simp [Pg.run] at hr
end
end Go.Rf
end

section
set_option linter.unusedVariables false
set_option linter.unusedSimpArgs false
namespace Go.Rf
theorem H8 {α : Type} {n : Nat} : ∀ {vss : List (List α)}, (∀ v ∈ vss, v.length = n) → ∀ (i j : Nat), j < n → vss.flatten[i * n + j]? = (vss[i]?).bind fun v => v[j]?
 | [], _, i, j, _ => by simp
 | v :: vss, h, 0, j, hj => by
  have hv := h v (by simp)
  simp only [Nat.zero_mul, Nat.zero_add, List.flatten_cons]
  rw [List.getElem?_append_left (by omega)]
  simp
 | v :: vss, h, i + 1, j, hj => by
  have hv := h v (by simp)
  simp only [List.flatten_cons, List.getElem?_cons_succ]
  rw [List.getElem?_append_right (by rw [Nat.add_mul]; omega), ← H8 (fun u hu => h u (List.mem_cons_of_mem _ hu)) i j hj]
  congr 1
  rw [Nat.add_mul]; omega
theorem Ck {α : Type} {n : Nat} : ∀ {vss : List (List α)}, (∀ v ∈ vss, v.length = n) → vss.flatten.length = vss.length * n
 | [], _ => by simp
 | v :: vss, h => by
  simp only [List.flatten_cons, List.length_append, List.length_cons, h v (by simp), Ck (fun u hu => h u (List.mem_cons_of_mem _ hu))]
  rw [Nat.add_mul]; omega
section
variable {P : Program} {w w' : World} {g : Gh} {σ : St} {ts : Array Value} {H H' : Hand} {tab : Tab} {γ : Type} {r : γ}
theorem SlR.rows {S : Nat → Prop} {α : Type} {n : Nat} {m : Mode} {el : α → List Value → List Nat → Prop} {l : List α} {y : Value} {bs : List Nat}
  (h : SlR w S n m none el l y bs) : ∃ (vss : List (List Value)) (bss : List (List Nat)) (ad : Option Addr) (c : Nat), y = .slice ad l.length c ∧ l.length ≤ c ∧ (m = .rox → c = l.length) ∧
   vss.length = l.length ∧ bss.length = l.length ∧ (∀ v ∈ vss, v.length = n) ∧
   (∀ (i : Nat) (x : α) (v : List Value) (b' : List Nat), l[i]? = some x → vss[i]? = some v → bss[i]? = some b' → el x v b') ∧
   (((ad = none ∨ m.isOwn = false) ∧ l = [] ∧ c = 0 ∧ bs = []) ∨ ∃ b o, ad = some ⟨b, o, none⟩ ∧ (∀ j u, vss.flatten[j]? = some u → cellAt w b (o + j) = some u) ∧
    (m.isOwn = true → bs = b :: bss.flatten ∧ BlkOk w b (o + c * n)) ∧ (m.isOwn = false → bs = [] ∧ bss.flatten = [] ∧ (l ≠ [] → S b))) := by
 obtain ⟨ad, c, hy, hc, hx, hr⟩ := h
 rcases hr with ⟨h1, h2, h3, h4⟩ | ⟨b, o, bss, had, hlen, ho, hro, hh, hel⟩
 ·subst h2
  exact ⟨[], [], ad, c, hy, hc, hx, rfl, rfl, by simp, by simp, .inl ⟨h1, rfl, h3, h4⟩⟩
 have hch : ∀ i : Fin l.length, ∃ vs : List Value, vs.length = n ∧ (∀ j, j < n → cellAt w b (o + i.1 * n + j) = vs[j]?) ∧ el l[i] vs (bss[i.1]'(by rw [hlen]; exact i.2)) :=
  fun i => hel i.1 l[i] _ (by simp) (List.getElem?_eq_getElem i.2) (List.getElem?_eq_getElem (by rw [hlen]; exact i.2))
 let vss := (List.finRange l.length).map fun i => Classical.choose (hch i)
 have hvs : ∀ (i : Nat) (hi : i < l.length), vss[i]? = some (Classical.choose (hch ⟨i, hi⟩)) := by
  intro i hi
  simp only [vss, List.getElem?_map]
  rw [List.getElem?_eq_getElem (by simpa using hi)]
  simp
 have hvl : ∀ v ∈ vss, v.length = n := by
  intro v hv
  simp only [vss, List.mem_map] at hv
  obtain ⟨i, _, rfl⟩ := hv
  exact (Classical.choose_spec (hch i)).1
 refine ⟨vss, bss, ad, c, hy, hc, hx, by simp [vss], hlen, hvl, ?_, .inr ⟨b, o, had, ?_, ho, hro⟩⟩
 ·intro i x v b' h1 h2 h3
  have hi : i < l.length := (List.getElem?_eq_some_iff.1 h1).1
  rw [hvs i hi] at h2
  rw [List.getElem?_eq_getElem hi] at h1
  rw [List.getElem?_eq_getElem (by rw [hlen]; exact hi)] at h3
  cases h1; cases h2; cases h3
  exact (Classical.choose_spec (hch ⟨i, hi⟩)).2.2
 ·intro j u hu
  have hj : j < l.length * n := by
   have := (List.getElem?_eq_some_iff.1 hu).1
   rw [Ck hvl] at this
   simpa [vss] using this
  have hn : 0 < n := by
   cases n with
   | zero => simp at hj
   | succ n => omega
  have hdm : j / n * n + j % n = j := by rw [Nat.mul_comm]; exact Nat.div_add_mod j n
  have hi : j / n < l.length := (Nat.div_lt_iff_lt_mul hn).2 hj
  have hm := Nat.mod_lt j hn
  rw [← hdm, H8 hvl _ _ hm, hvs _ hi] at hu
  simp only [Option.bind_some] at hu
  have h2 := (Classical.choose_spec (hch ⟨j / n, hi⟩)).2.1 (j % n) hm
  rw [hu] at h2
  rw [← h2]
  congr 1
  simp only
  omega
theorem Rel.rehandW (h : Rel w g σ ts H) (hw : ∀ q, q ∉ H.bs → q < w.heap.size → w'.heap[q]? = w.heap[q]?) (hsz : w.heap.size ≤ w'.heap.size) (hio : Io w w')
  (hs : ∀ b ∈ H'.bs, b ∈ H.bs) (hnd : H'.bs.Nodup) (hand : ∀ x ∈ H', LfV w' (fun b => g.S b ∨ b ∈ H.bs ∧ b ∉ H'.bs) x.1 x.2.1 x.2.2) :
  Rel w' { g with S := fun b => g.S b ∨ b ∈ H.bs ∧ b ∉ H'.bs } σ ts H' ∧ Mv w g σ H w' { g with S := fun b => g.S b ∨ b ∈ H.bs ∧ b ∉ H'.bs } σ H' := by
 have hold : ∀ b, (g.S b ∨ ∃ k, b ∈ g.bl k) → w'.heap[b]? = w.heap[b]? := by
  intro b hb
  refine hw b (fun hh => ?_) (h.old (hb.imp id .inl))
  rcases hb with hb | ⟨k, hb⟩
  ·exact (h.st b hb).2.1 hh
  ·exact h.hdj k b hb hh
 have hst : Step w g σ.mem w' { g with S := fun b => g.S b ∨ b ∈ H.bs ∧ b ∉ H'.bs } σ.mem := Step.world h hold (fun b hb => .inl hb) (fun _ _ h => h) rfl
 refine ⟨⟨fun k e he => (h.mem k e he).step hst fun b hb => hold b (hb.imp id fun h => ⟨k, h⟩), ?_, h.inj, h.pres, fun t => (h.tmps t).step hst fun b hb => hold b (.inl hb), h.len, h.nd, h.dj, ?_, ?_, hnd, fun k b hb hb' => h.hdj k b hb (hs b hb'), hand⟩,
  hst, fun b hb => .inl (hb.imp id fun hb => hs b hb), fun b hb => ?_, fun _ _ h => .inl h, hsz, hio⟩
 ·intro k b o ha
  obtain ⟨h1, h2⟩ := h.cell k b o ha
  have := hw b (h.box k b o ha).2.1 (h.adlt ha)
  exact ⟨(A2 this).trans h1, h2.same this⟩
 ·intro k b o ha
  obtain ⟨h1, h2, h3⟩ := h.box k b o ha
  exact ⟨h1, fun hb => h2 (hs b hb), fun hb => hb.elim h3 fun h4 => h2 h4.1⟩
 ·rintro b (hb | ⟨hb, hb'⟩)
  ·exact ⟨(h.st b hb).1, fun h4 => (h.st b hb).2.1 (hs b h4), Nat.lt_of_lt_of_le (h.st b hb).2.2 hsz⟩
  ·exact ⟨fun k hk => h.hdj k b hk hb, hb', Nat.lt_of_lt_of_le (h.hdlt b hb) hsz⟩
 ·rcases hb with hb | ⟨hb, _⟩
  ·exact .inl hb
  ·exact .inr (.inl (.inr hb))
theorem Xe0 {S S' : Nat → Prop} {m m' : Mode} : ∀ {t : Ty} {x : den t} {vs : List Value} {bs : List Nat}, A8 t = false → Rd w S t m x vs bs → bs = [] ∧ Rd w S' t m' x vs [] := by
 intro t
 induction t with
 | int k => rintro x vs bs _ ⟨h1, h2⟩; exact ⟨h2, h1, rfl⟩
 | bool => rintro x vs bs _ ⟨h1, h2⟩; exact ⟨h2, h1, rfl⟩
 | str => rintro x vs bs _ ⟨h1, h2⟩; exact ⟨h2, h1, rfl⟩
 | sl e ih => intro x vs bs h; simp [A8] at h
 | pair a b iha ihb =>
  rintro x vs bs h ⟨v1, v2, b1, b2, rfl, rfl, h1, h2⟩
  simp only [A8, Bool.or_eq_false_iff] at h
  obtain ⟨rfl, g1⟩ := iha h.1 h1
  obtain ⟨rfl, g2⟩ := ihb h.2 h2
  exact ⟨rfl, v1, v2, [], [], rfl, rfl, g1, g2⟩
theorem Xou {S : Nat → Prop} {t : Ty} {x : den t} {vs : List Value} {bs : List Nat} {mi M : Mode} (h : Rd w S t mi.nest x vs bs) (hM : M.isOwn = true)
  (hc : M = .own → mi = .own ∨ A8 t = false) : ∃ bs', List.Sublist bs' bs ∧ Rd w (fun b => S b ∨ b ∈ bs ∧ b ∉ bs') t M.nest x vs bs' := by
 cases M with
 | own =>
  rcases hc rfl with rfl | hs
  ·exact ⟨bs, List.Sublist.refl _, h.imp (fun _ hb => .inl hb) fun _ _ => rfl⟩
  ·exact ⟨[], List.nil_sublist _, (Xe0 hs h).2⟩
 | sown => exact ⟨[], List.nil_sublist _, h.toRo.imp (fun b hb => hb.imp id fun h => ⟨h, by simp⟩) fun _ _ => rfl⟩
 | _ => simp [Mode.isOwn] at hM
theorem Nz {S : Nat → Prop} {t : Ty} {M : Mode} (hM : M.isOwn = true) : ∀ {l : List (den t)} {vss : List (List Value)} {bss : List (List Nat)} {mi : Nat → Mode},
  vss.length = l.length → bss.length = l.length → (∀ i, M = .own → mi i = .own ∨ A8 t = false) →
  (∀ (i : Nat) (x : den t) (v : List Value) (b' : List Nat), l[i]? = some x → vss[i]? = some v → bss[i]? = some b' → Rd w S t (mi i).nest x v b') → bss.flatten.Nodup →
  ∃ bss' : List (List Nat), bss'.length = l.length ∧ List.Sublist bss'.flatten bss.flatten ∧
   ∀ (i : Nat) (x : den t) (v : List Value) (b' : List Nat), l[i]? = some x → vss[i]? = some v → bss'[i]? = some b' → Rd w (fun b => S b ∨ b ∈ bss.flatten ∧ b ∉ bss'.flatten) t M.nest x v b'
 | [], vss, bss, mi, h1, h2, hc, h, hnd => ⟨[], rfl, by simp, by simp⟩
 | x :: l, v :: vss, b :: bss, mi, h1, h2, hc, h, hnd => by
  simp only [List.flatten_cons] at hnd
  obtain ⟨n1, n2, n3⟩ := List.nodup_append.1 hnd
  obtain ⟨b', s1, r1⟩ := Xou (h 0 x v b rfl rfl rfl) hM (hc 0)
  obtain ⟨bss', l1, s2, r2⟩ := Nz hM (l := l) (vss := vss) (bss := bss) (mi := fun i => mi (i + 1)) (by simpa using h1) (by simpa using h2) (fun i => hc (i + 1))
   (fun i x v b' a1 a2 a3 => h (i + 1) x v b' (by simpa using a1) (by simpa using a2) (by simpa using a3)) n2
  refine ⟨b' :: bss', by simp [l1], by simp only [List.flatten_cons]; exact s1.append s2, fun i y u c a1 a2 a3 => ?_⟩
  cases i with
  | zero =>
   simp at a1 a2 a3
   subst a1; subst a2; subst a3
   refine r1.imp (fun q hq => ?_) fun _ _ => rfl
   rcases hq with hq | ⟨hq, hq'⟩
   ·exact .inl hq
   ·refine .inr ⟨by simp [hq], ?_⟩
    simp only [List.flatten_cons, List.mem_append, not_or]
    exact ⟨hq', fun h5 => n3 q hq q (s2.subset h5) rfl⟩
  | succ i =>
   have := r2 i y u c (by simpa using a1) (by simpa using a2) (by simpa using a3)
   refine this.imp (fun q hq => ?_) fun _ _ => rfl
   rcases hq with hq | ⟨hq, hq'⟩
   ·exact .inl hq
   ·refine .inr ⟨by simp only [List.flatten_cons, List.mem_append]; exact .inr hq, ?_⟩
    simp only [List.flatten_cons, List.mem_append, not_or]
    exact ⟨fun h5 => n3 q (s1.subset h5) q hq rfl, hq'⟩
 | x :: l, [], bss, mi, h1, h2, hc, h, hnd => by simp at h1
 | x :: l, v :: vss, [], mi, h1, h2, hc, h, hnd => by simp at h2
end
end Go.Rf
end

section
set_option linter.unusedVariables false
set_option linter.unusedSimpArgs false
namespace Go.Rf
section
variable {P : Program} {w w' : World} {g : Gh} {σ : St} {ts : Array Value} {H H' : Hand} {tab : Tab} {γ : Type} {r : γ}
theorem Xv (h : Rel w g σ ts H) {e : Ty} {l0 l1 : List (den e)} {vss0 vss1 : List (List Value)} {bss0 bss1 : List (List Nat)} {m0 m1 M : Mode}
  (a0 : vss0.length = l0.length) (a1 : vss1.length = l1.length) (b0 : bss0.length = l0.length) (b1 : bss1.length = l1.length)
  (hv0 : ∀ v ∈ vss0, v.length = wd e) (hv1 : ∀ v ∈ vss1, v.length = wd e)
  (e0 : ∀ (i : Nat) (x : den e) (v : List Value) (b' : List Nat), l0[i]? = some x → vss0[i]? = some v → bss0[i]? = some b' → Rd w g.S e m0.nest x v b')
  (e1 : ∀ (i : Nat) (x : den e) (v : List Value) (b' : List Nat), l1[i]? = some x → vss1[i]? = some v → bss1[i]? = some b' → Rd w g.S e m1.nest x v b')
  (hM : M.isOwn = true) (hc0 : M = .own → m0 = .own ∨ A8 e = false) (hc1 : M = .own → m1 = .own ∨ A8 e = false)
  (hsub : ∀ b ∈ (bss0 ++ bss1).flatten, b ∈ H.bs) (hnd : (bss0 ++ bss1).flatten.Nodup)
  {zs : Array Value} {te : TypeId} {c : Nat} (hw : w'.heap = w.heap.push (.cells (vss0.flatten.toArray ++ vss1.flatten.toArray ++ zs) te)) (hio : Io w w')
  (hlc : l0.length + l1.length ≤ c) (hsz : c * wd e ≤ (vss0.flatten.toArray ++ vss1.flatten.toArray ++ zs).size) :
  ∃ g' bs', Rel w' g' σ ts [(.s M e (l0 ++ l1), .slice (some ⟨w.heap.size, 0, none⟩) (l0 ++ l1).length c, bs')] ∧
   Mv w g σ H w' g' σ [(.s M e (l0 ++ l1), .slice (some ⟨w.heap.size, 0, none⟩) (l0 ++ l1).length c, bs')] ∧ (∀ b, g.S b → g'.S b) ∧ g'.ad = g.ad := by
 have hv : ∀ v ∈ vss0 ++ vss1, v.length = wd e := fun v hv => (List.mem_append.1 hv).elim (hv0 v) (hv1 v)
 obtain ⟨bss', l', s', r'⟩ := Nz (w := w) (S := g.S) hM (l := l0 ++ l1) (vss := vss0 ++ vss1) (bss := bss0 ++ bss1) (mi := fun i => if i < l0.length then m0 else m1)
  (by simp [a0, a1]) (by simp [b0, b1]) (fun i hMo => by split; exact hc0 hMo; exact hc1 hMo) (fun i x v b' h1 h2 h3 => by
   by_cases hi : i < l0.length
   ·rw [if_pos hi]
    rw [List.getElem?_append_left hi] at h1
    rw [List.getElem?_append_left (by omega)] at h2 h3
    exact e0 i x v b' h1 h2 h3
   ·rw [if_neg hi]
    rw [List.getElem?_append_right (by omega)] at h1 h2 h3
    rw [a0] at h2; rw [b0] at h3
    exact e1 _ x v b' h1 h2 h3) hnd
 obtain ⟨g', h1, m1', h2, h3⟩ := Lp (m := M) (l := l0 ++ l1) (c := c) (bss := bss') h hw hio hM (by simpa using hlc) hsz l' (fun b hb => hsub b (s'.subset hb)) (List.Nodup.sublist s' hnd)
  (fun i x b' hx hb' => by
   have hi : i < (vss0 ++ vss1).length := by
    have := (List.getElem?_eq_some_iff.1 hx).1
    simp only [List.length_append] at this ⊢; omega
   refine ⟨(vss0 ++ vss1)[i], hv _ (List.getElem_mem hi), fun j hj => ?_, ?_⟩
   ·have hlt : i * wd e + j < (vss0 ++ vss1).flatten.length := by
     rw [Ck hv]
     have := Nat.mul_le_mul_right (wd e) (show i + 1 ≤ (vss0 ++ vss1).length from hi)
     rw [Nat.add_mul, Nat.one_mul] at this
     omega
    have hcs : (vss0.flatten.toArray ++ vss1.flatten.toArray ++ zs)[i * wd e + j]? = (vss0 ++ vss1).flatten[i * wd e + j]? := by
     rw [← Array.getElem?_toList]
     simp only [Array.toList_append, List.append_assoc]
     rw [← List.append_assoc, List.getElem?_append_left (by simpa [List.flatten_append] using hlt)]
     simp [List.flatten_append]
    rw [hcs, H8 hv i j hj, List.getElem?_eq_getElem hi]
    rfl
   ·refine (r' i x _ b' hx (List.getElem?_eq_getElem hi) hb').imp (fun q hq => ?_) fun _ _ => rfl
    exact hq.imp id fun hq => ⟨hsub q hq.1, hq.2⟩)
 exact ⟨g', _, h1, m1', h2, h3⟩
theorem Xbc (h : Rel w g σ ts H) {e : Ty} {l0 l1 : List (den e)} {vss0 vss1 : List (List Value)} {bss0 bss1 : List (List Nat)} {m0 m1 M : Mode} {b o c : Nat}
  (a0 : vss0.length = l0.length) (a1 : vss1.length = l1.length) (b0 : bss0.length = l0.length) (b1 : bss1.length = l1.length)
  (hv0 : ∀ v ∈ vss0, v.length = wd e) (hv1 : ∀ v ∈ vss1, v.length = wd e)
  (e0 : ∀ (i : Nat) (x : den e) (v : List Value) (b' : List Nat), l0[i]? = some x → vss0[i]? = some v → bss0[i]? = some b' → Rd w g.S e m0.nest x v b')
  (e1 : ∀ (i : Nat) (x : den e) (v : List Value) (b' : List Nat), l1[i]? = some x → vss1[i]? = some v → bss1[i]? = some b' → Rd w g.S e m1.nest x v b')
  (hM : M.isOwn = true) (hc0 : M = .own → m0 = .own ∨ A8 e = false) (hc1 : M = .own → m1 = .own ∨ A8 e = false)
  (hsub : ∀ q ∈ b :: (bss0 ++ bss1).flatten, q ∈ H.bs) (hnd : (b :: (bss0 ++ bss1).flatten).Nodup)
  (hold : ∀ j u, vss0.flatten[j]? = some u → cellAt w b (o + j) = some u) (hblk : BlkOk w b (o + c * wd e)) (hlc : l0.length + l1.length ≤ c)
  (hone : ∀ v ∈ vss1.flatten, v.oneCell' = true) :
  ∃ w' g' bs', (storeCells ⟨b, o + l0.length * wd e, none⟩ vss1.flatten 0).run P w = .ok () w' ∧
   Rel w' g' σ ts [(.s M e (l0 ++ l1), .slice (some ⟨b, o, none⟩) (l0 ++ l1).length c, bs')] ∧
   Mv w g σ H w' g' σ [(.s M e (l0 ++ l1), .slice (some ⟨b, o, none⟩) (l0 ++ l1).length c, bs')] ∧ (∀ q, q ≠ b → w'.heap[q]? = w.heap[q]?) := by
 have hv : ∀ v ∈ vss0 ++ vss1, v.length = wd e := fun v hv => (List.mem_append.1 hv).elim (hv0 v) (hv1 v)
 obtain ⟨hb0, hnd'⟩ := List.nodup_cons.1 hnd
 have hbH : b ∈ H.bs := hsub b List.mem_cons_self
 have hlen1 : vss1.flatten.length = l1.length * wd e := by rw [Ck hv1, a1]
 have hcm : l0.length * wd e + l1.length * wd e ≤ c * wd e := by rw [← Nat.add_mul]; exact Nat.mul_le_mul_right _ hlc
 obtain ⟨w', hrun, hq, hblk', hcell, hsz, hio⟩ := Dq (P := P) (b := b) (o := o + l0.length * wd e) (vs := vss1.flatten) (i := 0) (w := w)
  (by obtain ⟨cs, te, x1, x2⟩ := hblk; exact ⟨cs, te, x1, by rw [hlen1]; omega⟩) hone
 simp only [Nat.add_zero] at hcell
 obtain ⟨bss', l', s', r'⟩ := Nz (w := w) (S := g.S) hM (l := l0 ++ l1) (vss := vss0 ++ vss1) (bss := bss0 ++ bss1) (mi := fun i => if i < l0.length then m0 else m1)
  (by simp [a0, a1]) (by simp [b0, b1]) (fun i hMo => by split; exact hc0 hMo; exact hc1 hMo) (fun i x v b' h1 h2 h3 => by
   by_cases hi : i < l0.length
   ·rw [if_pos hi]
    rw [List.getElem?_append_left hi] at h1
    rw [List.getElem?_append_left (by omega)] at h2 h3
    exact e0 i x v b' h1 h2 h3
   ·rw [if_neg hi]
    rw [List.getElem?_append_right (by omega)] at h1 h2 h3
    rw [a0] at h2; rw [b0] at h3
    exact e1 _ x v b' h1 h2 h3) hnd'
 have hHb : Hand.bs [(Leaf.s M e (l0 ++ l1), Value.slice (some ⟨b, o, none⟩) (l0 ++ l1).length c, b :: bss'.flatten)] = b :: bss'.flatten := by simp [Hand.bs]
 have hb' : b ∉ bss'.flatten := fun hq => hb0 (s'.subset hq)
 obtain ⟨h1, m1'⟩ := h.rehandW (w' := w') (H' := [(.s M e (l0 ++ l1), .slice (some ⟨b, o, none⟩) (l0 ++ l1).length c, b :: bss'.flatten)])
  (fun q hq1 _ => hq q (by rintro rfl; exact hq1 hbH)) (by omega) hio
  (fun q hq1 => by
   rw [hHb] at hq1
   rcases List.mem_cons.1 hq1 with rfl | hq1
   ·exact hbH
   ·exact hsub q (List.mem_cons_of_mem _ (s'.subset hq1)))
  (by rw [hHb]; exact List.nodup_cons.2 ⟨hb', List.Nodup.sublist s' hnd'⟩)
  (fun x hx => by
   have hx : x = _ := List.mem_singleton.1 hx
   subst hx
   refine ⟨_, rfl, some ⟨b, o, none⟩, c, rfl, by simpa using hlc, fun h => absurd h (Hm hM), .inr ⟨b, o, bss', rfl, l', fun _ => ⟨rfl, hblk' _ hblk⟩, fun (hf : M.isOwn = false) => absurd (hM.symm.trans hf) (by simp), by simp, ?_⟩⟩
   intro i x b' _ hx hb2
   have hi : i < (vss0 ++ vss1).length := by
    have := (List.getElem?_eq_some_iff.1 hx).1
    simp only [List.length_append] at this ⊢; omega
   refine ⟨(vss0 ++ vss1)[i], hv _ (List.getElem_mem hi), fun j hj => ?_, ?_⟩
   ·have hg := H8 hv i j hj
    rw [List.getElem?_eq_getElem hi] at hg
    simp only [Option.bind_some] at hg
    rw [← hg, hcell]
    by_cases hi0 : i < l0.length
    ·have hlt : i * wd e + j < l0.length * wd e := by
      have := Nat.mul_le_mul_right (wd e) (show i + 1 ≤ l0.length from hi0)
      rw [Nat.add_mul, Nat.one_mul] at this
      omega
     rw [if_neg (by omega)]
     have hlt' : i * wd e + j < vss0.flatten.length := by rw [Ck hv0, a0]; exact hlt
     rw [List.flatten_append, List.getElem?_append_left hlt', List.getElem?_eq_getElem hlt', show o + i * wd e + j = o + (i * wd e + j) by omega]
     exact hold _ _ (List.getElem?_eq_getElem hlt')
    ·have hge : l0.length * wd e ≤ i * wd e := Nat.mul_le_mul_right _ (by omega)
     have hlt : i * wd e + j < l0.length * wd e + l1.length * wd e := by
      have h5 : i < l0.length + l1.length := by simpa [a0, a1] using hi
      have := Nat.mul_le_mul_right (wd e) (show i + 1 ≤ l0.length + l1.length from h5)
      rw [Nat.add_mul, Nat.one_mul, Nat.add_mul] at this
      omega
     rw [if_pos (by rw [hlen1]; omega), List.flatten_append, List.getElem?_append_right (by rw [Ck hv0, a0]; omega)]
     congr 1
     rw [Ck hv0, a0]; omega
   ·refine (r' i x _ b' hx (List.getElem?_eq_getElem hi) hb2).imp (fun q hq1 => ?_) fun q hq1 => hq q ?_
    ·rcases hq1 with hq1 | ⟨hq1, hq2⟩
     ·exact .inl hq1
     ·refine .inr ⟨hsub q (List.mem_cons_of_mem _ hq1), ?_⟩
      rw [hHb]
      intro h5
      rcases List.mem_cons.1 h5 with rfl | h5
      ·exact hb0 hq1
      ·exact hq2 h5
    ·rintro rfl
     rcases hq1 with (hq1 | ⟨hq1, _⟩) | hq1
     ·exact (h.st q hq1).2.1 hbH
     ·exact hb0 hq1
     ·exact hb' (List.mem_flatten.2 ⟨b', List.mem_of_getElem? hb2, hq1⟩))
 exact ⟨w', _, _, hrun, h1, m1', hq⟩
end
end Go.Rf
end

section
set_option linter.unusedVariables false
set_option linter.unusedSimpArgs false
namespace Go.Rf
theorem W7 (a b : Mode) : (Ge a b).isOwn = true := by cases a <;> cases b <;> rfl
theorem Oo {a b : Mode} (h : Ge a b = .own) : a = .own ∧ b = .own := by cases a <;> cases b <;> simp_all [Ge]
structure RowsOk (w : World) (S : Nat → Prop) (e : Ty) (m : Mode) (l : List (den e)) (v : Value) (vss : List (List Value)) (bss : List (List Nat)) : Prop where
 a : vss.length = l.length
 b : bss.length = l.length
 hv : ∀ u ∈ vss, u.length = wd e
 el : ∀ (i : Nat) (x : den e) (u : List Value) (b' : List Nat), l[i]? = some x → vss[i]? = some u → bss[i]? = some b' → Rd w S e m.nest x u b'
 hd : ∃ ad c, v = .slice ad l.length c ∧ l.length ≤ c ∧ (((ad = none ∨ m.isOwn = false) ∧ l = [] ∧ c = 0) ∨ ∃ b o, ad = some ⟨b, o, none⟩ ∧ ∀ j u, vss.flatten[j]? = some u → cellAt w b (o + j) = some u)
section
variable {P : Program} {w : World} {g : Gh} {σ : St} {ts : Array Value} {H : Hand} {tab : Tab} {γ : Type} {r : γ}
theorem RowsOk.nil {S : Nat → Prop} {e : Ty} {m : Mode} : RowsOk w S e m [] (.slice none 0 0) [] [] :=
 ⟨rfl, rfl, by simp, by simp, none, 0, rfl, Nat.le_refl _, .inl ⟨.inl rfl, rfl, rfl⟩⟩
theorem RowsOk.imp {S S' : Nat → Prop} {e : Ty} {m : Mode} {l : List (den e)} {v : Value} {vss : List (List Value)} {bss : List (List Nat)} (h : RowsOk w S e m l v vss bss)
  (hS : ∀ b, S b → S' b) : RowsOk w S' e m l v vss bss :=
 ⟨h.a, h.b, h.hv, fun i x u b' h1 h2 h3 => (h.el i x u b' h1 h2 h3).imp hS fun _ _ => rfl, h.hd⟩
theorem M5 {S : Nat → Prop} {e : Ty} {m : Mode} {l : List (den e)} {v : Value} {bs : List Nat} (h : Rd w S (.sl e) m l [v] bs) (hnd : bs.Nodup) :
  ∃ vss bss, RowsOk w S e m l v vss bss ∧ (∀ q ∈ bss.flatten, q ∈ bs) ∧ bss.flatten.Nodup ∧
   (m.isOwn = true → ∀ b o c, v = .slice (some ⟨b, o, none⟩) l.length c → bs = b :: bss.flatten ∧ BlkOk w b (o + c * wd e)) ∧ (m = .rox → ∃ ad, v = .slice ad l.length l.length) := by
 obtain ⟨y, hy, hs⟩ := h
 simp only [List.cons.injEq, and_true] at hy
 subst hy
 obtain ⟨vss, bss, ad, c, hv, hc, hx, l1, l2, hvl, hel, hr⟩ := hs.rows
 refine ⟨vss, bss, ⟨l1, l2, hvl, hel, ad, c, hv, hc, ?_⟩, ?_, ?_, ?_, fun hm => ⟨ad, by rw [hv, hx hm]⟩⟩
 ·rcases hr with ⟨h1, h2, h3, _⟩ | ⟨b, o, h1, h2, _⟩
  ·exact .inl ⟨h1, h2, h3⟩
  ·exact .inr ⟨b, o, h1, h2⟩
 ·intro q hq
  rcases hr with ⟨_, h2, _, _⟩ | ⟨b, o, _, _, h3, h4⟩
  ·subst h2
   have : bss = [] := List.length_eq_zero_iff.1 l2
   subst this; cases hq
  ·cases hm : m.isOwn with
   | true => rw [(h3 hm).1]; exact List.mem_cons_of_mem _ hq
   | false => rw [(h4 hm).2.1] at hq; cases hq
 ·rcases hr with ⟨_, h2, _, _⟩ | ⟨b, o, _, _, h3, h4⟩
  ·subst h2
   have : bss = [] := List.length_eq_zero_iff.1 l2
   subst this; simp
  ·cases hm : m.isOwn with
   | true => rw [(h3 hm).1] at hnd; exact (List.nodup_cons.1 hnd).2
   | false => rw [(h4 hm).2.1]; simp
 ·intro hm b o c' he
  rcases hr with ⟨h1, _, _, _⟩ | ⟨b', o', h1, _, h3, h4⟩
  ·rcases h1 with h1 | h1
   ·rw [hv, h1] at he; simp at he
   ·rw [hm] at h1; cases h1
  ·rw [hv, h1] at he
   simp only [Value.slice.injEq, Option.some.injEq, Addr.mk.injEq, and_true, true_and] at he
   obtain ⟨⟨rfl, rfl⟩, rfl⟩ := he
   exact h3 hm
theorem Qh {t te : Nat} {f : TypeInfo} {zz : Value} {ty : TypeId} (hu : P.underlying t = some (.slice te)) (hf : P.info? te = some f) (hz : f.zero = some zz)
  {e : Ty} (hfs : f.size = wd e) (hzs : zz.cells.size = wd e)
  {S0 S1 : Nat → Prop} {m0 m1 : Mode} {l0 l1 : List (den e)} {u v : Value} {vss0 vss1 : List (List Value)} {bss0 bss1 : List (List Nat)}
  (r0 : RowsOk w S0 e m0 l0 u vss0 bss0) (r1 : RowsOk w S1 e m1 l1 v vss1 bss1) {c0 : Nat} {ad0 : Option Addr} (hu0 : u = .slice ad0 l0.length c0) (hneed : c0 < l0.length + l1.length)
  (heb : 1 ≤ f.bytes) (hb : (l0.length + l1.length) * f.bytes ≤ 140737488355328) :
  ∃ w' c zs, (Builtin.append_ #[t, t] ty #[u, v]).run P w = .ok (.slice (some ⟨w.heap.size, 0, none⟩) (l0 ++ l1).length c) w' ∧
   w'.heap = w.heap.push (.cells (vss0.flatten.toArray ++ vss1.flatten.toArray ++ zs) te) ∧ l0.length + l1.length ≤ c ∧ c * wd e ≤ (vss0.flatten.toArray ++ vss1.flatten.toArray ++ zs).size ∧ Io w w' := by
 obtain ⟨ad, c, hv0, hlc, hd0⟩ := r0.hd
 rw [hu0] at hv0
 simp only [Value.slice.injEq, true_and] at hv0
 obtain ⟨rfl, rfl⟩ := hv0
 obtain ⟨ad1, c1, rfl, hlc1, hd1⟩ := r1.hd
 have hn1 : 0 < l1.length := by omega
 have hsmall : (l0.length + l1.length) * 1 ≤ (l0.length + l1.length) * f.bytes := Nat.mul_le_mul_left _ heb
 rcases hd1 with ⟨_, h1, _⟩ | ⟨b1, o1, rfl, hl1⟩
 ·rw [h1] at hn1; simp at hn1
 have hnl : vss1.flatten.length = l1.length * f.size := by rw [Ck r1.hv, r1.a, hfs]
 have hload1 : ∀ j x, vss1.flatten[j]? = some x → w.cell? ((⟨b1, o1, none⟩ : Addr).add j) = some x := fun j x hx => by rw [Bn]; exact hl1 j x hx
 subst hu0
 rcases hd0 with ⟨_, hl0, rfl⟩ | ⟨b0, o0, rfl, hl0⟩
 ·subst hl0
  have hv0 : vss0 = [] := List.length_eq_zero_iff.1 r0.a
  subst hv0
  have hge := grownCap_ge w l1.length 0 te
  cases ad0 with
  | some a0 =>
   have hge := grownCap_ge w (0 + l1.length) 0 te
   refine ⟨w.drew.alloc (.cells (([] : List Value).toArray ++ vss1.flatten.toArray ++ Builtin.zeroCells zz.cells (grownCap w (0 + l1.length) 0 te - (0 + l1.length))) te),
    grownCap w (0 + l1.length) 0 te, Builtin.zeroCells zz.cells (grownCap w (0 + l1.length) 0 te - (0 + l1.length)), ?_, ?_, ?_, ?_, ⟨rfl, rfl, rfl⟩⟩
   ·simpa using run_append_grow (P := P) w t ty te f zz hu hf hz a0 0 0 [] (by simp) (fun j x hx => by simp at hx) ⟨b1, o1, none⟩ l1.length c1 vss1.flatten hnl hload1 (by omega)
     (by omega) (growslice_fits (by omega) (by simpa using hb))
   ·show (World.alloc _ _).heap = _
    simp [World.alloc, heap_drew]
   ·simpa using hge
   ·simp only [Array.size_append, List.size_toArray, size_zeroCells, hzs, hnl, hfs, List.length_nil, List.flatten_nil]
    simp only [Nat.zero_add] at hge ⊢
    rw [← Nat.add_mul]
    exact Nat.mul_le_mul_right _ (by omega)
  | none =>
   refine ⟨w.drew.alloc (.cells (vss1.flatten.toArray ++ Builtin.zeroCells zz.cells (grownCap w l1.length 0 te - l1.length)) te), grownCap w l1.length 0 te,
    Builtin.zeroCells zz.cells (grownCap w l1.length 0 te - l1.length), ?_, ?_, ?_, ?_, ⟨rfl, rfl, rfl⟩⟩
   ·simpa using run_append_nil (P := P) w t ty te f zz hu hf hz ⟨b1, o1, none⟩ l1.length c1 vss1.flatten hnl hload1 hn1 (by omega) (by simp at hb; omega)
   ·show (World.alloc _ _).heap = _
    simp [World.alloc, heap_drew]
   ·simpa using hge
   ·simp only [List.flatten_nil, Array.size_append, List.size_toArray, List.length_nil, size_zeroCells, hzs, hnl, hfs]
    rw [Nat.zero_add, ← Nat.add_mul]
    exact Nat.mul_le_mul_right _ (by omega)
 ·have hol : vss0.flatten.length = l0.length * f.size := by rw [Ck r0.hv, r0.a, hfs]
  have hload0 : ∀ j x, vss0.flatten[j]? = some x → w.cell? ((⟨b0, o0, none⟩ : Addr).add j) = some x := fun j x hx => by rw [Bn]; exact hl0 j x hx
  have hge := grownCap_ge w (l0.length + l1.length) c0 te
  refine ⟨w.drew.alloc (.cells (vss0.flatten.toArray ++ vss1.flatten.toArray ++ Builtin.zeroCells zz.cells (grownCap w (l0.length + l1.length) c0 te - (l0.length + l1.length))) te),
   grownCap w (l0.length + l1.length) c0 te, Builtin.zeroCells zz.cells (grownCap w (l0.length + l1.length) c0 te - (l0.length + l1.length)), ?_, ?_, ?_, ?_, ⟨rfl, rfl, rfl⟩⟩
  ·simpa using run_append_grow (P := P) w t ty te f zz hu hf hz ⟨b0, o0, none⟩ l0.length c0 vss0.flatten hol hload0 ⟨b1, o1, none⟩ l1.length c1 vss1.flatten hnl hload1 hneed
    (by omega) (growslice_fits hneed hb)
  ·show (World.alloc _ _).heap = _
   simp [World.alloc, heap_drew]
  ·exact hge
  ·simp only [Array.size_append, List.size_toArray, size_zeroCells, hzs, hnl, hol, hfs]
   rw [← Nat.add_mul, ← Nat.add_mul]
   exact Nat.mul_le_mul_right _ (by omega)
theorem J8 {t te : Nat} {f : TypeInfo} {ty : TypeId} (hu : P.underlying t = some (.slice te)) (hf : P.info? te = some f)
  {e : Ty} (hfs : f.size = wd e) {S1 : Nat → Prop} {m1 : Mode} {l1 : List (den e)} {v : Value} {vss1 : List (List Value)} {bss1 : List (List Nat)}
  (r1 : RowsOk w S1 e m1 l1 v vss1 bss1) {n0 c0 : Nat} {ad0 : Option Addr} (hroom : n0 + l1.length ≤ c0) {w' : World}
  (hst : ∀ b o, ad0 = some ⟨b, o, none⟩ → (storeCells ⟨b, o + n0 * wd e, none⟩ vss1.flatten 0).run P w = .ok () w') (hsp : ∀ a, ad0 = some a → a.spot = none) (hno : ad0 = none → w' = w) :
  (Builtin.append_ #[t, t] ty #[.slice ad0 n0 c0, v]).run P w = .ok (.slice ad0 (n0 + l1.length) c0) w' := by
 obtain ⟨ad1, c1, rfl, hlc1, hd1⟩ := r1.hd
 have hnl : vss1.flatten.length = l1.length * f.size := by rw [Ck r1.hv, r1.a, hfs]
 have hfirst : (Builtin.firstCells f.size l1.length (.slice ad1 l1.length c1)).run P w = .ok vss1.flatten.toArray w := by
  rcases hd1 with ⟨_, h1, _⟩ | ⟨b1, o1, rfl, hl1⟩
  ·have : vss1 = [] := List.length_eq_zero_iff.1 (by rw [r1.a, h1]; rfl)
   subst this
   cases ad1 with
   | none => simp [Builtin.firstCells]
   | some a1 => exact run_firstCells_some (P := P) w f.size l1.length a1 l1.length c1 [] hnl fun j x hx => by simp at hx
  ·exact run_firstCells_some (P := P) w f.size l1.length ⟨b1, o1, none⟩ l1.length c1 vss1.flatten hnl fun j x hx => by rw [Bn]; exact hl1 j x hx
 cases ad0 with
 | none =>
  rw [hno rfl]
  simp [Builtin.append_, run_underlying hu, sizeOf, typeInfo, hf, Builtin.lenOf, hroom, hfirst]
 | some a =>
  obtain ⟨b, o, sp⟩ := a
  have := hsp _ rfl
  simp only at this
  subst this
  have h1 := hst b o rfl
  rw [hfs] at hfirst
  simp [Builtin.append_, run_underlying hu, sizeOf, typeInfo, hf, Builtin.lenOf, hroom, hfirst, Bn, hfs, h1]
end
end Go.Rf
end

section
set_option linter.unusedVariables false
set_option linter.unusedSimpArgs false
namespace Go.Rf
theorem Hand.bs_append (H H' : Hand) : Hand.bs (H ++ H') = Hand.bs H ++ Hand.bs H' := by simp [Hand.bs]
theorem X0l {w : World} {S : Nat → Prop} : ∀ {t : Ty} {m : Mode} {x : den t} {vs : List Value} {bs : List Nat}, Rd w S t m x vs bs → ∀ v ∈ vs, v.oneCell' = true := by
 intro t
 induction t with
 | int k => rintro m x vs bs ⟨rfl, _⟩ v hv; simp at hv; subst hv; rfl
 | bool => rintro m x vs bs ⟨rfl, _⟩ v hv; simp at hv; subst hv; rfl
 | str => rintro m x vs bs ⟨rfl, _⟩ v hv; simp at hv; subst hv; rfl
 | sl e ih => rintro m x vs bs ⟨y, rfl, ad, c, rfl, _⟩ v hv; simp at hv; subst hv; rfl
 | pair a b iha ihb =>
  rintro m x vs bs ⟨v1, v2, b1, b2, rfl, rfl, h1, h2⟩ v hv
  exact (List.mem_append.1 hv).elim (iha h1 v) (ihb h2 v)
section
variable {P : Program} {w : World} {g : Gh} {σ : St} {ts : Array Value} {H : Hand} {tab : Tab} {γ : Type} {r : γ}
theorem RowsOk.one {S : Nat → Prop} {e : Ty} {m : Mode} {l : List (den e)} {v : Value} {vss : List (List Value)} {bss : List (List Nat)} (h : RowsOk w S e m l v vss bss) :
  ∀ u ∈ vss.flatten, u.oneCell' = true := by
 intro u hu
 obtain ⟨vs, hvs, hu⟩ := List.mem_flatten.1 hu
 obtain ⟨i, hi, rfl⟩ := List.mem_iff_getElem.1 hvs
 have h1 : i < l.length := by rw [← h.a]; exact hi
 have h2 : i < bss.length := by rw [h.b]; exact h1
 exact X0l (h.el i l[i] vss[i] bss[i] (List.getElem?_eq_getElem h1) (List.getElem?_eq_getElem hi) (List.getElem?_eq_getElem h2)) u hu
theorem Xpc (h : Rel w g σ ts []) {e : Ty} {x : A} {y : Value} (hx : AR w g σ.mem x y) {K : Mode × List (den e) → St → Option γ} (hr : (Xoj e x).run tab σ K = some r) :
  ∃ m l H1 g1 σ1 mm vss bss, K (m, l) σ1 = some r ∧ Rel w g1 σ1 ts H1 ∧ Mv w g σ [] w g1 σ1 H1 ∧ RowsOk w g1.S e mm l y vss bss ∧
   (∀ q ∈ bss.flatten, q ∈ H1.bs) ∧ bss.flatten.Nodup ∧ (m = .own → mm = .own ∨ A8 e = false) := by
 cases x with
 | agg xs => simp [Xoj, Pg.run] at hr
 | tup xs => simp [Xoj, Pg.run] at hr
 | one x =>
  simp only [Xoj, run_bind] at hr
  cases hs : A8 e with
  | true =>
   rw [hs] at hr
   simp only [cond_true] at hr
   obtain ⟨x', bs, g1, σ1, hr, h1, m1⟩ := B7 h hx hr
   have hh := h1.hand _ List.mem_cons_self
   have hnd := h1.hnd
   rw [Hand.bs_cons] at hnd
   simp only [Hand.bs, List.flatMap_nil, List.append_nil] at hnd
   split at hr
   ·obtain ⟨rfl, _⟩ := (hh : y = _ ∧ _)
    exact ⟨_, _, _, g1, σ1, .own, [], [], hr, h1, m1, RowsOk.nil, by simp, by simp, fun _ => .inl rfl⟩
   ·rename_i m t l
    split at hr
    ·rename_i ht
     subst ht
     simp only [hs, cond_true] at hr
     obtain ⟨vss, bss, r1, r2, r3, _, _⟩ := M5 (hh : Rd w g1.S (.sl t) m l [y] bs) hnd
     exact ⟨_, _, _, g1, σ1, m, vss, bss, hr, h1, m1, r1, fun q hq => by rw [Hand.bs_cons]; exact List.mem_append_left _ (r2 q hq), r3, fun h => .inl h⟩
    ·simp [Pg.run] at hr
   ·simp [Pg.run] at hr
  | false =>
   rw [hs] at hr
   simp only [cond_false] at hr
   obtain ⟨x', hr, hx'⟩ := Ll h hx hr
   rcases hx' with ⟨z, rfl, hz⟩ | ⟨m, t, l, rfl, hrd⟩
   ·split at hr
    ·rename_i heq
     simp only [Leaf.v.injEq] at heq
     rw [heq] at hz
     subst hz
     exact ⟨_, _, [], g, σ, .own, [], [], hr, h, Mv.refl _ _ _ _, RowsOk.nil, by simp, by simp, fun _ => .inl rfl⟩
    ·rename_i heq; simp at heq
    ·simp [Pg.run] at hr
   ·simp only at hr
    split at hr
    ·rename_i ht
     subst ht
     obtain ⟨vss, bss, r1, r2, r3, _, _⟩ := M5 hrd (by simp)
     refine ⟨_, _, [], g, σ, m, vss, bss, hr, h, Mv.refl _ _ _ _, ⟨r1.a, r1.b, r1.hv, fun i x u b' h1 h2 h3 => ?_, r1.hd⟩, fun q hq => (by have := r2 q hq; simp at this), r3, fun _ => .inr rfl⟩
     obtain ⟨rfl, h5⟩ := Xe0 (S' := g.S) (m' := m.nest) hs (r1.el i x u b' h1 h2 h3)
     exact h5
    ·simp [Pg.run] at hr
theorem Xhl (h : Rel w g σ ts H) {e : Ty} {x : Leaf} {y : Value} (hx : LfR w g σ.mem x y []) {K : Mode × List (den e) → St → Option γ} (hr : (Xk3 e x).run tab σ K = some r) :
  ∃ m l H0 g1 σ1 mm vss bss, K (m, l) σ1 = some r ∧ Rel w g1 σ1 ts (H0 ++ H) ∧ Mv w g σ H w g1 σ1 (H0 ++ H) ∧ RowsOk w g1.S e mm l y vss bss ∧
   (∀ q ∈ bss.flatten, q ∈ H0.bs) ∧ bss.flatten.Nodup ∧
   (m.isOwn = true → mm = m ∧ ∀ b o c, y = .slice (some ⟨b, o, none⟩) l.length c → H0.bs = b :: bss.flatten ∧ BlkOk w b (o + c * wd e)) ∧
   (m.isOwn = false → ∃ ad, y = .slice ad l.length l.length) := by
 unfold Xk3 at hr
 split at hr
 ·obtain ⟨rfl, _⟩ := (hx : y = _ ∧ _)
  exact ⟨_, _, [], g, σ, .own, [], [], hr, h, Mv.refl _ _ _ _, RowsOk.nil, by simp, by simp, fun _ => ⟨rfl, fun b o c he => by simp at he⟩, fun hf => by simp [Mode.isOwn] at hf⟩
 ·rename_i t l
  split at hr
  ·rename_i ht
   subst ht
   obtain ⟨vss, bss, r1, r2, r3, _, r5⟩ := M5 (hx : Rd w g.S (.sl t) .rox l [y] []) (by simp)
   exact ⟨_, _, [], g, σ, .rox, vss, bss, hr, h, Mv.refl _ _ _ _, r1, fun q hq => (by have := r2 q hq; simp at this), r3, fun hf => by simp [Mode.isOwn] at hf, fun _ => r5 rfl⟩
  ·simp [Pg.run] at hr
 ·rename_i k v0 v1 wi
  rw [run_bind] at hr
  obtain ⟨x', bs, g1, σ1, hr, h1, m1, m, t, l, rfl⟩ := Fi h hx.2 hr
  simp only at hr
  cases hm : m.isOwn with
  | false => rw [hm] at hr; simp [Pg.run] at hr
  | true =>
   rw [hm] at hr
   simp only [cond_true] at hr
   split at hr
   ·rename_i ht
    subst ht
    have hh := h1.hand _ List.mem_cons_self
    have hnd := h1.hnd
    rw [Hand.bs_cons] at hnd
    obtain ⟨vss, bss, r1, r2, r3, r4, _⟩ := M5 (hh : Rd w g1.S (.sl t) m l [y] bs) (List.nodup_append.1 hnd).1
    refine ⟨_, _, [(.s m t l, y, bs)], g1, σ1, m, vss, bss, hr, h1, m1, r1, fun q hq => by rw [Hand.bs_cons]; exact List.mem_append_left _ (r2 q hq), r3, fun _ => ⟨rfl, fun b o c he => ?_⟩, fun hf => ?_⟩
    ·obtain ⟨h5, h6⟩ := r4 hm b o c he
     exact ⟨by simp only [Hand.bs, List.flatMap_cons, List.flatMap_nil, List.append_nil]; exact h5, h6⟩
    ·rw [show m.isOwn = true from hm] at hf; simp at hf
   ·simp [Pg.run] at hr
 ·simp [Pg.run] at hr
theorem Zj {E : Env} (hE : ∀ t i, E.ty t = some i → TyOk P t i) (h : Rel w g σ ts []) {at0 at1 d : Nat} {x y : A} {u v : Value} (hx : AR w g σ.mem x u) (hy : AR w g σ.mem y v) (ty : TypeId)
  {K : A → St → Option γ} (hr : (Xg E at0 at1 d x y).run tab σ K = some r) :
  ∃ z q w' g' σ', K z σ' = some r ∧ (Builtin.append_ #[at0, at1] ty #[u, v]).run P w = .ok q w' ∧ Rel w' g' σ' ts [] ∧ AR w' g' σ'.mem z q ∧ Mv w g σ [] w' g' σ' [] ∧ Frm w g w' := by
 unfold Xg at hr
 split at hr
 ·rename_i e eb hty
  rw [run_bind] at hr
  obtain ⟨hl, hr2⟩ := Ar hr
  clear hr
  have hr := hr2
  clear hr2
  simp only [Bool.and_eq_true] at hl
  have heb : 1 ≤ eb := Nat.le_of_ble_eq_true hl.1
  have hat : at0 = at1 := Nat.eq_of_beq_eq_true hl.2
  subst hat
  obtain ⟨te, f, hu, hf, hfs, hfb, zz, hz, hzc⟩ := (hE at0 _ hty).sl e rfl rfl
  simp only at hfb
  have hzs : zz.cells.size = wd e := by rw [← Array.length_toList, hzc, K9]
  rw [run_bind] at hr
  obtain ⟨x0, rfl, hr, hx0⟩ := S7 hx hr
  rw [run_bind] at hr
  obtain ⟨m1, l1, H1, g1, σ1, mm1, vss1, bss1, hr, R1, M1, rows1, sub1, nd1, own1⟩ := Xpc h hy hr
  simp only [run_bind] at hr
  obtain ⟨m0, l0, H0, g2, σ2, mm0, vss0, bss0, hr, R2, M2, rows0, sub0, nd0, own0, ro0⟩ := Xhl R1 (hx0.step M1.st fun b hb => rfl) hr
  simp only [run_bind] at hr
  have hmust : m0.isOwn = true ∨ (m0.isOwn = false ∧ 0 < l1.length) := by
   cases hm : m0.isOwn with
   | true => exact .inl rfl
   | false =>
    rw [hm] at hr
    simp only [cond_false] at hr
    obtain ⟨hb, _⟩ := Dk hr
    exact .inr ⟨rfl, by simpa using hb⟩
  have hr : (Pg.br (decide ((l0.length + l1.length) * eb ≤ 140737488355328))
    ((Cf (Hs * d) (.s (Ge (cond m0.isOwn m0 (cond (A8 e) .sown .own)) m1) e (l0 ++ l1))).bind Di) .fail).run tab σ2 K = some r := by
   cases hm : m0.isOwn with
   | true => rw [hm] at hr; exact hr
   | false =>
    rw [hm] at hr
    simp only [cond_false] at hr
    exact (Dk hr).2
  rcases G0 hr with ⟨hb, hr⟩ | ⟨_, hr⟩
  ·simp only [decide_eq_true_eq] at hb
   rw [run_bind] at hr
   have rows1 := rows1.imp M2.st.S
   generalize hMM : Ge (cond m0.isOwn m0 (cond (A8 e) .sown .own)) m1 = MM at hr
   have hM : MM.isOwn = true := by rw [← hMM]; exact W7 _ _
   have hc0 : MM = .own → mm0 = .own ∨ A8 e = false := by
    intro he
    rw [he] at hMM
    obtain ⟨h1, _⟩ := Oo hMM
    cases hm : m0.isOwn with
    | true => rw [hm] at h1; simp only [cond_true] at h1; exact .inl ((own0 hm).1.trans h1)
    | false =>
     rw [hm] at h1
     cases hs : A8 e with
     | true => rw [hs] at h1; simp at h1
     | false => exact .inr rfl
   have hc1 : MM = .own → mm1 = .own ∨ A8 e = false := by
    intro he
    rw [he] at hMM
    exact own1 (Oo hMM).2
   have hndH := R2.hnd
   rw [Hand.bs_append] at hndH
   obtain ⟨n1, n2, n3⟩ := List.nodup_append.1 hndH
   have hsub : ∀ b ∈ (bss0 ++ bss1).flatten, b ∈ Hand.bs (H0 ++ H1) := by
    intro b hb
    rw [List.flatten_append] at hb
    rw [Hand.bs_append]
    rcases List.mem_append.1 hb with hb | hb
    ·exact List.mem_append_left _ (sub0 b hb)
    ·exact List.mem_append_right _ (sub1 b hb)
   have hnd : (bss0 ++ bss1).flatten.Nodup := by
    rw [List.flatten_append]
    exact List.nodup_append.2 ⟨nd0, nd1, fun a ha b hb => n3 a (sub0 a ha) b (sub1 b hb)⟩
   have Mtot := M1.trans M2
   obtain ⟨ad0, c0, hu0, hlc0, hd0⟩ := rows0.hd
   by_cases hneed : c0 < l0.length + l1.length
   ·obtain ⟨w', c, zs, hrun, hheap, hle, hsz, hio⟩ := Qh (P := P) (ty := ty) hu hf hz hfs hzs rows0 rows1 hu0 hneed (by omega) (by rw [hfb]; exact hb)
    obtain ⟨g3, bs', R3, M3, _, _⟩ := Xv R2 rows0.a rows1.a rows0.b rows1.b rows0.hv rows1.hv rows0.el rows1.el hM hc0 hc1 hsub hnd hheap hio hle hsz
    obtain ⟨z, g4, σ4, hr, R4, M4, hz4, _, _⟩ := Bt R3 hr
    exact ⟨_, _, w', g4, σ4, hr, hrun, R4, hz4, (Mtot.trans M3).trans M4, Frm.push hheap⟩
   ·have hroom : l0.length + l1.length ≤ c0 := by omega
    rcases hd0 with ⟨h0, h1, rfl⟩ | ⟨b, o, rfl, hl0⟩
    ·have h2 : l1 = [] := List.length_eq_zero_iff.1 (by omega)
     obtain rfl : ad0 = none := by
      rcases h0 with h0 | h0
      ·exact h0
      ·rcases hmust with hm | ⟨_, hp⟩
       ·rw [(own0 hm).1, hm] at h0; cases h0
       ·rw [h2] at hp; simp at hp
     subst h1; subst h2
     have hrun := J8 (P := P) (ty := ty) (w' := w) (ad0 := none) hu hf hfs rows1 hroom (fun b o he => by simp at he) (fun a he => by simp at he) (fun _ => rfl)
     obtain ⟨R3, M3⟩ := R2.rehandW (w' := w) (H' := [(.s MM e ([] ++ []), .slice none 0 0, [])]) (fun _ _ _ => rfl) (Nat.le_refl _) (Io.refl _) (by simp [Hand.bs]) (by simp [Hand.bs])
      (by
       intro x hx
       have hx : x = _ := List.mem_singleton.1 hx
       subst hx
       exact ⟨_, rfl, none, 0, rfl, Nat.le_refl _, fun _ => rfl, .inl ⟨.inl rfl, rfl, rfl, rfl⟩⟩)
     obtain ⟨z, g4, σ4, hr, R4, M4, hz4, _, _⟩ := Bt R3 hr
     refine ⟨_, _, w, g4, σ4, hr, ?_, R4, hz4, (Mtot.trans M3).trans M4, Frm.refl _ _⟩
     rw [hu0]; exact hrun
    ·have hm : m0.isOwn = true := by
      rcases hmust with hm | ⟨hm, hp⟩
      ·exact hm
      ·obtain ⟨ad, he⟩ := ro0 hm
       rw [hu0] at he
       simp only [Value.slice.injEq] at he
       omega
     obtain ⟨hHb, hblk⟩ := (own0 hm).2 b o c0 hu0
     obtain ⟨w', g3, bs', hst, R3, M3, hq⟩ := Xbc (P := P) R2 rows0.a rows1.a rows0.b rows1.b rows0.hv rows1.hv rows0.el rows1.el hM hc0 hc1
      (by
       intro q hq
       rcases List.mem_cons.1 hq with rfl | hq
       ·rw [Hand.bs_append, hHb]; simp
       ·exact hsub q hq)
      (by
       refine List.nodup_cons.2 ⟨fun hq => ?_, hnd⟩
       rw [List.flatten_append] at hq
       rw [hHb] at n1 n3
       rcases List.mem_append.1 hq with hq | hq
       ·exact (List.nodup_cons.1 n1).1 hq
       ·exact n3 b (by simp) b (sub1 b hq) rfl)
      hl0 hblk hroom rows1.one
     have hrun := J8 (P := P) (ty := ty) (w' := w') (ad0 := some ⟨b, o, none⟩) hu hf hfs rows1 hroom (fun b' o' he => by
       simp only [Option.some.injEq, Addr.mk.injEq, and_true] at he
       obtain ⟨rfl, rfl⟩ := he
       exact hst) (fun a he => by simp at he; subst he; rfl) (fun he => by simp at he)
     obtain ⟨z, g4, σ4, hr, R4, M4, hz4, _, _⟩ := Bt R3 hr
     refine ⟨_, .slice (some ⟨b, o, none⟩) (l0.length + l1.length) c0, w', g4, σ4, hr, ?_, R4, ?_, (Mtot.trans M3).trans M4, ?_⟩
     ·rw [hu0]; exact hrun
     ·rw [List.length_append] at hz4; exact hz4
     ·intro q hlt hown
      refine .inl (hq q ?_).symm
      rintro rfl
      rcases Mtot.own q (.inr (by rw [Hand.bs_append, hHb]; simp)) with h5 | h5
      ·exact hown h5
      ·omega
  ·simp [Pg.run] at hr
 ·simp [Pg.run] at hr
theorem Zx {t u te : Nat} {f : TypeInfo} {zz : Value} {ty : TypeId} (ht : P.underlying t = some (.slice te)) (hu : P.underlying u = some (.int .i64)) (hi : P.info? te = some f) (hz : f.zero = some zz)
  {n : Int} (h0 : 0 < n) (heb : 1 ≤ f.bytes) (hb : n * f.bytes ≤ 140737488355328) (hsz : f.size ≠ 0) :
  (Builtin.append_ #[t, u] ty #[.slice none 0 0, .int .i64 n]).run P w =
   .ok (.slice (some ⟨w.heap.size, 0, none⟩) n.toNat (grownCap w n.toNat 0 te)) (w.drew.alloc (.cells (Builtin.zeroCells zz.cells n.toNat ++ Builtin.zeroCells zz.cells (grownCap w n.toNat 0 te - n.toNat)) te)) := by
 have h1 : n * 1 ≤ n * (f.bytes : Int) := Int.mul_le_mul_of_nonneg_left (by omega) (by omega)
 have hw : IntKind.i64.wrap n = n := by
  simp only [IntKind.wrap, IntKind.bits, IntKind.signed, if_true]
  have : n % 18446744073709551616 = n := Int.emod_eq_of_lt (by omega) (by omega)
  simp [this]; omega
 have hn : n.toNat ≠ 0 := by omega
 have hneg : ¬ n < 0 := by omega
 have hle0 : ¬ n ≤ 0 := by omega
 have hmax : ¬ (9223372036854775807 < max n 0) := by omega
 have hns : n.toNat * f.size ≠ 0 := Nat.mul_ne_zero hn hsz
 have hbig : ¬ (281474976710656 < n * (f.bytes : Int)) := by omega
 have h63' : ¬ (9223372036854775807 < ((n.toNat : Nat) : Int)) := by omega
 have h48' : ¬ (281474976710656 < Builtin.nextslicecap n.toNat 0 * f.bytes) := by
  rw [nextslicecap_zero (by omega)]
  have : ((n.toNat * f.bytes : Nat) : Int) = n * (f.bytes : Int) := by rw [Int.natCast_mul, Int.toNat_of_nonneg (by omega)]
  omega
 simp [Builtin.append_, run_underlying ht, run_underlying hu, sizeOf, typeInfo, zeroValue, hi, hz, hw, hneg, hbig, hn, h63', h48', hsz, hle0, hmax, hns, Question.forced, run_firstCells_none, Go.newRow, grownCap, asInt, asIntOf]
theorem Zv {E : Env} (hE : ∀ t i, E.ty t = some i → TyOk P t i) (h : Rel w g σ ts []) {at0 at1 d : Nat} {y : A} {v : Value} (hy : AR w g σ.mem y v) (ty : TypeId)
  {K : A → St → Option γ} (hr : (T9 E at0 at1 d y).run tab σ K = some r) :
  ∃ z q w' g' σ', K z σ' = some r ∧ (Builtin.append_ #[at0, at1] ty #[.slice none 0 0, v]).run P w = .ok q w' ∧ Rel w' g' σ' ts [] ∧ AR w' g' σ'.mem z q ∧ Mv w g σ [] w' g' σ' [] ∧ Frm w g w' := by
 unfold T9 at hr
 split at hr
 ·rename_i e eb eb1 n hty hty1
  rw [run_bind] at hr
  obtain ⟨heb, hr⟩ := Ar hr
  have heb : 1 ≤ eb := Nat.le_of_ble_eq_true heb
  rcases G0 hr with ⟨hb, hr2⟩ | ⟨_, hr2⟩
  ·clear hr
   simp only [Bool.and_eq_true, decide_eq_true_eq] at hb
   obtain ⟨h0, hle⟩ := hb
   obtain ⟨te, f, hu, hf, hfs, hfb, zz, hz, hzc⟩ := (hE at0 _ hty).sl e rfl rfl
   simp only at hfb
   obtain ⟨rfl, _⟩ := (hy : v = _ ∧ _)
   have hpos : wd e ≠ 0 := by have := T6 e; omega
   have hrun := Zx (P := P) (w := w) (ty := ty) hu ((hE at1 _ hty1).int .i64 rfl rfl) hf hz h0 (by omega) (by rw [hfb]; exact hle) (by rw [hfs]; exact hpos)
   have hzs : zz.cells.size = wd e := by rw [← Array.length_toList, hzc, K9]
   have hge := grownCap_ge w n.toNat 0 te
   have hfr := Lp (m := .own) (t := e) (l := List.replicate n.toNat (Bl e)) (c := grownCap w n.toNat 0 te) (bss := List.replicate n.toNat []) h
    (w' := w.drew.alloc (.cells (Builtin.zeroCells zz.cells n.toNat ++ Builtin.zeroCells zz.cells (grownCap w n.toNat 0 te - n.toNat)) te)) (cs := Builtin.zeroCells zz.cells n.toNat ++ Builtin.zeroCells zz.cells (grownCap w n.toNat 0 te - n.toNat)) (te := te)
    (by simp [World.alloc, heap_drew]) ⟨rfl, rfl, rfl⟩ rfl (by simpa using hge) (by
     simp only [Array.size_append, size_zeroCells, hzs]
     rw [← Nat.add_mul]
     exact Nat.mul_le_mul_right _ (by omega))
    (by simp) (by simp) (by simp) (by
     intro i x b' hx hb'
     have hi : i < n.toNat := by have := (List.getElem?_eq_some_iff.1 hx).1; simpa using this
     rw [List.getElem?_replicate, if_pos hi] at hx hb'
     cases hx; cases hb'
     refine ⟨zv e, K9 e, fun j hj => ?_, Pi e _⟩
     have hlt : i * wd e + j < n.toNat * wd e := by
      have := Nat.mul_le_mul_right (wd e) (show i + 1 ≤ n.toNat from hi)
      rw [Nat.add_mul, Nat.one_mul] at this
      omega
     have hmod : (i * wd e + j) % zz.cells.size = j := by rw [hzs, Nat.mul_comm, Nat.mul_add_mod]; exact Nat.mod_eq_of_lt hj
     have hjz : j < zz.cells.size := by omega
     rw [Array.getElem?_append_left (by rw [size_zeroCells, hzs]; exact hlt)]
     simp only [Builtin.zeroCells, Array.getElem?_map]
     rw [Array.getElem?_range, if_pos (by rw [hzs]; exact hlt)]
     simp only [Option.map_some, hmod, getElem!_pos zz.cells j hjz]
     rw [← hzc, Array.getElem?_toList, Array.getElem?_eq_getElem hjz])
   obtain ⟨g1, h1, m1, _, _⟩ := hfr
   rw [run_bind] at hr2
   obtain ⟨z', g2, σ2, hr, h2, m2, hl, _, _⟩ := Bt h1 hr2
   refine ⟨_, _, _, g2, σ2, hr, hrun, h2, ?_, m1.trans m2, Frm.push (cs := Builtin.zeroCells zz.cells n.toNat ++ Builtin.zeroCells zz.cells (grownCap w n.toNat 0 te - n.toNat)) (te := te) (by simp [World.alloc, heap_drew])⟩
   have : (List.replicate n.toNat (Bl e)).length = n.toNat := by simp
   rw [this] at hl
   exact hl
  ·simp [Pg.run] at hr2
 ·simp [Pg.run] at hr
end
end Go.Rf
end
