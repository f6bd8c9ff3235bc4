/-
  What the proof of this row needs, part 5: the typed evaluator of the translated code, the functions that the law reaches as plain functions, and what they answer.
-/
import Derived.KernelRfl
import Derived.Test.YtdmepjjepogddaaGreatRows
import Derived.JoinedOf
import Derived.Test.YtdmepjjepogddaaGreatA4
section
set_option linter.unusedVariables false
set_option linter.unusedSimpArgs false
namespace Go.Proofs.YtdmepjjepogddaaGreat.Gn
open Go.Rf IntKind
noncomputable section
def X1v : Nat → Hint
 | 0 => ⟨(3, .own .own Ax []) :: (pl 6 3 []), []⟩
 | _ => ⟨[], []⟩
abbrev V2 (k : Nat) : Env := Bc (Az [Xbl k, Xlb k]) X1v .own [] k
abbrev Xcz : List PA := [.one (.sl .ro Ax)]
abbrev F212_O : RO := ⟨[.v], [.sl .own Ax]⟩
noncomputable def Xw3 {β : Type} (k : Nat) (v : Ad) (K : KT β) : Ex → St → Option β := Br (V2 k) Tryz.f212 (PsT.put Xcz (v, ())) K
def Xrj (v : Ad) (x8_0 : Int) (m3900_0 : Ad) : St := ⟨dz 3 ((.one (.a (.cell 3900) 0 0 none)) :: (.one .d) :: (.one .d) :: (.one (.s .ro Ax v)) :: (.one (vI (v.length : Int))) :: (.one (vI x8_0)) :: dz 11 []), [eM 3900 (.s .own Ax m3900_0)]⟩
noncomputable def N9 {β : Type} (k : Nat) (v : Ad) (K : KT β) (n : Nat) (x8_0 : Int) (m3900_0 : Ad) : Option β := A3 (V2 k) Tryz.f212 [1, 1, 0, 1, 0] 0 (Ai (V2 k) [1, 1, 0, 1, 0] (Al Tryz.f212) 0 (Xw3 k v K)) n (Xrj v x8_0 m3900_0)
def El {β : Type} (NX : Int → Ad → Option β) (RET : Ad → Option β) (k : Nat) (v : Ad) (x8_0 : Int) (m3900_0 : Ad) : Option β := cond (decide (x8_0 < (v.length : Int))) (A1 x8_0 v ((Rr k (Ap v x8_0)).bind fun b1 => Bh (m3900_0.length) ([b1].length) 32 (NX (i64.wrap (x8_0 + 1)) (m3900_0 ++ [b1])))) ((Xr1 k m3900_0).bind fun b2 => RET b2)
def Hk (k : Nat) (v : Ad) : Nat → Int → Ad → Option (Ad)
 | 0, _, _ => none
 | n + 1, x8_0, m3900_0 => El (Hk k v n) some k v x8_0 m3900_0
theorem Xde {β : Type} (k : Nat) (v : Ad) (K : KT β) (n : Nat) : ∀ (x8_0 : Int) (m3900_0 : Ad), N9 k v K n x8_0 m3900_0 =
  (Hk k v n x8_0 m3900_0).bind fun r => K (F212_O.put r) := by
 induction n with
 | zero => intros; rfl
 | succ n ih =>
  intro x8_0 m3900_0
  refine Eq.trans (b := El (N9 k v K n) (fun r => K (F212_O.put r)) k v x8_0 m3900_0) (by kernel_rfl) ?_
  rw [Hk]
  simp only [El, z1, z2, z3, z4, z5, z6, z7, z8, ih]
def Ri {β : Type} (LP0 : Int → Ad → Option β) (k : Nat) (v : Ad) : Option β := LP0 0 []
def Ny (k : Nat) (v : Ad) : Option (Ad) := Ri (Hk k v k) k v
theorem Xtx {β : Type} (k : Nat) (v : Ad) (K : KT β) : Ag (V2 k) Tryz.f212 (PsT.put Xcz (v, ())) K = (Ny k v).bind fun r => K (F212_O.put r) :=
 Eq.trans (b := Ri (N9 k v K k) k v) (by kernel_rfl) (by simp only [Ny, Ri, z1, z2, z3, z4, z5, z6, z7, z8, Xde])
def Xjk (k : Nat) : FD := ⟨212, Xcz, F212_O, Ny k⟩
theorem X0j (k : Nat) : (Xjk k).Ok Tryz.prog := ⟨fun x => Ab (Am (Aj (.c (Xip k) (.c (Xys k) .n))) _ _ _ _) Ah Tryz.func212 rfl rfl (Xtx k _ some), .of (by kernel_rfl)⟩
abbrev Xyr (k : Nat) : Env := Bc Bv An .own [(false, 1000)] k
abbrev Xpg : List PA := [.agg (.pair (.sl .ro Ac) mI), .p mI]
abbrev F213_O : RO := ⟨[.v], [mB, mI]⟩
def Xpe (k : Nat) (v : (den Ax)) (w : Int) : Option (Bool × Int) := some (decide (v.2 ≤ w), w)
theorem Xsz {β : Type} (k : Nat) (v : (den Ax)) (w : Int) (K : KT β) : Ag (Xyr k) Tryz.f213 (PsT.put Xpg (v, w, ())) K = (Xpe k v w).bind fun r => K (F213_O.put r) :=
 Eq.trans (b := K (F213_O.put (decide (v.2 ≤ w), w))) (by kernel_rfl) (by simp only [Xpe, z1, z2, z3, z4, z5, z6, z7, z8, Bb])
def Xma (k : Nat) : FD := ⟨213, Xpg, F213_O, Xpe k⟩
theorem Xx4 (k : Nat) : (Xma k).Ok Tryz.prog := ⟨fun x => Ab (Am .none _ _ _ _) Ah Tryz.func213 rfl rfl (Xsz k _ _ some), .of (by kernel_rfl)⟩
def Xlp : Nat → Hint
 | 0 => ⟨pl 0 2 (pl 7 2 []), (0, .own .sown Ax []) :: (pl 1100 1 [])⟩
 | _ => ⟨[], []⟩
abbrev L2 (k : Nat) : Env := { Bc (Az [Xma k]) Xlp .own [(true, 0), (false, 1100)] k with frz := [15] }
abbrev Rq : List PA := [.one (.lent .own Ax), .fc 213 [mI]]
abbrev F215_2_O : RO := ⟨[.v], [mI, .sl .sown Ax, mI]⟩
noncomputable def Xm0 {β : Type} (k : Nat) (v : Ad) (wx : Int) (K : KT β) : Ex → St → Option β := Br (L2 k) Tryz.f215 (PsT.put Rq (v, (wx, ()), ())) K
def Xge (v : Ad) (wx : Int) (x8_0 m1100_0 : Int) : St := ⟨(.one (.a (.cell 0) 0 0 none)) :: (.one (.fn 213 [((.cell 1100), 1, 0)])) :: dz 5 ((.one (vI (v.length : Int))) :: (.one (vI x8_0)) :: dz 10 []), [eM 0 (.s .sown Ax v), iM 1100 m1100_0]⟩
noncomputable def Ib {β : Type} (k : Nat) (v : Ad) (wx : Int) (K : KT β) (n : Nat) (x8_0 m1100_0 : Int) : Option β := A3 (L2 k) Tryz.f215 [1, 0, 1, 0] 0 (Ai (L2 k) [1, 0, 1, 0] (Al Tryz.f215) 0 (Xm0 k v wx K)) n (Xge v wx x8_0 m1100_0)
def Cu {β : Type} (NX : Int → Int → Option β) (RET : (Int × Ad × Int) → Option β) (k : Nat) (v : Ad) (wx : Int) (x8_0 m1100_0 : Int) : Option β := cond (decide (x8_0 < (v.length : Int))) (A1 x8_0 v ((Xpe k (Ap v x8_0) m1100_0).bind fun b1 => cond b1.1 (RET (x8_0, v, b1.2)) (NX (i64.wrap (x8_0 + 1)) b1.2))) (RET ((-1), v, m1100_0))
def Df (k : Nat) (v : Ad) (wx : Int) : Nat → Int → Int → Option (Int × Ad × Int)
 | 0, _, _ => none
 | n + 1, x8_0, m1100_0 => Cu (Df k v wx n) some k v wx x8_0 m1100_0
theorem Ut {β : Type} (k : Nat) (v : Ad) (wx : Int) (K : KT β) (n : Nat) : ∀ (x8_0 m1100_0 : Int), Ib k v wx K n x8_0 m1100_0 =
  (Df k v wx n x8_0 m1100_0).bind fun r => K (F215_2_O.put r) := by
 induction n with
 | zero => intros; rfl
 | succ n ih =>
  intro x8_0 m1100_0
  refine Eq.trans (b := Cu (Ib k v wx K n) (fun r => K (F215_2_O.put r)) k v wx x8_0 m1100_0) (by kernel_rfl) ?_
  rw [Df]
  simp only [Cu, z1, z2, z3, z4, z5, z6, z7, z8, ih]
def Ii {β : Type} (LP0 : Int → Int → Option β) (k : Nat) (v : Ad) (wx : Int) : Option β := LP0 0 wx
def H6 (k : Nat) (v : Ad) (wx : Int) : Option (Int × Ad × Int) := Ii (Df k v wx k) k v wx
theorem Xho {β : Type} (k : Nat) (v : Ad) (wx : Int) (K : KT β) : Ag (L2 k) Tryz.f215 (PsT.put Rq (v, (wx, ()), ())) K = (H6 k v wx).bind fun r => K (F215_2_O.put r) :=
 Eq.trans (b := Ii (Ib k v wx K k) k v wx) (by kernel_rfl) (by simp only [H6, Ii, z1, z2, z3, z4, z5, z6, z7, z8, Ut])
def Zs (k : Nat) : FD := ⟨215, Rq, F215_2_O, H6 k⟩
theorem Xos (k : Nat) : (Zs k).Ok Tryz.prog := ⟨fun x => Ab (W5 [15] (Aj (.c (Xx4 k) .n)) _ _ _ _) Ah Tryz.func215 rfl rfl (Xho k _ _ some), .of (by kernel_rfl)⟩
def Xw9 : Nat → Hint
 | 0 => ⟨[], pl 1100 1 []⟩
 | _ => ⟨[], []⟩
abbrev Ud (k : Nat) : Env := Bc (Az [Zs k]) Xw9 .own [(false, 1100)] k
abbrev Xb5 : List PA := [.one (.sl .own Ax), .fc 213 [mI]]
abbrev F211_O : RO := ⟨[.v], [.sl .sown Ax, mI]⟩
noncomputable def Xwb {β : Type} (k : Nat) (v : Ad) (wx : Int) (K : KT β) : Ex → St → Option β := Br (Ud k) Tryz.f211 (PsT.put Xb5 (v, (wx, ()), ())) K
def Xtp (v : Ad) (wx : Int) (m1100_0 : Int) : St := ⟨dz 42 [], [iM 1100 m1100_0]⟩
noncomputable def Tc {β : Type} (k : Nat) (v : Ad) (wx : Int) (K : KT β) (n : Nat) (m1100_0 : Int) : Option β := A3 (Ud k) Tryz.f211 [1, 1, 1, 0, 1, 0] 0 (Ai (Ud k) [1, 1, 1, 0, 1, 0] (Al Tryz.f211) 0 (Xwb k v wx K)) n (Xtp v wx m1100_0)
def Mn {β : Type} (k : Nat) (v : Ad) (wx : Int) (m1100_0 : Int) : Option β := none
def Us (k : Nat) (v : Ad) (wx : Int) : Nat → Int → Option (Ad × Int)
 | 0, _ => none
 | n + 1, m1100_0 => Mn k v wx m1100_0
theorem Xc1 {β : Type} (k : Nat) (v : Ad) (wx : Int) (K : KT β) (n : Nat) : ∀ (m1100_0 : Int), Tc k v wx K n m1100_0 =
  (Us k v wx n m1100_0).bind fun r => K (F211_O.put r) := by
 induction n with
 | zero => intros; rfl
 | succ n ih =>
  intro m1100_0
  refine Eq.trans (b := Mn k v wx m1100_0) (by kernel_rfl) ?_
  rw [Us]
  simp only [Mn, z1, z2, z3, z4, z5, z6, z7, z8, ih]
def Px {β : Type} (LP0 : Int → Option β) (RET : (Ad × Int) → Option β) (k : Nat) (v : Ad) (wx : Int) : Option β := (H6 k v wx).bind fun b1 => cond (b1.1 == (-1)) (RET b1.2) (LP0 b1.2.2)
def Yn (k : Nat) (v : Ad) (wx : Int) : Option (Ad × Int) := Px (Us k v wx k) some k v wx
theorem Xtn {β : Type} (k : Nat) (v : Ad) (wx : Int) (K : KT β) : Ag (Ud k) Tryz.f211 (PsT.put Xb5 (v, (wx, ()), ())) K = (Yn k v wx).bind fun r => K (F211_O.put r) :=
 Eq.trans (b := Px (Tc k v wx K k) (fun r => K (F211_O.put r)) k v wx) (by kernel_rfl) (by simp only [Yn, Px, z1, z2, z3, z4, z5, z6, z7, z8, Xc1])
def Xpa (k : Nat) : FD := ⟨211, Xb5, F211_O, Yn k⟩
theorem Xvl (k : Nat) : (Xpa k).Ok Tryz.prog := ⟨fun x => Ab (Am (Aj (.c (Xos k) .n)) _ _ _ _) Ah Tryz.func211 rfl rfl (Xtn k _ _ some), .of (by kernel_rfl)⟩
abbrev X1i (k : Nat) : Env := Bc (Az [U4 k]) An .own [(false, 1000), (false, 1001), (false, 1002), (false, 1003), (false, 1004), (false, 1005), (false, 1006), (false, 1007), (false, 1008)] k
abbrev Xiq : List PA := [.agg (.pair (.sl .ro Ac) mI), .p (.pair mI C1)]
abbrev F216_O : RO := ⟨[.v], [mB, .pair mI C1]⟩
def T3 {β : Type} (RET : (Bool × (den Ac)) → Option β) (k : Nat) (v : (den Ax)) (w : (den Ac)) : Option β := cond (decide (0 < (v.1.length : Int))) ((Xdn k (Ap v.1 0) w).bind fun b1 => RET (b1, w)) none
def Xgb := T3 (β := Bool × (den Ac)) some
theorem Xrn {β : Type} (k : Nat) (v : (den Ax)) (w : (den Ac)) (K : KT β) : Ag (X1i k) Tryz.f216 (PsT.put Xiq (v, w, ())) K = (Xgb k v w).bind fun r => K (F216_O.put r) :=
 Eq.trans (b := T3 (fun r => K (F216_O.put r)) k v w) (by kernel_rfl) (by simp only [Xgb, T3, z1, z2, z3, z4, z5, z6, z7, z8, Aw, Bb])
def Xok (k : Nat) : FD := ⟨216, Xiq, F216_O, Xgb k⟩
theorem Xwj (k : Nat) : (Xok k).Ok Tryz.prog := ⟨fun x => Ab (Am (Aj (.c (Xdt k) .n)) _ _ _ _) Ah Tryz.func216 rfl rfl (Xrn k _ _ some), .of (by kernel_rfl)⟩
def Xkb : Nat → Hint
 | 0 => ⟨pl 0 2 (pl 7 2 []), pl 0 1 (pl 1100 9 [])⟩
 | _ => ⟨[], []⟩
abbrev L3 (k : Nat) : Env := { Bc (Az [Xok k]) Xkb .own [(true, 0), (false, 1100), (false, 1101), (false, 1102), (false, 1103), (false, 1104), (false, 1105), (false, 1106), (false, 1107), (false, 1108)] k with frz := [15] }
abbrev Re : List PA := [.one (.lent .sown Ax), .fc 216 [.pair mI C1]]
abbrev F215_3_O : RO := ⟨[.v], [mI, .sl .sown Ax, .pair mI C1]⟩
noncomputable def Xjh {β : Type} (k : Nat) (v : Ad) (wx : (den Ac)) (K : KT β) : Ex → St → Option β := Br (L3 k) Tryz.f215 (PsT.put Re (v, (wx, ()), ())) K
def Xhr (v : Ad) (wx : (den Ac)) (x8_0 : Int) (m1100_0 : (den Ac)) : St := ⟨(.one (.a (.cell 0) 0 0 none)) :: (.one (.fn 216 [((.cell 1100), 9, 0)])) :: dz 5 ((.one (vI (v.length : Int))) :: (.one (vI x8_0)) :: dz 10 []), (eM 0 (.s .sown Ax v)) :: (A7 1100 (Ce (.pair mI C1) m1100_0) [])⟩
noncomputable def Ig {β : Type} (k : Nat) (v : Ad) (wx : (den Ac)) (K : KT β) (n : Nat) (x8_0 : Int) (m1100_0 : (den Ac)) : Option β := A3 (L3 k) Tryz.f215 [1, 0, 1, 0] 0 (Ai (L3 k) [1, 0, 1, 0] (Al Tryz.f215) 0 (Xjh k v wx K)) n (Xhr v wx x8_0 m1100_0)
def Dp {β : Type} (NX : Int → (den Ac) → Option β) (RET : (Int × Ad × (den Ac)) → Option β) (k : Nat) (v : Ad) (wx : (den Ac)) (x8_0 : Int) (m1100_0 : (den Ac)) : Option β := cond (decide (x8_0 < (v.length : Int))) (A1 x8_0 v ((Xgb k (Ap v x8_0) m1100_0).bind fun b1 => cond b1.1 (RET (x8_0, v, b1.2)) (NX (i64.wrap (x8_0 + 1)) b1.2))) (RET ((-1), v, m1100_0))
def Eg (k : Nat) (v : Ad) (wx : (den Ac)) : Nat → Int → (den Ac) → Option (Int × Ad × (den Ac))
 | 0, _, _ => none
 | n + 1, x8_0, m1100_0 => Dp (Eg k v wx n) some k v wx x8_0 m1100_0
theorem Vr {β : Type} (k : Nat) (v : Ad) (wx : (den Ac)) (K : KT β) (n : Nat) : ∀ (x8_0 : Int) (m1100_0 : (den Ac)), Ig k v wx K n x8_0 m1100_0 =
  (Eg k v wx n x8_0 m1100_0).bind fun r => K (F215_3_O.put r) := by
 induction n with
 | zero => intros; rfl
 | succ n ih =>
  intro x8_0 m1100_0
  refine Eq.trans (b := Dp (Ig k v wx K n) (fun r => K (F215_3_O.put r)) k v wx x8_0 m1100_0) (by kernel_rfl) ?_
  rw [Eg]
  simp only [Dp, z1, z2, z3, z4, z5, z6, z7, z8, Aw, ih]
def Hz {β : Type} (LP0 : Int → (den Ac) → Option β) (k : Nat) (v : Ad) (wx : (den Ac)) : Option β := LP0 0 wx
def Ic (k : Nat) (v : Ad) (wx : (den Ac)) : Option (Int × Ad × (den Ac)) := Hz (Eg k v wx k) k v wx
theorem Xgj {β : Type} (k : Nat) (v : Ad) (wx : (den Ac)) (K : KT β) : Ag (L3 k) Tryz.f215 (PsT.put Re (v, (wx, ()), ())) K = (Ic k v wx).bind fun r => K (F215_3_O.put r) :=
 Eq.trans (b := Hz (Ig k v wx K k) k v wx) (by kernel_rfl) (by simp only [Ic, Hz, z1, z2, z3, z4, z5, z6, z7, z8, Aw, Vr])
def Zf (k : Nat) : FD := ⟨215, Re, F215_3_O, Ic k⟩
theorem Xi4 (k : Nat) : (Zf k).Ok Tryz.prog := ⟨fun x => Ab (W5 [15] (Aj (.c (Xwj k) .n)) _ _ _ _) Ah Tryz.func215 rfl rfl (Xgj k _ _ some), .of (by kernel_rfl)⟩
abbrev Xvr (k : Nat) : Env := Bc (Az [Xbj k]) An .own [(false, 1000), (false, 1001), (false, 1002), (false, 1003), (false, 1004), (false, 1005), (false, 1006), (false, 1007), (false, 1008)] k
abbrev Xn4 : List PA := [.agg (.pair mI C1), .p (.pair mI C1)]
abbrev F273_O : RO := ⟨[.v], [mB, .pair mI C1]⟩
def Wm {β : Type} (RET : (Bool × (den Ac)) → Option β) (k : Nat) (v w : (den Ac)) : Option β := cond (v.2.2.2.2.2.1 == w.2.2.2.2.2.1) (cond (v.2.2.2.2.2.2.1 == w.2.2.2.2.2.2.1) ((Xal k v.2.2.2.2.2.2.2.2 w.2.2.2.2.2.2.2.2).bind fun b1 => RET (b1, w)) (RET (false, w))) (RET (false, w))
def Xgx := Wm (β := Bool × (den Ac)) some
theorem Xse {β : Type} (k : Nat) (v w : (den Ac)) (K : KT β) : Ag (Xvr k) Tryz.f273 (PsT.put Xn4 (v, w, ())) K = (Xgx k v w).bind fun r => K (F273_O.put r) :=
 Eq.trans (b := Wm (fun r => K (F273_O.put r)) k v w) (by kernel_rfl) (by simp only [Xgx, Wm, z1, z2, z3, z4, z5, z6, z7, z8, Aw])
def Xla (k : Nat) : FD := ⟨273, Xn4, F273_O, Xgx k⟩
theorem Xxb (k : Nat) : (Xla k).Ok Tryz.prog := ⟨fun x => Ab (Am (Aj (.c (Xjl k) .n)) _ _ _ _) Ah Tryz.func273 rfl rfl (Xse k _ _ some), .of (by kernel_rfl)⟩
def Xy3 : Nat → Hint
 | 0 => ⟨pl 0 2 (pl 7 2 []), pl 1100 9 []⟩
 | _ => ⟨[], []⟩
abbrev T4 (k : Nat) : Env := Bc (Az [Xla k]) Xy3 .own [(false, 1100), (false, 1101), (false, 1102), (false, 1103), (false, 1104), (false, 1105), (false, 1106), (false, 1107), (false, 1108)] k
abbrev Xag : List PA := [.one (.sl .ro Ac), .fc 273 [.pair mI C1]]
abbrev F274_O : RO := ⟨[.v], [mI, .pair mI C1]⟩
noncomputable def Xv8 {β : Type} (k : Nat) (v : Ak) (wx : (den Ac)) (K : KT β) : Ex → St → Option β := Br (T4 k) Tryz.f274 (PsT.put Xag (v, (wx, ()), ())) K
def Xqh (v : Ak) (wx : (den Ac)) (x8_0 : Int) (m1100_0 : (den Ac)) : St := ⟨(.one (.s .ro Ac v)) :: (.one (.fn 273 [((.cell 1100), 9, 0)])) :: dz 5 ((.one (vI (v.length : Int))) :: (.one (vI x8_0)) :: dz 10 []), A7 1100 (Ce (.pair mI C1) m1100_0) []⟩
noncomputable def Mz {β : Type} (k : Nat) (v : Ak) (wx : (den Ac)) (K : KT β) (n : Nat) (x8_0 : Int) (m1100_0 : (den Ac)) : Option β := A3 (T4 k) Tryz.f274 [1, 0, 1, 0] 0 (Ai (T4 k) [1, 0, 1, 0] (Al Tryz.f274) 0 (Xv8 k v wx K)) n (Xqh v wx x8_0 m1100_0)
def Jq {β : Type} (NX : Int → (den Ac) → Option β) (RET : (Int × (den Ac)) → Option β) (k : Nat) (v : Ak) (wx : (den Ac)) (x8_0 : Int) (m1100_0 : (den Ac)) : Option β := cond (decide (x8_0 < (v.length : Int))) (A1 x8_0 v ((Xgx k (Ap v x8_0) m1100_0).bind fun b1 => cond b1.1 (RET (x8_0, b1.2)) (NX (i64.wrap (x8_0 + 1)) b1.2))) (RET ((-1), m1100_0))
def Jn (k : Nat) (v : Ak) (wx : (den Ac)) : Nat → Int → (den Ac) → Option (Int × (den Ac))
 | 0, _, _ => none
 | n + 1, x8_0, m1100_0 => Jq (Jn k v wx n) some k v wx x8_0 m1100_0
theorem Xaj {β : Type} (k : Nat) (v : Ak) (wx : (den Ac)) (K : KT β) (n : Nat) : ∀ (x8_0 : Int) (m1100_0 : (den Ac)), Mz k v wx K n x8_0 m1100_0 =
  (Jn k v wx n x8_0 m1100_0).bind fun r => K (F274_O.put r) := by
 induction n with
 | zero => intros; rfl
 | succ n ih =>
  intro x8_0 m1100_0
  refine Eq.trans (b := Jq (Mz k v wx K n) (fun r => K (F274_O.put r)) k v wx x8_0 m1100_0) (by kernel_rfl) ?_
  rw [Jn]
  simp only [Jq, z1, z2, z3, z4, z5, z6, z7, z8, Aw, ih]
def Xdb {β : Type} (LP0 : Int → (den Ac) → Option β) (k : Nat) (v : Ak) (wx : (den Ac)) : Option β := LP0 0 wx
def Xlh (k : Nat) (v : Ak) (wx : (den Ac)) : Option (Int × (den Ac)) := Xdb (Jn k v wx k) k v wx
theorem Xq9 {β : Type} (k : Nat) (v : Ak) (wx : (den Ac)) (K : KT β) : Ag (T4 k) Tryz.f274 (PsT.put Xag (v, (wx, ()), ())) K = (Xlh k v wx).bind fun r => K (F274_O.put r) :=
 Eq.trans (b := Xdb (Mz k v wx K k) k v wx) (by kernel_rfl) (by simp only [Xlh, Xdb, z1, z2, z3, z4, z5, z6, z7, z8, Aw, Xaj])
def Xj8 (k : Nat) : FD := ⟨274, Xag, F274_O, Xlh k⟩
theorem Xw7 (k : Nat) : (Xj8 k).Ok Tryz.prog := ⟨fun x => Ab (Am (Aj (.c (Xxb k) .n)) _ _ _ _) Ah Tryz.func274 rfl rfl (Xq9 k _ _ some), .of (by kernel_rfl)⟩
abbrev Xwk (k : Nat) : Env := Bc (Az [Xj8 k]) An .own [(false, 1100), (false, 1101), (false, 1102), (false, 1103), (false, 1104), (false, 1105), (false, 1106), (false, 1107), (false, 1108)] k
abbrev Xj1 : List PA := [.one (.sl .ro Ac), .fc 273 [.pair mI C1]]
abbrev F272_O : RO := ⟨[.v], [mB, .pair mI C1]⟩
def Xgo (k : Nat) (v : Ak) (wx : (den Ac)) : Option (Bool × (den Ac)) := (Xlh k v wx).bind fun b1 => some (decide (b1.1 ≥ 0), b1.2)
theorem Xtl {β : Type} (k : Nat) (v : Ak) (wx : (den Ac)) (K : KT β) : Ag (Xwk k) Tryz.f272 (PsT.put Xj1 (v, (wx, ()), ())) K = (Xgo k v wx).bind fun r => K (F272_O.put r) :=
 Eq.trans (b := (Xlh k v wx).bind fun b1 => K (F272_O.put (decide (b1.1 ≥ 0), b1.2))) (by kernel_rfl) (by simp only [Xgo, z1, z2, z3, z4, z5, z6, z7, z8, Aw])
def Xn8 (k : Nat) : FD := ⟨272, Xj1, F272_O, Xgo k⟩
theorem X13 (k : Nat) : (Xn8 k).Ok Tryz.prog := ⟨fun x => Ab (Am (Aj (.c (Xw7 k) .n)) _ _ _ _) Ah Tryz.func272 rfl rfl (Xtl k _ _ some), .of (by kernel_rfl)⟩
abbrev Xzp (k : Nat) : Env := Bc Bv An .own [(false, 1000), (false, 1001), (false, 1002), (false, 1003), (false, 1004), (false, 1005), (false, 1006), (false, 1007), (false, 1008)] k
abbrev Xlw : List PA := [.agg (.pair mI C1), .p (.pair mI C1)]
abbrev F275_O : RO := ⟨[.v], [mB, .pair mI C1]⟩
def Xf6 (k : Nat) (v w : (den Ac)) : Option (Bool × (den Ac)) := some (decide (v.2.2.2.2.2.1 > w.2.2.2.2.2.1), w)
theorem Xs3 {β : Type} (k : Nat) (v w : (den Ac)) (K : KT β) : Ag (Xzp k) Tryz.f275 (PsT.put Xlw (v, w, ())) K = (Xf6 k v w).bind fun r => K (F275_O.put r) :=
 Eq.trans (b := K (F275_O.put (decide (v.2.2.2.2.2.1 > w.2.2.2.2.2.1), w))) (by kernel_rfl) (by simp only [Xf6, z1, z2, z3, z4, z5, z6, z7, z8, Aw])
def Xld (k : Nat) : FD := ⟨275, Xlw, F275_O, Xf6 k⟩
theorem X0t (k : Nat) : (Xld k).Ok Tryz.prog := ⟨fun x => Ab (Am .none _ _ _ _) Ah Tryz.func275 rfl rfl (Xs3 k _ _ some), .of (by kernel_rfl)⟩
def Xnl : Nat → Hint
 | 0 => ⟨pl 0 2 (pl 7 2 []), pl 1100 9 []⟩
 | _ => ⟨[], []⟩
abbrev Ma (k : Nat) : Env := Bc (Az [Xld k]) Xnl .own [(false, 1100), (false, 1101), (false, 1102), (false, 1103), (false, 1104), (false, 1105), (false, 1106), (false, 1107), (false, 1108)] k
abbrev Q5 : List PA := [.one (.sl .ro Ac), .fc 275 [.pair mI C1]]
abbrev F274_2_O : RO := ⟨[.v], [mI, .pair mI C1]⟩
noncomputable def Xjs {β : Type} (k : Nat) (v : Ak) (wx : (den Ac)) (K : KT β) : Ex → St → Option β := Br (Ma k) Tryz.f274 (PsT.put Q5 (v, (wx, ()), ())) K
def Xhu (v : Ak) (wx : (den Ac)) (x8_0 : Int) (m1100_0 : (den Ac)) : St := ⟨(.one (.s .ro Ac v)) :: (.one (.fn 275 [((.cell 1100), 9, 0)])) :: dz 5 ((.one (vI (v.length : Int))) :: (.one (vI x8_0)) :: dz 10 []), A7 1100 (Ce (.pair mI C1) m1100_0) []⟩
noncomputable def H4 {β : Type} (k : Nat) (v : Ak) (wx : (den Ac)) (K : KT β) (n : Nat) (x8_0 : Int) (m1100_0 : (den Ac)) : Option β := A3 (Ma k) Tryz.f274 [1, 0, 1, 0] 0 (Ai (Ma k) [1, 0, 1, 0] (Al Tryz.f274) 0 (Xjs k v wx K)) n (Xhu v wx x8_0 m1100_0)
def Fg {β : Type} (NX : Int → (den Ac) → Option β) (RET : (Int × (den Ac)) → Option β) (k : Nat) (v : Ak) (wx : (den Ac)) (x8_0 : Int) (m1100_0 : (den Ac)) : Option β := cond (decide (x8_0 < (v.length : Int))) (A1 x8_0 v ((Xf6 k (Ap v x8_0) m1100_0).bind fun b1 => cond b1.1 (RET (x8_0, b1.2)) (NX (i64.wrap (x8_0 + 1)) b1.2))) (RET ((-1), m1100_0))
def Ei (k : Nat) (v : Ak) (wx : (den Ac)) : Nat → Int → (den Ac) → Option (Int × (den Ac))
 | 0, _, _ => none
 | n + 1, x8_0, m1100_0 => Fg (Ei k v wx n) some k v wx x8_0 m1100_0
theorem Vf {β : Type} (k : Nat) (v : Ak) (wx : (den Ac)) (K : KT β) (n : Nat) : ∀ (x8_0 : Int) (m1100_0 : (den Ac)), H4 k v wx K n x8_0 m1100_0 =
  (Ei k v wx n x8_0 m1100_0).bind fun r => K (F274_2_O.put r) := by
 induction n with
 | zero => intros; rfl
 | succ n ih =>
  intro x8_0 m1100_0
  refine Eq.trans (b := Fg (H4 k v wx K n) (fun r => K (F274_2_O.put r)) k v wx x8_0 m1100_0) (by kernel_rfl) ?_
  rw [Ei]
  simp only [Fg, z1, z2, z3, z4, z5, z6, z7, z8, Aw, ih]
def Pv {β : Type} (LP0 : Int → (den Ac) → Option β) (k : Nat) (v : Ak) (wx : (den Ac)) : Option β := LP0 0 wx
def Wv (k : Nat) (v : Ak) (wx : (den Ac)) : Option (Int × (den Ac)) := Pv (Ei k v wx k) k v wx
theorem Xhc {β : Type} (k : Nat) (v : Ak) (wx : (den Ac)) (K : KT β) : Ag (Ma k) Tryz.f274 (PsT.put Q5 (v, (wx, ()), ())) K = (Wv k v wx).bind fun r => K (F274_2_O.put r) :=
 Eq.trans (b := Pv (H4 k v wx K k) k v wx) (by kernel_rfl) (by simp only [Wv, Pv, z1, z2, z3, z4, z5, z6, z7, z8, Aw, Vf])
def Zw (k : Nat) : FD := ⟨274, Q5, F274_2_O, Wv k⟩
theorem Xlv (k : Nat) : (Zw k).Ok Tryz.prog := ⟨fun x => Ab (Am (Aj (.c (X0t k) .n)) _ _ _ _) Ah Tryz.func274 rfl rfl (Xhc k _ _ some), .of (by kernel_rfl)⟩
abbrev Xzy (k : Nat) : Env := Bc Bv An .own [] k
abbrev Xmi : List PA := [.one (.sl .ro Ac)]
abbrev F277_O : RO := ⟨[.v], [.sl .sown Ac]⟩
def Xm {β : Type} (RET : Ak → Option β) (k : Nat) (v : Ak) : Option β := cond (decide (v.length = 0)) none (Bh (([] : Ak).length) (v.length) 80 (RET ([] ++ v)))
def Xce := Xm (β := Ak) some
theorem Xqi {β : Type} (k : Nat) (v : Ak) (K : KT β) : Ag (Xzy k) Tryz.f277 (PsT.put Xmi (v, ())) K = (Xce k v).bind fun r => K (F277_O.put r) :=
 Eq.trans (b := Xm (fun r => K (F277_O.put r)) k v) (by kernel_rfl) (by simp only [Xce, Xm, z1, z2, z3, z4, z5, z6, z7, z8])
def Xl6 (k : Nat) : FD := ⟨277, Xmi, F277_O, Xce k⟩
theorem Xyk (k : Nat) : (Xl6 k).Ok Tryz.prog := ⟨fun x => Ab (Am .none _ _ _ _) Ah Tryz.func277 rfl rfl (Xqi k _ some), .of (by kernel_rfl)⟩
abbrev Xvo (k : Nat) : Env := Bc Bv An .own [] k
abbrev Xim : List PA := [.one (.sl .sown Ac), .one mI, .one (.sl .ro Ac)]
abbrev F276_O : RO := ⟨[.v], [.sl .sown Ac]⟩
def Vy {β : Type} (RET : Ak → Option β) (k : Nat) (v : Ak) (w : Int) (p : Ak) : Option β := cond (decide (0 ≤ w) && decide (w ≤ (v.length : Int))) (cond ((p.length : Int) == 0) (RET v) (cond (w == (v.length : Int)) (Bh (v.length) (p.length) 80 (RET (v ++ p))) none)) none
def Xcj := Vy (β := Ak) some
theorem Xs4 {β : Type} (k : Nat) (v : Ak) (w : Int) (p : Ak) (K : KT β) : Ag (Xvo k) Tryz.f276 (PsT.put Xim (v, w, p, ())) K = (Xcj k v w p).bind fun r => K (F276_O.put r) :=
 Eq.trans (b := Vy (fun r => K (F276_O.put r)) k v w p) (by kernel_rfl) (by simp only [Xcj, Vy, z1, z2, z3, z4, z5, z6, z7, z8])
def Xlx (k : Nat) : FD := ⟨276, Xim, F276_O, Xcj k⟩
theorem Xwi (k : Nat) : (Xlx k).Ok Tryz.prog := ⟨fun x => Ab (Am .none _ _ _ _) Ah Tryz.func276 rfl rfl (Xs4 k _ _ _ some), .of (by kernel_rfl)⟩
abbrev Xx0 (k : Nat) : Env := Bc (Az [Xn8 k, Xbl k, Zw k, Xl6 k, Xlx k, Xad k]) An .own [] k
abbrev Xll : List PA := [.agg (.pair (.sl .ro Ac) mI), .agg (.pair mI C1)]
abbrev F218_O : RO := ⟨[.a, .v], [.pair (.sl .own Ac) mI, mB]⟩
def Wr {β : Type} (RET : (den Ax) × Bool → Option β) (k : Nat) (v : (den Ax)) (w : (den Ac)) : Option β := Bb v fun v0 v1 => (Xgo k v0 w).bind fun b1 => cond b1.1 ((Rr k v).bind fun b2 => RET (b2, true)) ((Wv k v0 b1.2).bind fun b3 => cond (decide (b3.1 < 0)) ((Xce k v0).bind fun b4 => (Xcj k b4 (v0.length : Int) [b3.2]).bind fun b5 => (Xbe k (b5, v1)).bind fun b6 => cond (!b6) (RET (([], 0), false)) ((Rr k (b5, v1)).bind fun b7 => RET (b7, true))) ((Xce k v0).bind fun b8 => (Xcj k b8 b3.1 [b3.2]).bind fun b9 => (Xbe k (b9, v1)).bind fun b10 => cond (!b10) (RET (([], 0), false)) ((Rr k (b9, v1)).bind fun b11 => RET (b11, true))))
def Xia := Wr (β := (den Ax) × Bool) some
theorem Xsm {β : Type} (k : Nat) (v : (den Ax)) (w : (den Ac)) (K : KT β) : Ag (Xx0 k) Tryz.f218 (PsT.put Xll (v, w, ())) K = (Xia k v w).bind fun r => K (F218_O.put r) :=
 Eq.trans (b := Wr (fun r => K (F218_O.put r)) k v w) (by kernel_rfl) (by simp only [Xia, Wr, z1, z2, z3, z4, z5, z6, z7, z8, Aw, Bb])
def Xl7 (k : Nat) : FD := ⟨218, Xll, F218_O, Xia k⟩
theorem Xyy (k : Nat) : (Xl7 k).Ok Tryz.prog := ⟨fun x => Ab (Am (Aj (.c (X13 k) (.c (Xip k) (.c (Xlv k) (.c (Xyk k) (.c (Xwi k) (.c (Xmt k) .n))))))) _ _ _ _) Ah Tryz.func218 rfl rfl (Xsm k _ _ some), .of (by kernel_rfl)⟩
abbrev Xvx : List PA := [.one (.sl .sown Ax), .one mI, .one mI]
abbrev Xzv : RO := ⟨[.v], [.sl .own Ax]⟩
def Xsb (k : Nat) (v : Ad) (w p : Int) : Option (Ad) := De.del v w p
def Xlq (k : Nat) : FD := ⟨219, Xvx, Xzv, Xsb k⟩
theorem X1l (k : Nat) : (Xlq k).Ok Tryz.prog := ⟨fun x => De.con x.1 x.2.1 x.2.2.1, .of (by kernel_rfl)⟩
def X2c : Nat → Hint
 | 0 => ⟨pl 1 2 (pl 4 2 (pl 15 3 [])), pl 1000 2 (pl 2000 9 (pl 4000 8 ((4008, .own .own (.int .u8) []) :: [])))⟩
 | _ => ⟨[], []⟩
abbrev Xs (k : Nat) : Env := Bc (Az [Oj k]) X2c .own [] k
abbrev Xbp : List PA := [.agg (.pair (.sl .ro Ac) mI)]
abbrev F220_O : RO := ⟨[.a, .v], [.pair mI m_8, mB]⟩
noncomputable def Xzn {β : Type} (k : Nat) (v : (den Ax)) (K : KT β) : Ex → St → Option β := Br (Xs k) Tryz.f220 (PsT.put Xbp (v, ())) K
def Xrq (v : (den Ax)) (x5_0 x17_0 : Int) (m4000_0 : (den Ac)) : St := ⟨(.one .d) :: (.one (.ptr (.cell 1000) 2 0)) :: (.one (.ptr (.cell 2000) 9 0)) :: (.one .d) :: (.one (.ptr (.cell 4000) 9 0)) :: (.one (vI x5_0)) :: dz 9 ((.one (.s .ro Ac v.1)) :: (.one (vI (v.1.length : Int))) :: (.one (vI x17_0)) :: dz 33 []), A7 1000 (Ce (.pair (.sl .ro Ac) mI) v) (A7 2000 (Ce (.pair mI m_8) (0, 0, 0, 0, 0, 0, false, false, [])) (A7 4000 (Ce (.pair mI m_8) m4000_0) []))⟩
noncomputable def Mp {β : Type} (k : Nat) (v : (den Ax)) (K : KT β) (n : Nat) (x5_0 x17_0 : Int) (m4000_0 : (den Ac)) : Option β := A3 (Xs k) Tryz.f220 [1, 1, 1, 1, 0, 1, 0] 0 (Ai (Xs k) [1, 1, 1, 1, 0, 1, 0] (Al Tryz.f220) 0 (Xzn k v K)) n (Xrq v x5_0 x17_0 m4000_0)
def Gg {β : Type} (NX : Int → Int → (den Ac) → Option β) (RET : (den Ac) × Bool → Option β) (k : Nat) (v : (den Ax)) (x5_0 x17_0 : Int) (m4000_0 : (den Ac)) : Option β := Bb v fun v0 _ => cond (decide (x17_0 < (v0.length : Int))) (A1 x17_0 v0 (cond ((Ap v0 x17_0).2.2.2.2.2.1 != x5_0) (RET ((0, 0, 0, 0, 0, 0, false, false, []), false)) (Bh (m4000_0.2.2.2.2.2.2.2.2.length) ((Ap v0 x17_0).2.2.2.2.2.2.2.2.length) 1 (NX (i64.wrap (x5_0 + ((Ap v0 x17_0).2.2.2.2.2.2.2.2.length : Int))) (i64.wrap (x17_0 + 1)) (m4000_0.1, m4000_0.2.1, m4000_0.2.2.1, m4000_0.2.2.2.1, m4000_0.2.2.2.2.1, m4000_0.2.2.2.2.2.1, m4000_0.2.2.2.2.2.2.1, m4000_0.2.2.2.2.2.2.2.1, m4000_0.2.2.2.2.2.2.2.2 ++ (Ap v0 x17_0).2.2.2.2.2.2.2.2))))) (A1 (i64.wrap ((v0.length : Int) - 1)) v0 (cond (Ap v0 (i64.wrap ((v0.length : Int) - 1))).2.2.2.2.2.2.1 (RET ((0, 0, 0, 0, 0, 0, false, false, []), false)) ((O9 k (m4000_0.1, m4000_0.2.1, m4000_0.2.2.1, m4000_0.2.2.2.1, m4000_0.2.2.2.2.1, m4000_0.2.2.2.2.2.1, false, m4000_0.2.2.2.2.2.2.2)).bind fun b2 => RET (b2, true))))
def Hg (k : Nat) (v : (den Ax)) : Nat → Int → Int → (den Ac) → Option ((den Ac) × Bool)
 | 0, _, _, _ => none
 | n + 1, x5_0, x17_0, m4000_0 => Gg (Hg k v n) some k v x5_0 x17_0 m4000_0
theorem Xb2 {β : Type} (k : Nat) (v : (den Ax)) (K : KT β) (n : Nat) : ∀ (x5_0 x17_0 : Int) (m4000_0 : (den Ac)), Mp k v K n x5_0 x17_0 m4000_0 =
  (Hg k v n x5_0 x17_0 m4000_0).bind fun r => K (F220_O.put r) := by
 induction n with
 | zero => intros; rfl
 | succ n ih =>
  intro x5_0 x17_0 m4000_0
  refine Eq.trans (b := Gg (Mp k v K n) (fun r => K (F220_O.put r)) k v x5_0 x17_0 m4000_0) (by kernel_rfl) ?_
  rw [Hg]
  simp only [Gg, z1, z2, z3, z4, z5, z6, z7, z8, Bb, ih]
def Vn {β : Type} (LP0 : Int → Int → (den Ac) → Option β) (k : Nat) (v : (den Ax)) : Option β := cond (decide (0 < (v.1.length : Int))) ((O9 k (Ap v.1 0)).bind fun b1 => LP0 0 0 (b1.1, b1.2.1, b1.2.2.1, b1.2.2.2.1, b1.2.2.2.2.1, b1.2.2.2.2.2.1, b1.2.2.2.2.2.2.1, b1.2.2.2.2.2.2.2.1, [])) none
def Xh3 (k : Nat) (v : (den Ax)) : Option ((den Ac) × Bool) := Vn (Hg k v k) k v
theorem Xr5 {β : Type} (k : Nat) (v : (den Ax)) (K : KT β) : Ag (Xs k) Tryz.f220 (PsT.put Xbp (v, ())) K = (Xh3 k v).bind fun r => K (F220_O.put r) :=
 Eq.trans (b := Vn (Mp k v K k) k v) (by kernel_rfl) (by simp only [Xh3, Vn, z1, z2, z3, z4, z5, z6, z7, z8, Bb, Xb2])
def Xi9 (k : Nat) : FD := ⟨220, Xbp, F220_O, Xh3 k⟩
theorem Xvs (k : Nat) : (Xi9 k).Ok Tryz.prog := ⟨fun x => Ab (Am (Aj (.c (Rl k) .n)) _ _ _ _) Ah Tryz.func220 rfl rfl (Xr5 k _ some), .of (by kernel_rfl)⟩
end
end Go.Proofs.YtdmepjjepogddaaGreat.Gn
end

section
set_option linter.unusedVariables false
set_option linter.unusedSimpArgs false
namespace Go.Proofs.YtdmepjjepogddaaGreat.Gn
open Go.Rf IntKind
noncomputable section
abbrev Xyx (k : Nat) : Env := { Bc (Az [Xjq k, Xd8 k, Hq k, Xjk k, Xpa k, Oj k, Zf k, Xl7 k, Xlq k, Xi9 k]) An .own [] k with frz := [70] }
abbrev Xlk : List PA := [.one (.sl .ro Ax), .agg (.pair mI C1), .one mI]
abbrev F141_O : RO := ⟨[.v, .a, .v], [.sl .own Ax, .pair mI m_8, mB]⟩
def L0 {β : Type} (k : Nat) (v : Ad) (w : (den Ac)) (p : Int) (RET : (Ad × (den Ac) × Bool) → Option β) (b5 : Ad × Int) : Option β := (Ic k b5.1 w).bind fun b8 => cond (decide (b8.1 < 0)) (Bh (b8.2.1.length) ([([b8.2.2], i64.wrap (b5.2 + 15))].length) 32 (cond (decide (0 ≤ (if 0 < (i64.wrap (((b8.2.1 ++ [([b8.2.2], i64.wrap (b5.2 + 15))]).length : Int) - 3)) then i64.wrap (((b8.2.1 ++ [([b8.2.2], i64.wrap (b5.2 + 15))]).length : Int) - 3) else 0)) && decide ((if 0 < (i64.wrap (((b8.2.1 ++ [([b8.2.2], i64.wrap (b5.2 + 15))]).length : Int) - 3)) then i64.wrap (((b8.2.1 ++ [([b8.2.2], i64.wrap (b5.2 + 15))]).length : Int) - 3) else 0) ≤ ((b8.2.1 ++ [([b8.2.2], i64.wrap (b5.2 + 15))]).length : Int))) ((Ny k (((b8.2.1 ++ [([b8.2.2], i64.wrap (b5.2 + 15))]).take ((((b8.2.1 ++ [([b8.2.2], i64.wrap (b5.2 + 15))]).length : Int)).toNat)).drop ((if 0 < (i64.wrap (((b8.2.1 ++ [([b8.2.2], i64.wrap (b5.2 + 15))]).length : Int) - 3)) then i64.wrap (((b8.2.1 ++ [([b8.2.2], i64.wrap (b5.2 + 15))]).length : Int) - 3) else 0).toNat))).bind fun b9 => RET (b9, (0, 0, 0, 0, 0, 0, false, false, []), false)) none)) (A1 b8.1 b8.2.1 ((Xia k (Ap b8.2.1 b8.1) b8.2.2).bind fun b10 => cond (!b10.2) ((Xsb k b8.2.1 b8.1 (i64.wrap (b8.1 + 1))).bind fun b11 => (Ny k b11).bind fun b12 => RET (b12, (0, 0, 0, 0, 0, 0, false, false, []), false)) ((Xh3 k b10.1).bind fun b13 => cond b13.2 ((Xsb k b8.2.1 b8.1 (i64.wrap (b8.1 + 1))).bind fun b14 => (Ny k b14).bind fun b15 => RET (b15, b13.1, true)) (A1 b8.1 b8.2.1 ((Ny k (b8.2.1.set b8.1.toNat b10.1)).bind fun b16 => RET (b16, (0, 0, 0, 0, 0, 0, false, false, []), false))))))
def M0 {β : Type} (RET : (Ad × (den Ac) × Bool) → Option β) (k : Nat) (v : Ad) (w : (den Ac)) (p : Int) : Option β := (X6 k v).bind fun b1 => cond (!b1) (RET ([], (0, 0, 0, 0, 0, 0, false, false, []), false)) ((F89 k w).bind fun b2 => cond (!b2) (RET ([], (0, 0, 0, 0, 0, 0, false, false, []), false)) ((R6 k p 0 999985).bind fun b3 => cond (!b3) (RET ([], (0, 0, 0, 0, 0, 0, false, false, []), false)) ((Ny k v).bind fun b4 => (Yn k b4 p).bind fun b5 => cond (w.2.2.2.2.2.1 == 0) (cond (!w.2.2.2.2.2.2.1) ((Ny k b5.1).bind fun b6 => (O9 k w).bind fun b7 => RET (b6, b7, true)) (L0 k v w p RET b5)) (L0 k v w p RET b5))))
def Qg := M0 (β := Ad × (den Ac) × Bool) some
theorem Xry {β : Type} (k : Nat) (v : Ad) (w : (den Ac)) (p : Int) (K : KT β) : Ag (Xyx k) Tryz.f141 (PsT.put Xlk (v, w, p, ())) K = (Qg k v w p).bind fun r => K (F141_O.put r) :=
 Eq.trans (b := M0 (fun r => K (F141_O.put r)) k v w p) (by kernel_rfl) (by simp only [Qg, M0, L0, z1, z2, z3, z4, z5, z6, z7, z8, Aw])
def Xpf (k : Nat) : FD := ⟨141, Xlk, F141_O, Qg k⟩
theorem Xxm (k : Nat) : (Xpf k).Ok Tryz.prog := ⟨fun x => Ab (W5 [70] (Aj (.c (Xx9 k) (.c (Xke k) (.c (Iv k) (.c (X0j k) (.c (Xvl k) (.c (Rl k) (.c (Xi4 k) (.c (Xyy k) (.c (X1l k) (.c (Xvs k) .n))))))))))) _ _ _ _) Ah Tryz.func141 rfl rfl (Xry k _ _ _ some), .of (by kernel_rfl)⟩
def X2s : Nat → Hint
 | 0 => ⟨(15, .own .own Ax []) :: (pl 35 3 []), pl 33000 1 []⟩
 | _ => ⟨[], []⟩
abbrev Xe6 (k : Nat) : Env := Bc (Az [Xkp k, Xpf k, Qk k]) X2s .own [] k
abbrev Xm9 : List PA := [.one (.sl .ro sta), .one mI, .one mI, .one mI, .one mI, .one (.sl .ro (.int .u8))]
abbrev F66_O : RO := ⟨[.v, .v], [.sl .own (.int .u8), mB]⟩
noncomputable def X3o {β : Type} (k : Nat) (v : Af) (w p q o : Int) (c : Aa) (K : KT β) : Ex → St → Option β := Br (Xe6 k) Tryz.f66 (PsT.put Xm9 (v, w, p, q, o, c, ())) K
def Xz8 (v : Af) (w p q o : Int) (c : Aa) (x36_0 x37_0 : Int) (m33000_0 : Ak) (m15900_0 : Ad) : St := ⟨dz 15 ((.one (.a (.cell 15900) 0 0 none)) :: dz 19 ((.one (.a (.cell 33000) 0 0 none)) :: (.one (vI x36_0)) :: (.one (vI x37_0)) :: dz 16 [])), [eM 33000 (.s .own Ac m33000_0), eM 15900 (.s .own Ax m15900_0)]⟩
noncomputable def Qw {β : Type} (k : Nat) (v : Af) (w p q o : Int) (c : Aa) (K : KT β) (n : Nat) (x36_0 x37_0 : Int) (m33000_0 : Ak) (m15900_0 : Ad) : Option β := A3 (Xe6 k) Tryz.f66 [1, 1, 1, 0, 1, 0] 0 (Ai (Xe6 k) [1, 1, 1, 0, 1, 0] (Al Tryz.f66) 0 (X3o k v w p q o c K)) n (Xz8 v w p q o c x36_0 x37_0 m33000_0 m15900_0)
def Ih {β : Type} (NX : Int → Int → Ak → Ad → Option β) (RET : (Aa × Bool) → Option β) (k : Nat) (v : Af) (w p q o : Int) (c : Aa) (x36_0 x37_0 : Int) (m33000_0 : Ak) (m15900_0 : Ad) : Option β := cond (decide (x37_0 < x36_0)) (A1 x37_0 m33000_0 ((Qg k m15900_0 (Ap m33000_0 x37_0) 0).bind fun b2 => cond b2.2.2 ((Q8 k b2.2.1.2.2.2.2.2.2.2.2).bind fun b3 => RET (b3, true)) (NX x36_0 (i64.wrap (x37_0 + 1)) m33000_0 b2.1))) (RET ([], false))
def Iy (k : Nat) (v : Af) (w p q o : Int) (c : Aa) : Nat → Int → Int → Ak → Ad → Option (Aa × Bool)
 | 0, _, _, _, _ => none
 | n + 1, x36_0, x37_0, m33000_0, m15900_0 => Ih (Iy k v w p q o c n) some k v w p q o c x36_0 x37_0 m33000_0 m15900_0
theorem Xha {β : Type} (k : Nat) (v : Af) (w p q o : Int) (c : Aa) (K : KT β) (n : Nat) : ∀ (x36_0 x37_0 : Int) (m33000_0 : Ak) (m15900_0 : Ad), Qw k v w p q o c K n x36_0 x37_0 m33000_0 m15900_0 =
  (Iy k v w p q o c n x36_0 x37_0 m33000_0 m15900_0).bind fun r => K (F66_O.put r) := by
 induction n with
 | zero => intros; rfl
 | succ n ih =>
  intro x36_0 x37_0 m33000_0 m15900_0
  refine Eq.trans (b := Ih (Qw k v w p q o c K n) (fun r => K (F66_O.put r)) k v w p q o c x36_0 x37_0 m33000_0 m15900_0) (by kernel_rfl) ?_
  rw [Iy]
  simp only [Ih, z1, z2, z3, z4, z5, z6, z7, z8, ih]
def Xeq {β : Type} (LP0 : Int → Int → Ak → Ad → Option β) (k : Nat) (v : Af) (w p q o : Int) (c : Aa) : Option β := A1 w v ((Xgk k v w ((Ap v w).1, p, q, 64, o, 0, false, false, c)).bind fun b1 => LP0 (b1.1.length : Int) 0 b1.1 [])
def F66 (k : Nat) (v : Af) (w p q o : Int) (c : Aa) : Option (Aa × Bool) := Xeq (Iy k v w p q o c k) k v w p q o c
theorem Xx5 {β : Type} (k : Nat) (v : Af) (w p q o : Int) (c : Aa) (K : KT β) : Ag (Xe6 k) Tryz.f66 (PsT.put Xm9 (v, w, p, q, o, c, ())) K = (F66 k v w p q o c).bind fun r => K (F66_O.put r) :=
 Eq.trans (b := Xeq (Qw k v w p q o c K k) k v w p q o c) (by kernel_rfl) (by simp only [F66, Xeq, z1, z2, z3, z4, z5, z6, z7, z8, Xha])
def Xvd (k : Nat) : FD := ⟨66, Xm9, F66_O, F66 k⟩
theorem X36 (k : Nat) : (Xvd k).Ok Tryz.prog := ⟨fun x => Ab (Am (Aj (.c (Xy4 k) (.c (Xxm k) (.c (Uw k) .n)))) _ _ _ _) Ah Tryz.func66 rfl rfl (Xx5 k _ _ _ _ _ _ some), .of (by kernel_rfl)⟩
abbrev X3j (k : Nat) : Env := Bc (Az [Xmo k, Hq k, O1 k, Xvd k]) An .own [] k
abbrev Xvh : List PA := [.one (.sl .ro sta), .one mI, .one mI, .one mI, .one mI, .one (.sl .ro (.int .u8))]
abbrev F16_O : RO := ⟨[.v, .v], [.sl .own (.int .u8), mB]⟩
def Xe3 {β : Type} (RET : (Aa × Bool) → Option β) (k : Nat) (v : Af) (w p q o : Int) (c : Aa) : Option β := (F31 k v).bind fun b1 => cond (!b1) (RET ([], false)) ((R6 k w 0 (i64.wrap ((v.length : Int) - 1))).bind fun b2 => cond (!b2) (RET ([], false)) ((Z1 k p).bind fun b3 => cond (!b3) (RET ([], false)) ((R6 k q 0 255).bind fun b4 => cond (!b4) (RET ([], false)) ((R6 k o 0 255).bind fun b5 => cond (!b5) (RET ([], false)) (cond (decide ((c.length : Int) > 48)) (RET ([], false)) ((F66 k v w p q o c).bind fun b6 => RET b6))))))
def F16 := Xe3 (β := Aa × Bool) some
theorem Xzb {β : Type} (k : Nat) (v : Af) (w p q o : Int) (c : Aa) (K : KT β) : Ag (X3j k) Tryz.f16 (PsT.put Xvh (v, w, p, q, o, c, ())) K = (F16 k v w p q o c).bind fun r => K (F16_O.put r) :=
 Eq.trans (b := Xe3 (fun r => K (F16_O.put r)) k v w p q o c) (by kernel_rfl) (by simp only [F16, Xe3, z1, z2, z3, z4, z5, z6, z7, z8])
def Xuy (k : Nat) : FD := ⟨16, Xvh, F16_O, F16 k⟩
theorem X33 (k : Nat) : (Xuy k).Ok Tryz.prog := ⟨fun x => Ab (Am (Aj (.c (Xuu k) (.c (Iv k) (.c (P8 k) (.c (X36 k) .n))))) _ _ _ _) Ah Tryz.func16 rfl rfl (Xzb k _ _ _ _ _ _ some), .of (by kernel_rfl)⟩
abbrev X2g (k : Nat) : Env := Bc (Az [Hq k, Xec k]) An .own [] k
abbrev Xus : List PA := [.one mI, .one mI]
abbrev F73_O : RO := ⟨[.v], [.sl .own (.int .u8)]⟩
def Xfc {β : Type} (RET : Aa → Option β) (k : Nat) (v w : Int) : Option β := (R6 k w 1 4).bind fun b1 => cond (!b1) (RET []) (cond (decide ((i64.wrap (8 * w)) < 0)) none ((R6 k v 0 (i64.wrap ((i64.wrap (1 * 2 ^ (min (i64.wrap (8 * w)).toNat 64))) - 1))).bind fun b2 => cond (!b2) (RET []) ((F93 k v w).bind fun b3 => RET b3)))
def F73 := Xfc (β := Aa) some
theorem Xzg {β : Type} (k : Nat) (v w : Int) (K : KT β) : Ag (X2g k) Tryz.f73 (PsT.put Xus (v, w, ())) K = (F73 k v w).bind fun r => K (F73_O.put r) :=
 Eq.trans (b := Xfc (fun r => K (F73_O.put r)) k v w) (by kernel_rfl) (by simp only [F73, Xfc, z1, z2, z3, z4, z5, z6, z7, z8])
def Xva (k : Nat) : FD := ⟨73, Xus, F73_O, F73 k⟩
theorem X2q (k : Nat) : (Xva k).Ok Tryz.prog := ⟨fun x => Ab (Am (Aj (.c (Iv k) (.c (Xmm k) .n))) _ _ _ _) Ah Tryz.func73 rfl rfl (Xzg k _ _ some), .of (by kernel_rfl)⟩
def X2m : Nat → Hint
 | 0 => ⟨pl 0 1 (pl 2 1 (pl 7 2 (pl 30 2 []))), []⟩
 | _ => ⟨[], []⟩
abbrev Xer (k : Nat) : Env := Bc (Az [Xmo k, Hq k, O1 k, Xjg k, Xfl k]) X2m .own [] k
abbrev Xpd : List PA := [.one (.sl .ro sta), .one mI, .one mI]
abbrev F25_O : RO := ⟨[.v], [mI]⟩
noncomputable def X2r {β : Type} (k : Nat) (v : Af) (w p : Int) (K : KT β) : Ex → St → Option β := Br (Xer k) Tryz.f25 (PsT.put Xpd (v, w, p, ())) K
def X01 (v : Af) (w p : Int) (x7_0 x8_0 x31_0 : Int) : St := ⟨(.one (.s .ro sta v)) :: (.one .d) :: (.one (vI p)) :: dz 4 ((.one (vI x7_0)) :: (.one (vI x8_0)) :: dz 21 ((.one (vI (i64.wrap ((v.length : Int) + 1)))) :: (.one (vI x31_0)) :: dz 32 [])), []⟩
noncomputable def P1 {β : Type} (k : Nat) (v : Af) (w p : Int) (K : KT β) (n : Nat) (x7_0 x8_0 x31_0 : Int) : Option β := A3 (Xer k) Tryz.f25 [1, 1, 1, 1, 0, 1, 0] 0 (Ai (Xer k) [1, 1, 1, 1, 0, 1, 0] (Al Tryz.f25) 0 (X2r k v w p K)) n (X01 v w p x7_0 x8_0 x31_0)
def Ga {β : Type} (NX : Int → Int → Int → Option β) (RET : Int → Option β) (k : Nat) (v : Af) (w p : Int) (x7_0 x8_0 x31_0 : Int) : Option β := cond (decide (x31_0 < (i64.wrap ((v.length : Int) + 1)))) (cond (decide (x8_0 < 0)) (RET 0) (A1 x8_0 v (cond ((Ap v x8_0).1 == p) (RET x7_0) (A1 x8_0 v ((F74 k (Ap v x8_0).2 p 17).bind fun b4 => cond (!b4.2) (RET 0) ((F75 k v b4.1.2.2.1).bind fun b5 => NX (if b4.1.2.2.2 < x7_0 then b4.1.2.2.2 else x7_0) b5 (i64.wrap (x31_0 + 1)))))))) (RET 0)
def G5 (k : Nat) (v : Af) (w p : Int) : Nat → Int → Int → Int → Option (Int)
 | 0, _, _, _ => none
 | n + 1, x7_0, x8_0, x31_0 => Ga (G5 k v w p n) some k v w p x7_0 x8_0 x31_0
theorem Xf2 {β : Type} (k : Nat) (v : Af) (w p : Int) (K : KT β) (n : Nat) : ∀ (x7_0 x8_0 x31_0 : Int), P1 k v w p K n x7_0 x8_0 x31_0 =
  (G5 k v w p n x7_0 x8_0 x31_0).bind fun r => K (F25_O.put r) := by
 induction n with
 | zero => intros; rfl
 | succ n ih =>
  intro x7_0 x8_0 x31_0
  refine Eq.trans (b := Ga (P1 k v w p K n) (fun r => K (F25_O.put r)) k v w p x7_0 x8_0 x31_0) (by kernel_rfl) ?_
  rw [G5]
  simp only [Ga, z1, z2, z3, z4, z5, z6, z7, z8, ih]
def Xee {β : Type} (LP0 : Int → Int → Int → Option β) (RET : Int → Option β) (k : Nat) (v : Af) (w p : Int) : Option β := (F31 k v).bind fun b1 => cond (!b1) (RET 0) ((R6 k w 0 (i64.wrap ((v.length : Int) - 1))).bind fun b2 => cond (!b2) (RET 0) ((Z1 k p).bind fun b3 => cond (!b3) (RET 0) (LP0 48 w 0)))
def F25 (k : Nat) (v : Af) (w p : Int) : Option (Int) := Xee (G5 k v w p k) some k v w p
theorem X0n {β : Type} (k : Nat) (v : Af) (w p : Int) (K : KT β) : Ag (Xer k) Tryz.f25 (PsT.put Xpd (v, w, p, ())) K = (F25 k v w p).bind fun r => K (F25_O.put r) :=
 Eq.trans (b := Xee (P1 k v w p K k) (fun r => K (F25_O.put r)) k v w p) (by kernel_rfl) (by simp only [F25, Xee, z1, z2, z3, z4, z5, z6, z7, z8, Xf2])
def Xum (k : Nat) : FD := ⟨25, Xpd, F25_O, F25 k⟩
theorem X2v (k : Nat) : (Xum k).Ok Tryz.prog := ⟨fun x => Ab (Am (Aj (.c (Xuu k) (.c (Iv k) (.c (P8 k) (.c (Xuk k) (.c (Xm4 k) .n)))))) _ _ _ _) Ah Tryz.func25 rfl rfl (X0n k _ _ _ some), .of (by kernel_rfl)⟩
end
end Go.Proofs.YtdmepjjepogddaaGreat.Gn
end

section
set_option linter.unusedVariables false
set_option linter.unusedSimpArgs false
namespace Go.Proofs.YtdmepjjepogddaaGreat.Gn
open Go.Rf IntKind
noncomputable section
abbrev X32 (k : Nat) : Env := Bc Bv An .own [] k
abbrev Xu0 : List PA := [.one (.sl .ro (.int .u8)), .one (.sl .ro (.int .u8))]
abbrev F23_O : RO := ⟨[.v], [mB]⟩
def F23 (k : Nat) (v w : Aa) : Option (Bool) := some ((Ke v).toList == (Ke w).toList)
theorem Xxv {β : Type} (k : Nat) (v w : Aa) (K : KT β) : Ag (X32 k) Tryz.f23 (PsT.put Xu0 (v, w, ())) K = (F23 k v w).bind fun r => K (F23_O.put r) :=
 Eq.trans (b := K (F23_O.put ((Ke v).toList == (Ke w).toList))) (by kernel_rfl) (by simp only [F23, z1, z2, z3, z4, z5, z6, z7, z8])
def Xvk (k : Nat) : FD := ⟨23, Xu0, F23_O, F23 k⟩
theorem X3l (k : Nat) : (Xvk k).Ok Tryz.prog := ⟨fun x => Ab (Am .none _ _ _ _) Ah Tryz.func23 rfl rfl (Xxv k _ _ some), .of (by kernel_rfl)⟩
abbrev X38 (k : Nat) : Env := Bc (Az [Xva k]) An .own [] k
abbrev Xve : List PA := []
abbrev F24_O : RO := ⟨[.v], [mB]⟩
def Xd0 {β : Type} (RET : Bool → Option β) (k : Nat) : Option β := (F73 k 5 1).bind fun b1 => cond ((b1.length : Int) == 1) ((F73 k 256 1).bind fun b2 => RET ((b2.length : Int) == 0)) (RET false)
def F24 := Xd0 (β := Bool) some
theorem Xvz {β : Type} (k : Nat) (K : KT β) : Ag (X38 k) Tryz.f24 (PsT.put Xve (())) K = (F24 k).bind fun r => K (F24_O.put r) :=
 Eq.trans (b := Xd0 (fun r => K (F24_O.put r)) k) (by kernel_rfl) (by simp only [F24, Xd0, z1, z2, z3, z4, z5, z6, z7, z8])
def Xt9 (k : Nat) : FD := ⟨24, Xve, F24_O, F24 k⟩
theorem X2j (k : Nat) : (Xt9 k).Ok Tryz.prog := ⟨fun x => Ab (Am (Aj (.c (X2q k) .n)) _ _ _ _) Ah Tryz.func24 rfl rfl (Xvz k some), .of (by kernel_rfl)⟩
abbrev F4_E (k : Nat) : Env := Bc (Az [Xug k, Xuy k, Xul k, Xvk k, Xt9 k, Xum k]) An .own [] k
abbrev F4_A : List PA := [.one (.sl .ro (.int .u8))]
abbrev F4_O : RO := ⟨[.v], [mB]⟩
def Xq5 {β : Type} (RET : Bool → Option β) (k : Nat) (v : Aa) : Option β := cond (decide ((v.length : Int) > 1048576)) (RET true) ((F22 k v).bind fun b1 => (F16 k b1.1 b1.2.1 b1.2.2.1 b1.2.2.2.1 b1.2.2.2.2.1 b1.2.2.2.2.2).bind fun b2 => (F13 k b1.1 b1.2.1 b1.2.2.1 b1.2.2.2.1 b1.2.2.2.2.1 b1.2.2.2.2.2).bind fun b3 => cond (!(b2.2 == b3.2)) (RET false) ((F23 k b2.1 b3.1).bind fun b4 => cond (!b4) (RET false) (cond (decide ((b1.2.2.2.2.2.length : Int) > 48)) (cond (!b2.2) ((F24 k).bind fun b5 => RET b5) (RET false)) ((F25 k b1.1 b1.2.1 b1.2.2.1).bind fun b6 => cond (b2.2 == (decide (b6 > 0))) (cond (!b2.2) ((F24 k).bind fun b7 => RET b7) ((F23 k b2.1 b1.2.2.2.2.2).bind fun b8 => cond b8 ((F24 k).bind fun b9 => RET b9) (RET false))) (RET false)))))
def F4 := Xq5 (β := Bool) some
theorem X27 {β : Type} (k : Nat) (v : Aa) (K : KT β) : Ag (F4_E k) Tryz.f4 (PsT.put F4_A (v, ())) K = (F4 k v).bind fun r => K (F4_O.put r) :=
 Eq.trans (b := Xq5 (fun r => K (F4_O.put r)) k v) (by kernel_rfl) (by simp only [F4, Xq5, z1, z2, z3, z4, z5, z6, z7, z8])
def F4_d (k : Nat) : FD := ⟨4, F4_A, F4_O, F4 k⟩
theorem F4_q (k : Nat) : (F4_d k).Ok Tryz.prog := ⟨fun x => Ab (Am (Aj (.c (X3v k) (.c (X33 k) (.c (X3h k) (.c (X3l k) (.c (X2j k) (.c (X2v k) .n))))))) _ _ _ _) Ah Tryz.func4 rfl rfl (X27 k _ some), .of (by kernel_rfl)⟩
end
end Go.Proofs.YtdmepjjepogddaaGreat.Gn
end

section
namespace Go.Proofs.YtdmepjjepogddaaGreat.Gn
open Go.Rf Go.IntWalk
set_option linter.unusedVariables false
set_option linter.unusedSimpArgs false
def inB (a b c : Int) : Bool := decide (b ≤ a) && decide (a ≤ c)
theorem Bp (k : Nat) (a b c : Int) : K8 k a b c = some (inB a b c) := by
 unfold K8 inB; (try dsimp only)
 have : decide (a ≥ b) = decide (b ≤ a) := rfl
 rw [this]
 cases decide (b ≤ a) <;> rfl
theorem Cp (k : Nat) (a b c : Int) : R6 k a b c = some (inB a b c) := Bp k a b c
theorem G7 (k : Nat) (a : Int) : Z1 k a = some (inB a 0 65535) := by unfold Z1; (try dsimp only); rw [Cp]; rfl
abbrev A0 : Type := List (den (.int .u8))
theorem Nb {α : Type} (c : Bool) (a b : α) : cond c (some a) (some b) = some (cond c a b) := by cases c <;> rfl
theorem Xso (k : Nat) (l : A0) : Xgn k l = some l := by
 simp only [Xgn, Vm]
 rw [decide_eq_true (by omega : (0 : Int) ≤ ((l.length : Nat) : Int))]
 simp
theorem Pf (k : Nat) (l : A0) (h : l.length ≤ 4194304) : Q8 k l = some l := by
 simp only [Q8, Uc, Xso, List.nil_append, List.length_nil, Nat.zero_add, Bh]
 rw [decide_eq_true (by omega : l.length * 1 ≤ 140737488355328)]
 cases l with
 | nil => rfl
 | cons a r => rw [show ((((a :: r).length : Nat) : Int) == 0) = false by rw [beq_eq_false_iff_ne]; simp only [List.length_cons]; omega]; rfl
theorem bs {α β : Type} {o : Option α} {f : α → Option β} {x : α} (h : o = some x) : o.bind f = f x := by rw [h]; rfl
theorem cf {α : Type} {c : Bool} {a b : α} (h : c = false) : cond c a b = b := by rw [h]; rfl
theorem ct {α : Type} {c : Bool} {a b : α} (h : c = true) : cond c a b = a := by rw [h]; rfl
def BOk (b : A0) : Prop := ∀ x ∈ b, @LE.le Int _ 0 x ∧ @LE.le Int _ x 255
theorem BOk.of {b : A0} (h : Wf (.sl (.int .u8)) b) : BOk b := fun x hx => by
 have := h.2 x hx
 unfold Wf Lit.wf at this
 simp only [Bool.and_eq_true, decide_eq_true_eq] at this
 exact this
abbrev Cl : Type := List (den Ac)
abbrev rtL : Type := List (den B6)
abbrev Fh : Type := List (den sta)
def Rh : Fh → Nat
 | [] => 0
 | s :: l => s.2.length + Rh l
theorem Y9 : ∀ {l : Fh} {s : den sta}, s ∈ l → s.2.length ≤ Rh l
 | a :: l, s, h => by
  rcases List.mem_cons.1 h with rfl | h
  ·simp only [Rh]; omega
  ·have := Y9 h
   simp only [Rh]; omega
def gT (y : Int) (r : den B6) : den B6 := (y, y + 1, y + 2, y + 3)
def gS (y : Int) (s : den sta) : den sta := (y, Xuw gT (fun _ => 4) (y + 1) s.2)
end Go.Proofs.YtdmepjjepogddaaGreat.Gn
end

section
namespace Go.Proofs.YtdmepjjepogddaaGreat.Gn
open Go.Rf Go.IntWalk
set_option linter.unusedVariables false
set_option linter.unusedSimpArgs false
def T2 (v : Int) : A0 := [v / 256, v % 256]
theorem u8W (v : Int) (h : 0 ≤ v ∧ v ≤ 255) : IntKind.u8.wrap v = v := u8_in v h
theorem u8M (v : Int) : IntKind.u8.wrap v = v % 256 := by rw [IntKind.wrap_u8]
theorem Vo (n : Nat) (v : Int) (h : 0 ≤ v ∧ v ≤ 65535) : F93 (n + 4) v 2 = some (T2 v) := by
 have w1 : IntKind.i64.wrap (2 - 1) = 1 := by decide
 have w0 : IntKind.i64.wrap (1 - 1) = 0 := by decide
 have wm : IntKind.i64.wrap (0 - 1) = -1 := by decide
 have hd : v.fdiv 256 = v / 256 := Int.fdiv_eq_ediv_of_nonneg v (by omega)
 have e8 : ((2 : Int) ^ 8) = 256 := by decide
 unfold F93 Xfi; (try dsimp only)
 rw [w1]
 refine (ct (by decide)).trans ?_
 have aux : ∀ k m : Nat, Hv k v 2 (m + 1 + 1 + 1) v 1 (List.replicate (Int.toNat 2) (Bl (.int .u8))) = some (T2 v) := fun k m => by
  rw [Hv]
  unfold F9; (try dsimp only [A1])
  refine (ct (by decide)).trans ((ct (by decide)).trans ((ct (by decide)).trans ?_))
  try dsimp only
  rw [w0, Hv]
  unfold F9; (try dsimp only [A1])
  refine (ct (by decide)).trans ((ct (by decide)).trans ((ct (by simp)).trans ?_))
  try dsimp only
  rw [wm, Hv]
  unfold F9; (try dsimp only [A1])
  refine (cf (by decide)).trans ?_
  rw [e8, hd, u8M, u8W (v / 256) (by omega)]
  rfl
 exact aux (n + 4) (n + 1)
theorem Pd (n : Nat) (v : Int) (h : 0 ≤ v ∧ v ≤ 65535) : Xr (n + 4) v 2 = some (T2 v) := by
 have w1 : IntKind.i64.wrap (2 - 1) = 1 := by decide
 have w0 : IntKind.i64.wrap (1 - 1) = 0 := by decide
 have wm : IntKind.i64.wrap (0 - 1) = -1 := by decide
 have hd : v.fdiv 256 = v / 256 := Int.fdiv_eq_ediv_of_nonneg v (by omega)
 have hd1 : v.fdiv 1 = v := by simp
 have e1 : ((2 : Int) ^ (min (IntKind.i64.wrap (8 * 1)).toNat 64)) = 256 := by decide
 have e0 : ((2 : Int) ^ (min (IntKind.i64.wrap (8 * 0)).toNat 64)) = 1 := by decide
 have i1 : inB 2 1 4 = true := by decide
 have i2 : inB v 0 (IntKind.i64.wrap ((IntKind.i64.wrap (1 * 2 ^ (min (IntKind.i64.wrap (8 * 2)).toNat 64))) - 1)) = true := by
  rw [show IntKind.i64.wrap ((IntKind.i64.wrap (1 * 2 ^ (min (IntKind.i64.wrap (8 * 2)).toNat 64))) - 1) = 65535 by decide]
  unfold inB
  rw [decide_eq_true h.1, decide_eq_true h.2]
  rfl
 unfold Xr Uu; (try dsimp only)
 rw [Bp, i1, Option.bind_some, w1]
 refine (cf rfl).trans ((cf (by decide)).trans ?_)
 rw [Bp, i2, Option.bind_some]
 refine (cf rfl).trans ?_
 have aux : ∀ k m : Nat, Ff k v 2 (m + 1 + 1 + 1) 1 [] = some (T2 v) := fun k m => by
  rw [Ff]
  unfold Ek; (try dsimp only [Bh])
  refine (ct (by decide)).trans ((cf (by decide)).trans ((ct (by simp)).trans ?_))
  try dsimp only
  rw [w0, Ff]
  unfold Ek; (try dsimp only [Bh])
  refine (ct (by decide)).trans ((cf (by decide)).trans ((ct (by simp)).trans ?_))
  try dsimp only
  rw [wm, Ff]
  unfold Ek; (try dsimp only [Bh])
  refine (cf (by decide)).trans ?_
  rw [e1, e0, hd, hd1, Int.tmod_eq_of_lt (by omega) (by omega), Int.tmod_eq_emod_of_nonneg h.1, u8W (v / 256) (by omega), u8W (v % 256) (by omega)]
  rfl
 exact aux (n + 4) (n + 1)
def Yp (n : Int) : Int := if n > 65535 then n - 65535 else n
def smV : Int → A0 → Int
 | s, [] => s
 | s, [x] => Yp (s + x * 256)
 | s, x :: y :: r => smV (Yp (s + (x * 256 + y))) r
theorem Ng {n : Int} (h : 0 ≤ n ∧ n ≤ 131070) : 0 ≤ Yp n ∧ Yp n ≤ 65535 := by unfold Yp; split <;> omega
theorem Xro {s x y : Int} (hs : 0 ≤ s ∧ s ≤ 65535) (hx : 0 ≤ x ∧ x ≤ 255) (hy : 0 ≤ y ∧ y ≤ 255) : Yp (Yp (s + x * 256) + y) = Yp (s + (x * 256 + y)) := by
 unfold Yp
 split <;> split <;> split <;> omega
theorem byt {l : A0} (hb : BOk l) (j : Nat) (h : j < l.length) : @LE.le Int _ 0 l[j] ∧ @LE.le Int _ l[j] 255 := hb _ (List.getElem_mem h)
theorem Wl (k : Nat) (l : A0) (hb : BOk l) (hl : l.length ≤ 1048576) : ∀ (n j : Nat) (s : Int), j % 2 = 0 → j ≤ l.length → l.length - j < n → (0 ≤ s ∧ s ≤ 65535) → D8 k l n s (j : Int) = some (smV s (l.drop j))
 | 0, j, s, _, _, h, _ => by omega
 | 1, j, s, h2, hj, h, hs => by
  have : j = l.length := by omega
  subst this
  rw [D8, List.drop_length]
  unfold Ej; (try dsimp only [A1])
  exact (cf (decide_eq_false (by omega))).trans rfl
 | n + 2, j, s, h2, hj, h, hs => by
  rw [D8]
  unfold Ej; (try dsimp only [A1])
  rcases Nat.lt_or_ge j l.length with hlt | hge
  ·obtain ⟨x, hx⟩ : ∃ x : Int, x = l[j] := ⟨_, rfl⟩
   have bx : 0 ≤ x ∧ x ≤ 255 := by rw [hx]; exact byt hb j hlt
   have d1 : decide ((j : Int) < ((l.length : Nat) : Int)) = true := decide_eq_true (by omega)
   have d0 : decide ((0 : Int) ≤ ((j : Nat) : Int)) = true := decide_eq_true (by omega)
   have ev : (((j : Int).tmod 2) == 0) = true := by rw [Int.tmod_eq_emod_of_nonneg (by omega)]; exact beq_iff_eq.2 (by omega)
   have nxt : ∀ s1 : Int, s1 = Yp (s + x * 256) → D8 k l (n + 1) s1 ((j + 1 : Nat) : Int) = some (smV s (l.drop j)) := fun s1 hs1 => by
    have b1 := Ng (n := s + x * 256) (by omega)
    rw [← hs1] at b1
    rw [D8]
    unfold Ej; (try dsimp only [A1])
    rcases Nat.lt_or_ge (j + 1) l.length with hlt' | hge'
    ·obtain ⟨y, hy⟩ : ∃ y : Int, y = l[j + 1] := ⟨_, rfl⟩
     have by_ : 0 ≤ y ∧ y ≤ 255 := by rw [hy]; exact byt hb (j + 1) hlt'
     have od : ((((j + 1 : Nat) : Int).tmod 2) == 0) = false := by rw [Int.tmod_eq_emod_of_nonneg (by omega)]; exact beq_eq_false_iff_ne.2 (by omega)
     have e2 : smV s (l.drop j) = smV (Yp (s + (x * 256 + y))) (l.drop (j + 2)) := by
      rw [List.drop_eq_getElem_cons hlt, List.drop_eq_getElem_cons hlt', smV, ← hx, ← hy]
     have b2 := Ng (n := s1 + y) (by omega)
     rw [e2, ← Xro hs bx by_, ← hs1]
     refine (ct (decide_eq_true (by omega))).trans ((cf od).trans ((ct (decide_eq_true (by omega))).trans ((ct (decide_eq_true (by omega))).trans ?_)))
     rw [As l (j + 1) hlt', ← hy, i64_in y (by omega), i64_in (s1 + y) (by omega), i64_in (s1 + y - 65535) (by omega), Kr (j + 1) (by omega)]
     unfold Yp at b2 ⊢
     by_cases c : s1 + y > 65535
     ·rw [if_pos c] at b2 ⊢
      exact (ct (decide_eq_true c)).trans (Wl k l hb hl n (j + 2) _ (by omega) (by omega) (by omega) b2)
     ·rw [if_neg c] at b2 ⊢
      exact (cf (decide_eq_false c)).trans (Wl k l hb hl n (j + 2) _ (by omega) (by omega) (by omega) b2)
    ·have e1 : l.drop j = [l[j]] := by
      rw [List.drop_eq_getElem_cons hlt, List.drop_eq_nil_of_le (by omega)]
     rw [e1, smV, ← hx, ← hs1]
     exact (cf (decide_eq_false (by omega))).trans rfl
   refine (ct d1).trans ((ct ev).trans ((ct d0).trans ((ct d1).trans ?_)))
   rw [As l j hlt, ← hx, i64_in x (by omega), i64_in (x * 256) (by omega), i64_in (s + x * 256) (by omega), i64_in (s + x * 256 - 65535) (by omega), Kr j (by omega)]
   by_cases c : s + x * 256 > 65535
   ·exact (ct (decide_eq_true c)).trans (nxt _ (by unfold Yp; rw [if_pos c]))
   ·exact (cf (decide_eq_false c)).trans (nxt _ (by unfold Yp; rw [if_neg c]))
  ·have : j = l.length := by omega
   subst this
   rw [List.drop_length]
   exact (cf (decide_eq_false (by omega))).trans rfl
theorem Kp {α : Type} {N : Nat} (hN : 1 ≤ N) : B0 N ([] : List α) = [] := by
 unfold B0
 rw [show (([] : List α).length + N - 1) / N = 0 from Nat.div_eq_of_lt (by simp; omega)]
 rfl
theorem Iq {α : Type} {N : Nat} (hN : 1 ≤ N) (l : List α) (h : l ≠ []) : B0 N l = l.take N :: B0 N (l.drop N) := by
 have hl : 1 ≤ l.length := List.length_pos_iff.2 h
 have hc : (l.length + N - 1) / N = ((l.drop N).length + N - 1) / N + 1 := by
  rw [List.length_drop]
  by_cases hle : N ≤ l.length
  ·rw [show l.length + N - 1 = (l.length - N + N - 1) + N by omega, Nat.add_div_right _ (by omega)]
  ·rw [show l.length - N = 0 by omega, Nat.zero_add, Nat.div_eq_of_lt (show N - 1 < N by omega)]
   exact Nat.div_eq_of_lt_le (by omega) (by omega)
 unfold B0
 rw [hc, List.range_succ_eq_map, List.map_cons, List.map_map]
 congr 1
 ·simp [Oz]
 ·refine List.map_congr_left fun j _ => ?_
  simp only [Function.comp, Oz, List.drop_drop]
  congr 2
  rw [Nat.succ_mul]
  omega
theorem R7 (x y : Int) (hx : 0 ≤ x ∧ x ≤ 255) (hy : 0 ≤ y ∧ y ≤ 255) : Ca .or .i64 (x * 256) y = x * 256 + y := by
 obtain ⟨a, rfl⟩ := Int.eq_ofNat_of_zero_le hx.1
 obtain ⟨b, rfl⟩ := Int.eq_ofNat_of_zero_le hy.1
 have ha : a ≤ 255 := by omega
 have hb : b ≤ 255 := by omega
 have e : ((a : Int) * 256) = ((a * 256 : Nat) : Int) := by omega
 rw [e]
 have h1 : (BitVec.ofInt 64 ((a * 256 : Nat) : Int) ||| BitVec.ofInt 64 (b : Int)).toNat = a * 256 + b := by
  rw [BitVec.toNat_or]
  simp only [BitVec.ofInt_natCast, BitVec.toNat_ofNat]
  rw [Nat.mod_eq_of_lt (by omega), Nat.mod_eq_of_lt (by omega)]
  have := Nat.shiftLeft_add_eq_or_of_lt (show b < 2 ^ 8 by omega) a
  rw [Nat.shiftLeft_eq] at this
  exact this.symm
 show IntKind.i64.wrap (((BitVec.ofInt 64 ((a * 256 : Nat) : Int) ||| BitVec.ofInt 64 (b : Int)).toNat : Nat) : Int) = _
 rw [h1, i64_in _ (by omega)]
 omega
theorem Xg2 {l : A0} (hb : BOk l) {x : den (.int .u8)} (h : x ∈ l) : ∃ v : Int, v = x ∧ (0 ≤ v ∧ v ≤ 255) := ⟨x, rfl, hb x h⟩
theorem Xey (n : Nat) (s m : Int) (hs : 0 ≤ s ∧ s ≤ 65535) (hm : 0 ≤ m ∧ m ≤ 65535) : Zd (n + 4) [s, m] = some (Yp (s + m)) := by
 have aux : ∀ k q : Nat, D7 k [s, m] (q + 1 + 1 + 1) 0 0 = some (Yp (s + m)) := fun k q => by
  rw [D7]
  unfold Ee; (try dsimp only [A1])
  refine (ct rfl).trans ((ct rfl).trans ((ct rfl).trans ?_))
  rw [show Ap (t := .int .i64) [s, m] 0 = s from rfl, Int.zero_add, i64_in s (by omega)]
  refine (cf (decide_eq_false (by omega))).trans ?_
  try dsimp only
  rw [show IntKind.i64.wrap (0 + 1) = 1 by decide, D7]
  unfold Ee; (try dsimp only [A1])
  refine (ct rfl).trans ((ct rfl).trans ((ct rfl).trans ?_))
  rw [show Ap (t := .int .i64) [s, m] 1 = m from rfl, i64_in (s + m) (by omega), i64_in (s + m - 65535) (by omega), show IntKind.i64.wrap (1 + 1) = 2 by decide]
  have Po : ∀ r : Int, D7 k [s, m] (q + 1) r 2 = some r := fun r => by
   rw [D7]
   unfold Ee; (try dsimp only [A1])
   exact (cf rfl).trans rfl
  unfold Yp
  by_cases c : s + m > 65535
  ·rw [if_pos c]
   exact (ct (decide_eq_true c)).trans (Po _)
  ·rw [if_neg c]
   exact (cf (decide_eq_false c)).trans (Po _)
 exact aux (n + 4) (n + 1)
theorem Xd1 (n : Nat) (a0 : A0) : ∀ (m : Nat) (l : A0) (s : Int), l.length ≤ m → BOk l → (0 ≤ s ∧ s ≤ 65535) → E0 (n + 4) a0 (B0 2 l) s = some (65535 - smV s l)
 | _, [], s, _, _, hs => by
  rw [Kp (by omega), E0, smV, i64_in _ (by omega)]
 | 0, _ :: _, _, h, _, _ => by simp at h
 | m + 1, [x], s, h, hb, hs => by
  obtain ⟨x, rfl, bx⟩ := Xg2 hb (x := x) (by simp)
  have e8 : ((2 : Int) ^ 8) = 256 := by decide
  have b1 := Ng (n := s + x * 256) (by omega)
  rw [Iq (by omega) [x] (by simp)]
  simp only [List.take_succ_cons, List.take_nil, List.drop_succ_cons, List.drop_nil]
  rw [E0]
  refine (ct (by simp)).trans ((cf (by simp)).trans ?_)
  rw [show Ap (t := .int .u8) [x] 0 = x from rfl, e8, i64_in x (by omega), i64_in (x * 256) (by omega), Xey n s (x * 256) hs (by omega), Option.bind_some, Kp (by omega), E0, smV, i64_in _ (by omega)]
 | m + 1, x :: y :: r, s, h, hb, hs => by
  obtain ⟨x, rfl, bx⟩ := Xg2 hb (x := x) (by simp)
  obtain ⟨y, rfl, by_⟩ := Xg2 hb (x := y) (by simp)
  have e8 : ((2 : Int) ^ 8) = 256 := by decide
  have b1 := Ng (n := s + (x * 256 + y)) (by omega)
  rw [Iq (by omega) (x :: y :: r) (by simp)]
  simp only [List.take_succ_cons, List.take_zero, List.drop_succ_cons, List.drop_zero]
  rw [E0]
  refine (ct (by simp)).trans ((ct (by simp)).trans ((ct (by simp)).trans ?_))
  rw [show Ap (t := .int .u8) [x, y] 0 = x from rfl, show Ap (t := .int .u8) [x, y] 1 = y from rfl, e8, i64_in x (by omega), i64_in y (by omega), i64_in (x * 256) (by omega), R7 x y bx by_, Xey n s (x * 256 + y) hs (by omega), Option.bind_some, smV]
  exact Xd1 n a0 m r _ (by simp only [List.length_cons] at h; omega) (fun z hz => hb z (by simp [hz])) b1
theorem Xaq : ∀ (l : A0) (s : Int), BOk l → (0 ≤ s ∧ s ≤ 65535) → 0 ≤ smV s l ∧ smV s l ≤ 65535
 | [], s, _, hs => hs
 | [x], s, hb, hs => by
  obtain ⟨x, rfl, bx⟩ := Xg2 hb (x := x) (by simp)
  exact Ng (by omega)
 | x :: y :: r, s, hb, hs => by
  obtain ⟨x, rfl, bx⟩ := Xg2 hb (x := x) (by simp)
  obtain ⟨y, rfl, by_⟩ := Xg2 hb (x := y) (by simp)
  exact Xaq r _ (fun z hz => hb z (by simp [hz])) (Ng (by omega))
def X7 (l : A0) : Int := 65535 - smV 0 l
theorem Xvn (n : Nat) (l : A0) (hb : BOk l) (hl : l.length ≤ 1048576) : F94 (n + 4) l = some (X7 l) := by
 unfold F94; (try dsimp only)
 rw [decide_eq_true (by omega : l.length ≤ 140737488355328)]
 exact Xd1 n l l.length l 0 (Nat.le_refl _) hb (by omega)
theorem Xqf (k : Nat) (l : A0) (hb : BOk l) (hl : l.length ≤ 1048576) (hk : 1048576 < k) : Xh1 k l = some (X7 l) := by
 have := Wl k l hb hl k 0 0 rfl (Nat.zero_le _) (by omega) (by omega)
 have h2 := Xaq l 0 hb (by omega)
 unfold Xh1 Xgz Ur; (try dsimp only)
 refine (bs this).trans ?_
 rw [List.drop_zero, i64_in _ (by omega)]
 rfl
theorem Xs0 (k : Nat) (a : Int) (h : 0 ≤ a ∧ a ≤ 16777216) : Xhp k [] a = some [] := by
 unfold Xhp Wk; (try dsimp only)
 rw [show a - 0 = a by omega, i64_in a (by omega)]
 refine (cf (decide_eq_false (by omega))).trans ?_
 by_cases c : a > 0
 ·refine (ct (decide_eq_true c)).trans ((ct (by rfl)).trans ?_)
  rw [decide_eq_true (by omega : 0 < a), decide_eq_true (by omega : a * (1 : Nat) ≤ 140737488355328)]
  refine (ct (by rfl)).trans ((ct ?_).trans ?_)
  ·rw [Bool.and_eq_true]; exact ⟨by rfl, decide_eq_true (by omega)⟩
  ·simp
 ·exact (cf (decide_eq_false c)).trans rfl
theorem Xjt (k : Nat) (l : List A0) (hl : l.length ≤ 1048576) : ∀ (n j : Nat) (m : A0), j ≤ l.length → l.length - j < n → m.length + (l.drop j).flatten.length ≤ 4194304 → Nl k l n (j : Int) m = some (m ++ (l.drop j).flatten)
 | 0, j, m, _, h, _ => by omega
 | n + 1, j, m, hj, h, hm => by
  rw [Nl]
  unfold Lc; (try dsimp only [A1, Bh])
  rcases Nat.lt_or_ge j l.length with hlt | hge
  ·rw [List.drop_eq_getElem_cons hlt, List.flatten_cons, List.length_append] at hm
   rw [List.drop_eq_getElem_cons hlt, List.flatten_cons, As (t := .sl (.int .u8)) l j hlt, Kr j (by omega)]
   refine (ct (decide_eq_true (by omega))).trans ((ct (decide_eq_true (by omega))).trans ((ct (decide_eq_true (by omega))).trans ((ct (decide_eq_true (by omega))).trans ?_)))
   try dsimp only
   rw [Xjt k l hl n (j + 1) (m ++ l[j]) hlt (by omega) (by rw [List.length_append]; omega), List.append_assoc]
  ·have : j = l.length := by omega
   subst this
   rw [List.drop_length]
   refine (cf (decide_eq_false (by omega))).trans ?_
   simp
theorem Xml (k : Nat) (l : List A0) (hk : l.length < k) (hl : l.length ≤ 1048576) (ht : l.flatten.length ≤ 4194304) : ∀ (n j : Nat) (s : Int), j ≤ l.length → l.length - j < n → (0 ≤ s ∧ s + ((l.drop j).flatten.length : Int) ≤ 4194304) → Oe k l n s (j : Int) = some l.flatten
 | 0, j, s, _, h, _ => by omega
 | n + 1, j, s, hj, h, hm => by
  rw [Oe]
  unfold Mg; (try dsimp only [A1])
  rcases Nat.lt_or_ge j l.length with hlt | hge
  ·rw [List.drop_eq_getElem_cons hlt, List.flatten_cons, List.length_append] at hm
   rw [As (t := .sl (.int .u8)) l j hlt, Kr j (by omega), i64_in (s + ((l[j].length : Nat) : Int)) (by omega)]
   refine (ct (decide_eq_true (by omega))).trans ((ct (decide_eq_true (by omega))).trans ((ct (decide_eq_true (by omega))).trans ((cf (decide_eq_false (by omega))).trans ?_)))
   exact Xml k l hk hl ht n (j + 1) _ hlt (by omega) (by omega)
  ·have : j = l.length := by omega
   subst this
   rw [List.drop_length] at hm
   refine (cf (decide_eq_false (by omega))).trans ?_
   refine (bs (Xs0 k s (by simp at hm; omega))).trans ?_
   have := Xjt k l hl k 0 [] (Nat.zero_le _) (by omega) (by rw [List.drop_zero]; simpa using ht)
   simpa using this
theorem Xbf (k : Nat) (l : List A0) (hk : l.length < k) (hl : l.length ≤ 1048576) (ht : l.flatten.length ≤ 4194304) : F92 k l = some l.flatten := by
 unfold F92 Xft; (try dsimp only)
 exact Xml k l hk hl ht k 0 0 (Nat.zero_le _) (by omega) (by rw [List.drop_zero]; omega)
def K7 (v : Int) : den (.int .u8) := IntKind.u8.wrap v
theorem Um (v : Int) : (T2 v).length = 2 := rfl
theorem BOk.app {x y : A0} (hx : BOk x) (hy : BOk y) : BOk (x ++ y) := fun z hz => (List.mem_append.1 hz).elim (hx z) (hy z)
theorem BOk.nil : BOk [] := fun z hz => by cases hz
theorem BOk.cons {v : Int} {x : A0} (hx : BOk x) : BOk (K7 v :: x) := fun z hz => by
 rcases List.mem_cons.1 hz with rfl | hz
 ·have e : K7 v = v % 256 := u8M v
  rw [e]
  exact ⟨show (0 : Int) ≤ v % 256 by omega, show v % 256 ≤ (255 : Int) by omega⟩
 ·exact hx z hz
theorem Xew {v : Int} (h : 0 ≤ v ∧ v ≤ 65535) : BOk (T2 v) := fun z hz => by
 rcases List.mem_cons.1 hz with rfl | hz
 ·exact ⟨show (0 : Int) ≤ v / 256 by omega, show v / 256 ≤ (255 : Int) by omega⟩
 ·obtain rfl := List.mem_singleton.1 hz
  exact ⟨show (0 : Int) ≤ v % 256 by omega, show v % 256 ≤ (255 : Int) by omega⟩
theorem Xeo (k : Nat) (b : Bool) (v : Int) : Xaf k b v = some (if b then v else 0) := by
 unfold Xaf; (try dsimp only)
 cases b <;> rfl
theorem Xd9 {l : A0} (hb : BOk l) : 0 ≤ X7 l ∧ X7 l ≤ 65535 := by
 have := Xaq l 0 hb (by omega)
 unfold X7
 omega
end Go.Proofs.YtdmepjjepogddaaGreat.Gn
end

section
namespace Go.Proofs.YtdmepjjepogddaaGreat.Gn
open Go.Rf Go.IntWalk
set_option linter.unusedVariables false
set_option linter.unusedSimpArgs false
def rest (n : Int) : Int := 2 ^ (16 - n).toNat
theorem p2 (m : Nat) (h : m ≤ 16) : (1 : Int) ≤ 2 ^ m ∧ (2 : Int) ^ m ≤ 65536 := (by decide : ∀ m : Fin 17, (1 : Int) ≤ 2 ^ (m : Nat) ∧ (2 : Int) ^ (m : Nat) ≤ 65536) ⟨m, by omega⟩
theorem Pe {n : Int} (h : 0 ≤ n ∧ n ≤ 16) : 1 ≤ rest n ∧ rest n ≤ 65536 := p2 _ (by omega)
theorem V1 {n : Int} (h : 0 ≤ n ∧ n ≤ 16) : IntKind.i64.wrap (1 * 2 ^ (min (16 - n).toNat 64)) = rest n := by
 have := Pe h
 rw [Nat.min_eq_left (by omega), Int.one_mul]
 exact i64_in (rest n) (by omega)
theorem Ul (k : Nat) {n : Int} (h : 0 ≤ n ∧ n ≤ 16) : Yb k n = some (rest n) := by
 unfold Yb Vh; (try dsimp only)
 rw [i64_in (16 - n) (by omega), V1 h]
 exact (cf (decide_eq_false (by omega))).trans rfl
def okR (r : den B6) : Bool := inB r.2.1 0 16 && inB r.1 0 65535 && (Int.tmod r.1 (rest r.2.1) == 0) && inB r.2.2.1 0 65535 && inB r.2.2.2 1 48
theorem Be {a b c : Int} (h : inB a b c = true) : b ≤ a ∧ a ≤ c := by simpa [inB] using h
theorem B3 {a b c : Int} (h : b ≤ a ∧ a ≤ c) : inB a b c = true := by simpa [inB] using h
theorem V4 (k : Nat) (r : den B6) : U2 k r = some (okR r) := by
 obtain ⟨v0, v1, v2, v3⟩ := r
 unfold U2 Wt okR; (try dsimp only [Cv])
 refine (bs (Bp k v1 0 16)).trans ?_
 try dsimp only
 cases h1 : inB v1 0 16 with
 | false => rfl
 | true =>
  have hr := Pe (Be h1)
  refine (ct rfl).trans ((bs (Bp k v0 0 65535)).trans ?_)
  cases h2 : inB v0 0 65535 with
  | false => rfl
  | true =>
   refine (ct rfl).trans ((bs (Ul k (Be h1))).trans ((cf (decide_eq_false (by omega))).trans ?_))
   cases h3 : (Int.tmod v0 (rest v1) == 0) with
   | false => rfl
   | true =>
    refine (ct rfl).trans ((bs (Bp k v2 0 65535)).trans ?_)
    cases h4 : inB v2 0 65535 with
    | false => rfl
    | true => exact (ct rfl).trans ((bs (Bp k v3 1 48)).trans rfl)
theorem Xsq (k : Nat) (r : den B6) : Xht k r = some (okR r) := by
 obtain ⟨v0, v1, v2, v3⟩ := r
 unfold Xht Wg okR; (try dsimp only [Cv])
 refine (bs (Cp k v1 0 16)).trans ?_
 try dsimp only
 cases h1 : inB v1 0 16 with
 | false => rfl
 | true =>
  have hi := Be h1
  have hr := Pe hi
  refine (ct rfl).trans ((bs (G7 k v0)).trans ?_)
  cases h2 : inB v0 0 65535 with
  | false => rfl
  | true =>
   have e1 := i64_in (16 - v1) (by omega)
   refine (ct rfl).trans ((cf (by rw [e1]; exact decide_eq_false (by omega))).trans ((cf (by rw [e1, V1 hi]; exact decide_eq_false (by omega))).trans ?_))
   rw [e1, V1 hi]
   cases h3 : (Int.tmod v0 (rest v1) == 0) with
   | false => rfl
   | true =>
    refine (ct rfl).trans ((bs (G7 k v2)).trans ?_)
    cases h4 : inB v2 0 65535 with
    | false => rfl
    | true => exact (ct rfl).trans ((bs (Cp k v3 1 48)).trans rfl)
theorem J4 {r : den B6} (h : okR r = true) : inB r.2.1 0 16 = true ∧ inB r.1 0 65535 = true ∧ inB r.2.2.1 0 65535 = true ∧ inB r.2.2.2 1 48 = true := by
 unfold okR at h
 simp only [Bool.and_eq_true] at h
 exact ⟨h.1.1.1.1, h.1.1.1.2, h.1.2, h.2⟩
def Xdx (a b : Int) : Int := if a < b then -1 else if a > b then 1 else 0
def orV (a b : Int) : Int := if a ≠ 0 then a else b
theorem Xfg (k : Nat) (a b : Int) : Xcx k a b = some (Xdx a b) := by
 unfold Xcx W8 Xgu Xdx; (try dsimp only)
 simp only [bne_self_eq_false, Option.bind_some, cond_false]
 by_cases h1 : a < b
 ·rw [decide_eq_true h1, if_pos h1]; rfl
 ·rw [decide_eq_false h1, if_neg h1]
  by_cases h2 : a > b
  ·rw [decide_eq_true h2, if_pos h2]; rfl
  ·rw [decide_eq_false h2, if_neg h2]; rfl
theorem Xsk (n : Nat) (a b : Int) : Xoi (n + 4) [a, b] = some (orV a b) := by
 have aux : ∀ k m : Nat, E6 k [a, b] (m + 1 + 1 + 1) 0 = some (orV a b) := fun k m => by
  rw [E6]
  unfold Ef orV; (try dsimp only [A1])
  refine (ct rfl).trans ((ct rfl).trans ((ct rfl).trans ?_))
  rw [show Ap (t := .int .i64) [a, b] 0 = a from rfl]
  by_cases h : a ≠ 0
  ·rw [if_pos h]
   exact (ct (bne_iff_ne.2 h)).trans rfl
  ·rw [if_neg h]
   refine (cf (bne_eq_false_iff_eq.2 (Decidable.not_not.1 h))).trans ?_
   rw [show IntKind.i64.wrap (0 + 1) = 1 by decide, E6]
   unfold Ef; (try dsimp only [A1])
   refine (ct rfl).trans ((ct rfl).trans ((ct rfl).trans ?_))
   rw [show Ap (t := .int .i64) [a, b] 1 = b from rfl]
   by_cases h2 : b ≠ 0
   ·exact (ct (bne_iff_ne.2 h2)).trans rfl
   ·refine (cf (bne_eq_false_iff_eq.2 (Decidable.not_not.1 h2))).trans ?_
    rw [show IntKind.i64.wrap (1 + 1) = 2 by decide, E6]
    unfold Ef; (try dsimp only [A1])
    rw [Decidable.not_not.1 h2]
    exact (cf rfl).trans rfl
 exact aux (n + 4) (n + 1)
theorem Xsv (n : Nat) (p c : den B6) : Xhb (n + 4) p c = some (orV (Xdx p.2.1 c.2.1) (Xdx p.1 c.1)) := by
 unfold Xhb Wj; (try dsimp only)
 exact (bs (Xfg _ _ _)).trans ((bs (Xfg _ _ _)).trans ((bs (Xsk _ _ _)).trans rfl))
def ltR (p1 p0 c1 c0 : Int) : Bool := decide (p1 < c1) || (decide (p1 = c1) && decide (p0 < c0))
theorem ordS {α : Type} (p1 p0 c1 c0 : Int) (x y : α) : cond (decide (p1 > c1)) x (cond (p1 == c1) (cond (decide (p0 ≥ c0)) x y) y) = cond (ltR p1 p0 c1 c0) y x := by
 unfold ltR
 rcases Int.lt_trichotomy p1 c1 with h | h | h
 ·rw [decide_eq_false (by omega : ¬ p1 > c1), decide_eq_true h, show (p1 == c1) = false from beq_eq_false_iff_ne.2 (by omega)]; rfl
 ·rw [decide_eq_false (by omega : ¬ p1 > c1), decide_eq_false (by omega : ¬ p1 < c1), decide_eq_true h, show (p1 == c1) = true from beq_iff_eq.2 h]
  by_cases h2 : p0 < c0
  ·rw [decide_eq_false (by omega : ¬ p0 ≥ c0), decide_eq_true h2]; rfl
  ·rw [decide_eq_true (by omega : p0 ≥ c0), decide_eq_false h2]; rfl
 ·rw [decide_eq_true (by omega : p1 > c1), decide_eq_false (by omega : ¬ p1 < c1), decide_eq_false (by omega : ¬ p1 = c1)]; rfl
theorem ordI {α : Type} (p1 p0 c1 c0 : Int) (x y : α) : cond (decide (orV (Xdx p1 c1) (Xdx p0 c0) ≥ 0)) x y = cond (ltR p1 p0 c1 c0) y x := by
 unfold ltR orV Xdx
 rcases Int.lt_trichotomy p1 c1 with h | h | h
 ·rw [if_pos h, if_pos (by decide), decide_eq_true h]; rfl
 ·rw [if_neg (by omega : ¬ p1 < c1), if_neg (by omega : ¬ p1 > c1), if_neg (by decide), decide_eq_false (by omega : ¬ p1 < c1), decide_eq_true h]
  by_cases h2 : p0 < c0
  ·rw [if_pos h2, decide_eq_true h2]; rfl
  ·rw [if_neg h2, decide_eq_false h2]
   by_cases h3 : p0 > c0
   ·rw [if_pos h3]; rfl
   ·rw [if_neg h3]; rfl
 ·rw [if_neg (by omega : ¬ p1 < c1), if_pos h, if_pos (by decide), decide_eq_false (by omega : ¬ p1 < c1), decide_eq_false (by omega : ¬ p1 = c1)]; rfl
theorem rs_l (q : Nat) (v : rtL) (hl : v.length ≤ 1048576) : ∀ (n j : Nat), j ≤ v.length → v.length - j < n → ∃ b, I7 (q + 4) v n (j : Int) = some b ∧ J2 (q + 4) v n (j : Int) = some b ∧ (b = true → (∀ r ∈ v.drop j, okR r = true) ∧ v.length ≤ 8)
 | 0, j, _, h => by omega
 | n + 1, j, hj, h => by
  rw [I7, J2]
  unfold I9 Jz; (try dsimp only [A1])
  rcases Nat.lt_or_ge j v.length with hlt | hge
  ·have d1 : decide ((j : Int) < ((v.length : Nat) : Int)) = true := decide_eq_true (by omega)
   have d0 : decide ((0 : Int) ≤ ((j : Nat) : Int)) = true := decide_eq_true (by omega)
   obtain ⟨b, hb1, hb2, hb3⟩ := rs_l q v hl n (j + 1) hlt (by omega)
   rw [As v j hlt, Kr j (by omega), List.drop_eq_getElem_cons hlt, V4, Xsq]
   cases ho : okR v[j] with
   | false => exact ⟨false, (ct d1).trans ((ct d0).trans ((ct d1).trans rfl)), (ct d1).trans ((ct d0).trans ((ct d1).trans rfl)), fun h => by cases h⟩
   | true =>
    have hb4 : b = true → (∀ r ∈ v[j] :: v.drop (j + 1), okR r = true) ∧ v.length ≤ 8 := fun hb => ⟨fun r hr => (List.mem_cons.1 hr).elim (fun e => by rw [e]; exact ho) ((hb3 hb).1 r), (hb3 hb).2⟩
    rcases Nat.eq_zero_or_pos j with h0 | h0
    ·have g0 : decide ((j : Int) > 0) = false := decide_eq_false (by omega)
     exact ⟨b, (ct d1).trans ((ct d0).trans ((ct d1).trans ((bs rfl).trans ((cf rfl).trans ((cf g0).trans hb1))))), (ct d1).trans ((ct d0).trans ((ct d1).trans ((bs rfl).trans ((cf rfl).trans ((cf g0).trans hb2))))), hb4⟩
    ·have g0 : decide ((j : Int) > 0) = true := decide_eq_true (by omega)
     have e1 : IntKind.i64.wrap ((j : Int) - 1) = ((j - 1 : Nat) : Int) := by rw [i64_in _ (by omega)]; omega
     have q1 : decide (((j - 1 : Nat) : Int) < ((v.length : Nat) : Int)) = true := decide_eq_true (by omega)
     have q0 : decide ((0 : Int) ≤ ((j - 1 : Nat) : Int)) = true := decide_eq_true (by omega)
     rw [e1, As v (j - 1) (by omega), Xsv]
     simp only [d1, d0, q1, q0, g0, cond_true, Option.bind_some, Bool.not_true, cond_false, hb1, hb2]
     refine ⟨cond (ltR v[j - 1].2.1 v[j - 1].1 v[j].2.1 v[j].1) b false, (ordS _ _ _ _ _ _).trans (Nb _ _ _), (ordI _ _ _ _ _ _).trans (Nb _ _ _), fun hc => ?_⟩
     cases hlt2 : ltR v[j - 1].2.1 v[j - 1].1 v[j].2.1 v[j].1 with
     | false => rw [hlt2] at hc; cases hc
     | true => rw [hlt2] at hc; exact hb4 hc
  ·have : j = v.length := by omega
   subst this
   rw [List.drop_length]
   have d1 : decide (((v.length : Nat) : Int) < ((v.length : Nat) : Int)) = false := decide_eq_false (by omega)
   exact ⟨decide (((v.length : Nat) : Int) ≤ 8), (cf d1).trans rfl, (cf d1).trans rfl, fun h => ⟨fun r hr => (by cases hr), by have := of_decide_eq_true h; omega⟩⟩
theorem Xu5 (q : Nat) (v : rtL) (hl : v.length ≤ 1048576) (hk : 1048576 < q + 4) : ∃ b, F202 (q + 4) v = some b ∧ Xgs (q + 4) v = some b ∧ (b = true → (∀ r ∈ v, okR r = true) ∧ v.length ≤ 8) := by
 have := rs_l q v hl (q + 4) 0 (Nat.zero_le _) (by omega)
 rw [List.drop_zero] at this
 exact this
structure StaOk (k : Nat) (s : den sta) : Prop where
 st : F129 k s = some true
 rs : F202 k s.2 = some true
 at1 : inB s.1 0 65535 = true
 ok : ∀ r ∈ s.2, okR r = true
 len : s.2.length ≤ 8
theorem X37 (q : Nat) (s : den sta) (hl : s.2.length ≤ 1048576) (hk : 1048576 < q + 4) : ∃ b, F129 (q + 4) s = some b ∧ F88 (q + 4) s = some b ∧ (b = true → StaOk (q + 4) s) := by
 obtain ⟨b, h1, h2, h3⟩ := Xu5 q s.2 hl hk
 have e1 : F129 (q + 4) s = some (inB s.1 0 65535 && b) := by
  unfold F129; (try dsimp only)
  refine (bs (Bp _ _ _ _)).trans ?_
  cases inB s.1 0 65535 with
  | false => rfl
  | true => exact (ct rfl).trans ((bs h1).trans rfl)
 have e2 : F88 (q + 4) s = some (inB s.1 0 65535 && b) := by
  unfold F88; (try dsimp only)
  refine (bs (G7 _ _)).trans ?_
  cases inB s.1 0 65535 with
  | false => rfl
  | true => exact (ct rfl).trans ((bs h2).trans rfl)
 refine ⟨_, e1, e2, fun h => ?_⟩
 rw [h] at e1
 rw [Bool.and_eq_true] at h
 rw [h.2] at h1
 exact ⟨e1, h1, h.1, (h3 h.2).1, (h3 h.2).2⟩
def Xt (s : den sta) (a : Int) : Bool := @BEq.beq Int _ s.1 a
def fi (a : Int) : Fh → Nat → Int
 | [], _ => -1
 | s :: l, j => cond (Xt s a) (j : Int) (fi a l (j + 1))
theorem Xj5 (k : Nat) (v : Fh) (w : Int) (hl : v.length ≤ 1048576) : ∀ (n j : Nat), j ≤ v.length → v.length - j < n → J5 k v w n (j : Int) = some (fi w (v.drop j) j)
 | 0, j, _, h => by omega
 | n + 1, j, hj, h => by
  rw [J5]
  unfold Js; (try dsimp only [A1])
  rcases Nat.lt_or_ge j v.length with hlt | hge
  ·have d1 : decide ((j : Int) < ((v.length : Nat) : Int)) = true := decide_eq_true (by omega)
   have d0 : decide ((0 : Int) ≤ ((j : Nat) : Int)) = true := decide_eq_true (by omega)
   rw [As v j hlt, Kr j (by omega), List.drop_eq_getElem_cons hlt]
   refine (ct d1).trans ((ct d0).trans ((ct d1).trans ?_))
   rw [fi, Xj5 k v w hl n (j + 1) hlt (by omega)]
   exact Nb (Xt v[j] w) _ _
  ·have : j = v.length := by omega
   subst this
   rw [List.drop_length]
   exact (cf (decide_eq_false (by omega))).trans rfl
theorem Xr4 (k : Nat) (v : Fh) (w : Int) (hl : v.length ≤ 1048576) (hk : 1048576 < k) : Xg8 k v w = some (fi w v 0) := Xj5 k v w hl k 0 (Nat.zero_le _) (by omega)
theorem Xji (k : Nat) (v : Fh) (wx w : Int) (hl : v.length ≤ 1048576) : ∀ (n j : Nat), j ≤ v.length → v.length - j < n → Jk k v wx n (j : Int) w = some (fi w (v.drop j) j, w)
 | 0, j, _, h => by omega
 | n + 1, j, hj, h => by
  rw [Jk]
  unfold I3; (try dsimp only [A1])
  rcases Nat.lt_or_ge j v.length with hlt | hge
  ·have d1 : decide ((j : Int) < ((v.length : Nat) : Int)) = true := decide_eq_true (by omega)
   have d0 : decide ((0 : Int) ≤ ((j : Nat) : Int)) = true := decide_eq_true (by omega)
   rw [As v j hlt, Kr j (by omega), List.drop_eq_getElem_cons hlt]
   refine (ct d1).trans ((ct d0).trans ((ct d1).trans ((bs (show Xoe k v[j] w = some (Xt v[j] w, w) from rfl)).trans ?_)))
   rw [fi, Xji k v wx w hl n (j + 1) hlt (by omega)]
   cases Xt v[j] w <;> rfl
  ·have : j = v.length := by omega
   subst this
   rw [List.drop_length]
   exact (cf (decide_eq_false (by omega))).trans rfl
theorem Uj (k : Nat) (v : Fh) (w : Int) (hl : v.length ≤ 1048576) (hk : 1048576 < k) : F75 k v w = some (fi w v 0) := by
 unfold F75; (try dsimp only)
 exact (bs (Xji k v w w hl k 0 (Nat.zero_le _) (by omega))).trans rfl
theorem Yj (a : Int) : ∀ (l : Fh) (j : Nat), fi a l j = -1 ∨ ((j : Int) ≤ fi a l j ∧ fi a l j < (j : Int) + (l.length : Int))
 | [], j => .inl rfl
 | s :: l, j => by
  rw [fi]
  cases Xt s a with
  | true => right; simp only [cond_true, List.length_cons]; omega
  | false =>
   simp only [cond_false, List.length_cons]
   rcases Yj a l (j + 1) with h | h
   ·exact .inl h
   ·right; omega
theorem Sq (k : Nat) (v : Fh) (i : Nat) (hi : i < v.length) (hl : v.length ≤ 1048576) : ∀ (n j : Nat), j ≤ i → i - j < n →
  (fi v[i].1 (v.drop j) j < (i : Int) ∧ ∃ y, Ko k v n (i : Int) (j : Int) = some (.inl y)) ∨ (fi v[i].1 (v.drop j) j = (i : Int) ∧ Ko k v n (i : Int) (j : Int) = some (.inr ((i : Int), (i : Int))))
 | 0, j, _, h => by omega
 | n + 1, j, hj, h => by
  have hjl : j < v.length := by omega
  have d1 : decide ((j : Int) < ((v.length : Nat) : Int)) = true := decide_eq_true (by omega)
  have d0 : decide ((0 : Int) ≤ ((j : Nat) : Int)) = true := decide_eq_true (by omega)
  have i1 : decide ((i : Int) < ((v.length : Nat) : Int)) = true := decide_eq_true (by omega)
  have i0 : decide ((0 : Int) ≤ ((i : Nat) : Int)) = true := decide_eq_true (by omega)
  rw [Ko]
  unfold Lt; (try dsimp only [A1])
  rw [As v j hjl, As v i hi, Kr j (by omega), List.drop_eq_getElem_cons hjl, fi]
  rcases Nat.lt_or_ge j i with hlt | hge
  ·have ji : decide ((j : Int) < (i : Int)) = true := decide_eq_true (by omega)
   cases hh : Xt v[j] v[i].1 with
   | true => exact .inl ⟨by simp only [cond_true]; omega, _, (ct ji).trans ((ct d0).trans ((ct d1).trans ((ct i0).trans ((ct i1).trans ((ct hh).trans rfl)))))⟩
   | false =>
    rw [cond_false]
    rcases Sq k v i hi hl n (j + 1) (by omega) (by omega) with ⟨h1, y, h2⟩ | ⟨h1, h2⟩
    ·exact .inl ⟨h1, y, (ct ji).trans ((ct d0).trans ((ct d1).trans ((ct i0).trans ((ct i1).trans ((cf hh).trans h2)))))⟩
    ·exact .inr ⟨h1, (ct ji).trans ((ct d0).trans ((ct d1).trans ((ct i0).trans ((ct i1).trans ((cf hh).trans h2)))))⟩
  ·have e : j = i := by omega
   subst e
   have hh : Xt v[j] v[j].1 = true := beq_self_eq_true _
   rw [hh]
   exact .inr ⟨rfl, (cf (decide_eq_false (by omega))).trans rfl⟩
theorem Xui (q : Nat) (v : Fh) (hl : v.length ≤ 1048576) (hs : Rh v ≤ 1048576) (hk : 1048576 < q + 4) : ∀ (n j : Nat), j ≤ v.length → v.length - j < n → ∃ b, Kv (q + 4) v n (j : Int) = some b ∧ Np (q + 4) v n (j : Int) = some b ∧ (b = true → (∀ s ∈ v.drop j, StaOk (q + 4) s) ∧ v.length ≤ 5)
 | 0, j, _, h => by omega
 | n + 1, j, hj, h => by
  rw [Kv, Np]
  unfold Mc; (try dsimp only [A1])
  rcases Nat.lt_or_ge j v.length with hlt | hge
  ·have d1 : decide ((j : Int) < ((v.length : Nat) : Int)) = true := decide_eq_true (by omega)
   have d0 : decide ((0 : Int) ≤ ((j : Nat) : Int)) = true := decide_eq_true (by omega)
   have hs1 := Y9 (List.getElem_mem hlt)
   obtain ⟨o, ho1, ho2, ho3⟩ := X37 q v[j] (by omega) hk
   obtain ⟨b, hb1, hb2, hb3⟩ := Xui q v hl hs hk n (j + 1) hlt (by omega)
   rw [As v j hlt, Kr j (by omega), List.drop_eq_getElem_cons hlt, ho1, ho2]
   have ef := Uj (q + 4) v v[j].1 hl hk
   have e0 := Sq (q + 4) v j hlt hl (q + 4) 0 (Nat.zero_le _) (by omega)
   rw [List.drop_zero] at e0
   cases o with
   | false => exact ⟨false, (ct d1).trans ((ct d0).trans ((ct d1).trans rfl)), (ct d1).trans ((ct d0).trans ((ct d1).trans rfl)), fun h => by cases h⟩
   | true =>
    rcases e0 with ⟨h1, y, h2⟩ | ⟨h1, h2⟩
    ·exact ⟨false, (ct d1).trans ((ct d0).trans ((ct d1).trans ((bs rfl).trans ((cf rfl).trans ((bs h2).trans rfl))))), (ct d1).trans ((ct d0).trans ((ct d1).trans ((bs rfl).trans ((cf rfl).trans ((bs ef).trans ((ct (decide_eq_true h1)).trans rfl)))))), fun h => by cases h⟩
    ·refine ⟨b, (ct d1).trans ((ct d0).trans ((ct d1).trans ((bs rfl).trans ((cf rfl).trans ((bs h2).trans ?_))))), (ct d1).trans ((ct d0).trans ((ct d1).trans ((bs rfl).trans ((cf rfl).trans ((bs ef).trans ((cf (decide_eq_false (by rw [h1]; omega))).trans hb2)))))), fun hb => ⟨fun s hs => ?_, (hb3 hb).2⟩⟩
     ·show Kv (q + 4) v n (IntKind.i64.wrap ((j : Int) + 1)) = some b
      rw [Kr j (by omega)]
      exact hb1
     ·rcases List.mem_cons.1 hs with e | e
      ·rw [e]; exact ho3 rfl
      ·exact (hb3 hb).1 s e
  ·have : j = v.length := by omega
   subst this
   rw [List.drop_length]
   have d1 : decide (((v.length : Nat) : Int) < ((v.length : Nat) : Int)) = false := decide_eq_false (by omega)
   exact ⟨decide (((v.length : Nat) : Int) ≤ 5), (cf d1).trans rfl, (cf d1).trans rfl, fun h => ⟨fun r hr => (by cases hr), by have := of_decide_eq_true h; omega⟩⟩
theorem Xiw (q : Nat) (v : Fh) (hl : v.length ≤ 1048576) (hs : Rh v ≤ 1048576) (hk : 1048576 < q + 4) : ∃ b, F59 (q + 4) v = some b ∧ F31 (q + 4) v = some b ∧ (b = true → (∀ s ∈ v, StaOk (q + 4) s) ∧ v.length ≤ 5) := by
 have := Xui q v hl hs hk (q + 4) 0 (Nat.zero_le _) (by omega)
 rw [List.drop_zero] at this
 exact this
end Go.Proofs.YtdmepjjepogddaaGreat.Gn
end

section
namespace Go.Proofs.YtdmepjjepogddaaGreat.Gn
open Go.Rf Go.IntWalk
set_option linter.unusedVariables false
set_option linter.unusedSimpArgs false
def a8 (b : A0) (j : Nat) : Int := Ap b (j : Int)
def n2 (b : A0) (j : Nat) : Int := a8 b j * 256 + a8 b (j + 1)
theorem Lr {b : A0} (hb : BOk b) {j : Nat} (h : j < b.length) : 0 ≤ a8 b j ∧ a8 b j ≤ 255 := by
 unfold a8; rw [As b j h]; exact byt hb j h
theorem atI8 (b : A0) (j : Nat) : @Eq Int (Ap b (j : Int)) (a8 b j) := rfl
theorem cut2 (b : A0) (j : Nat) (h : j + 2 ≤ b.length) : (b.take (j + 2)).drop j = [a8 b j, a8 b (j + 1)] := by
 have h1 : j < (b.take (j + 2)).length := by rw [List.length_take]; omega
 have h2 : j + 1 < (b.take (j + 2)).length := by rw [List.length_take]; omega
 rw [List.drop_eq_getElem_cons h1, List.drop_eq_getElem_cons h2, List.drop_eq_nil_of_le (by rw [List.length_take]; omega)]
 unfold a8
 rw [As b j (by omega), As b (j + 1) (by omega), List.getElem_take, List.getElem_take]
theorem Xq4 (q : Nat) (b : A0) (hb : BOk b) (hl : b.length ≤ 1048576) (j : Nat) (h : j + 2 ≤ b.length) : Xhn (q + 4) b (j : Int) 2 = some (n2 b j) := by
 have b1 := Lr hb (j := j) (by omega)
 have b2 := Lr hb (j := j + 1) (by omega)
 have i1 : inB 2 1 4 = true := by decide
 have i2 : inB (j : Int) 0 (IntKind.i64.wrap (((b.length : Nat) : Int) - 2)) = true := by
  rw [i64_in _ (by omega)]
  unfold inB
  rw [decide_eq_true (by omega), decide_eq_true (by omega)]
  rfl
 have e0 : IntKind.i64.wrap ((j : Int) + 0) = (j : Int) := by rw [i64_in _ (by omega)]; omega
 have e1 : IntKind.i64.wrap ((j : Int) + 1) = ((j + 1 : Nat) : Int) := Kr j (by omega)
 have w1 : IntKind.i64.wrap (0 + 1) = 1 := by decide
 have w2 : IntKind.i64.wrap (1 + 1) = 2 := by decide
 have w3 : IntKind.i64.wrap (0 * 256) = 0 := by decide
 unfold Xhn Uf; (try dsimp only)
 refine (bs (Bp (q + 4) 2 1 4)).trans ?_
 rw [i1]
 refine (cf rfl).trans ?_
 refine (bs (Bp (q + 4) (j : Int) 0 _)).trans ?_
 rw [i2]
 refine (cf rfl).trans ?_
 have aux : ∀ k m : Nat, Fa k b (j : Int) 2 (m + 1 + 1 + 1) 0 0 = some (n2 b j) := fun k m => by
  rw [Fa]
  unfold Ec; (try dsimp only [A1])
  rw [e0, w1, w3]
  refine (ct rfl).trans ((ct (decide_eq_true (by omega))).trans ((ct (decide_eq_true (by omega))).trans ?_))
  rw [atI8 b j, i64_in (a8 b j) (by omega), Int.zero_add, i64_in (a8 b j) (by omega)]
  try dsimp only
  rw [Fa]
  unfold Ec; (try dsimp only [A1])
  rw [e1, w2]
  refine (ct rfl).trans ((ct (decide_eq_true (by omega))).trans ((ct (decide_eq_true (by omega))).trans ?_))
  rw [atI8 b (j + 1), i64_in (a8 b (j + 1)) (by omega), i64_in (a8 b j * 256) (by omega), i64_in _ (by omega)]
  try dsimp only
  rw [Fa]
  unfold Ec; (try dsimp only [A1])
  exact (cf rfl).trans rfl
 exact aux (q + 4) (q + 1)
theorem Xp2 (q : Nat) (b : A0) (hb : BOk b) (hl : b.length ≤ 1048576) (j : Nat) (h : j + 2 ≤ b.length) : Xgq (q + 4) b (j : Int) 2 = some (n2 b j) := by
 have b1 := Lr hb (j := j) (by omega)
 have b2 := Lr hb (j := j + 1) (by omega)
 have i1 : inB 2 1 4 = true := by decide
 have e8 : ((2 : Int) ^ 8) = 256 := by decide
 have w1 : IntKind.i64.wrap (0 + 1) = 1 := by decide
 have w2 : IntKind.i64.wrap (1 + 1) = 2 := by decide
 have w3 : IntKind.i64.wrap (0 * 256) = 0 := by decide
 have e2 : IntKind.i64.wrap ((j : Int) + 2) = ((j + 2 : Nat) : Int) := by rw [i64_in _ (by omega)]; omega
 have c2 := cut2 b j h
 unfold Xgq Vb; (try dsimp only)
 refine (bs (Cp (q + 4) 2 1 4)).trans ?_
 rw [i1]
 refine (cf rfl).trans ?_
 refine (cf (decide_eq_false (by omega))).trans ?_
 refine (cf (decide_eq_false (by rw [i64_in _ (by omega)]; omega))).trans ?_
 rw [e2]
 refine (ct (by rw [decide_eq_true (by omega), decide_eq_true (by omega)]; rfl)).trans ?_
 refine (ct (by rw [decide_eq_true (by omega), decide_eq_true (by omega)]; rfl)).trans ?_
 have aux : ∀ k m : Nat, Fo k b (j : Int) 2 (m + 1 + 1 + 1) 0 0 = some (n2 b j) := fun k m => by
  rw [Fo]
  unfold Eh; (try dsimp only [A1])
  rw [e2, Int.toNat_natCast, Int.toNat_natCast, c2, e8, w1, w3]
  refine (ct rfl).trans ((ct rfl).trans ((ct rfl).trans ?_))
  rw [show @Eq Int (Ap (t := .int .u8) [a8 b j, a8 b (j + 1)] 0) (a8 b j) from rfl, i64_in (a8 b j) (by omega), show (0 : Int) = 0 * 256 from rfl, R7 0 (a8 b j) (by omega) b1]
  rw [show (0 : Int) * 256 + a8 b j = a8 b j by omega]
  try dsimp only
  rw [Fo]
  unfold Eh; (try dsimp only [A1])
  rw [e2, Int.toNat_natCast, Int.toNat_natCast, c2, e8, w2]
  refine (ct rfl).trans ((ct rfl).trans ((ct rfl).trans ?_))
  rw [show @Eq Int (Ap (t := .int .u8) [a8 b j, a8 b (j + 1)] 1) (a8 b (j + 1)) from rfl, i64_in (a8 b (j + 1)) (by omega), i64_in (a8 b j * 256) (by omega), R7 (a8 b j) (a8 b (j + 1)) b1 b2]
  try dsimp only
  rw [Fo]
  unfold Eh; (try dsimp only [A1])
  rw [e2, Int.toNat_natCast, Int.toNat_natCast, c2]
  exact (cf rfl).trans rfl
 exact aux (q + 4) (q + 1)
theorem Xrc (k : Nat) (a b : A0) (h9 : a.length ≤ 4194304) (k9 : a.length < k) : Xal k a b = some (decide (a = b)) := by
 unfold Xal Uh; (try dsimp only)
 by_cases hlen : a.length = b.length
 ·have := Xoc a b (fun n j => Gq k a b n j) hlen
   (fun n j h h' => by
    simp only [Gq, Gl, A1]
    rw [As a j h, As b j h', Kr j (by omega)]
    rw [decide_eq_true (by omega : ((j : Nat) : Int) < (a.length : Nat)), decide_eq_true (by omega : ((j : Nat) : Int) < (b.length : Nat)), decide_eq_true (by omega : (0 : Int) ≤ (j : Nat))]
    by_cases hc : a[j] = b[j]
    ·rw [if_pos hc, hc]; simp
    ·rw [if_neg hc, (bne_iff_ne (a := (a[j] : Int)) (b := b[j])).2 hc]; rfl)
   (fun n => by
    simp only [Gq, Gl, A1]
    rw [decide_eq_false (by omega : ¬ ((a.length : Nat) : Int) < (a.length : Nat))]; rfl) k 0 (Nat.zero_le _) (by omega)
  refine (cf (by rw [hlen]; simp)).trans ?_
  simpa using this
 ·refine (ct (by rw [bne_iff_ne]; omega)).trans ?_
  rw [decide_eq_false (fun h => hlen (by rw [h]))]
end Go.Proofs.YtdmepjjepogddaaGreat.Gn
end

section
namespace Go.Proofs.YtdmepjjepogddaaGreat.Gn
open Go.Rf Go.IntWalk
set_option linter.unusedVariables false
set_option linter.unusedSimpArgs false
def Kc (p : den Ac) : Bool := inB p.1 0 65535 && inB p.2.1 0 65535 && inB p.2.2.1 0 255 && inB p.2.2.2.1 0 255 && inB p.2.2.2.2.1 0 255 && inB p.2.2.2.2.2.1 0 255 && decide ((p.2.2.2.2.2.2.2.2.length : Int) ≤ 48) && (!p.2.2.2.2.2.2.1 || decide ((p.2.2.2.2.2.2.2.2.length : Int) > 0)) && (!p.2.2.2.2.2.2.2.1 || (@BEq.beq Int _ p.2.2.2.2.2.1 0 && !p.2.2.2.2.2.2.1))
theorem C3 (k : Nat) (p : den Ac) : G2 k p = some (Kc p) := by
 obtain ⟨v0, v1, v2, v3, v4, v5, v6, v7, v8⟩ := p
 unfold G2 Vx Kc; (try dsimp only [Aw])
 simp only [Bp, Option.bind_some]
 cases inB v0 0 65535; · rfl
 cases inB v1 0 65535; · rfl
 cases inB v2 0 255; · rfl
 cases inB v3 0 255; · rfl
 cases inB v4 0 255; · rfl
 cases inB v5 0 255; · rfl
 cases decide ((v8.length : Int) ≤ 48); · rfl
 cases v6 <;> cases v7 <;> cases decide ((v8.length : Int) > 0) <;> cases @BEq.beq Int _ v5 0 <;> rfl
theorem Rj (k : Nat) (p : den Ac) : F89 k p = some (Kc p) := by
 obtain ⟨v0, v1, v2, v3, v4, v5, v6, v7, v8⟩ := p
 unfold F89 Xe1 Kc; (try dsimp only [Aw])
 simp only [Cp, G7, Option.bind_some]
 cases inB v0 0 65535; · rfl
 cases inB v1 0 65535; · rfl
 cases inB v2 0 255; · rfl
 cases inB v3 0 255; · rfl
 cases inB v4 0 255; · rfl
 cases inB v5 0 255; · rfl
 cases decide ((v8.length : Int) ≤ 48); · rfl
 cases v6 <;> cases v7 <;> cases decide ((v8.length : Int) > 0) <;> cases @BEq.beq Int _ v5 0 <;> rfl
theorem Cm {v0 v1 v2 v3 v4 v5 : Int} {v6 v7 : Bool} {v8 : A0} (h : Kc (v0, v1, v2, v3, v4, v5, v6, v7, v8) = true) : (0 ≤ v0 ∧ v0 ≤ 65535) ∧ (0 ≤ v1 ∧ v1 ≤ 65535) ∧ (0 ≤ v2 ∧ v2 ≤ 255) ∧ (0 ≤ v3 ∧ v3 ≤ 255) ∧ (0 ≤ v4 ∧ v4 ≤ 255) ∧ (0 ≤ v5 ∧ v5 ≤ 255) ∧ v8.length ≤ 48 ∧ (v6 = true → 0 < v8.length) ∧ (v7 = true → v5 = 0 ∧ v6 = false) := by
 unfold Kc at h
 simp only [Bool.and_eq_true, Bool.or_eq_true, Bool.not_eq_true', decide_eq_true_eq, beq_iff_eq] at h
 obtain ⟨⟨⟨⟨⟨⟨⟨⟨q0, q1⟩, q2⟩, q3⟩, q4⟩, q5⟩, q6⟩, q7⟩, q8⟩ := h
 refine ⟨Be q0, Be q1, Be q2, Be q3, Be q4, Be q5, by omega, fun e => ?_, fun e => ?_⟩
 ·rcases q7 with q | q
  ·rw [e] at q; cases q
  ·omega
 ·rcases q8 with q | q
  ·rw [e] at q; cases q
  ·exact q
theorem N8 {v0 v1 v2 v3 v4 v5 : Int} {v6 v7 : Bool} {v8 : A0} (h0 : 0 ≤ v0 ∧ v0 ≤ 65535) (h1 : 0 ≤ v1 ∧ v1 ≤ 65535) (h2 : 0 ≤ v2 ∧ v2 ≤ 255) (h3 : 0 ≤ v3 ∧ v3 ≤ 255) (h4 : 0 ≤ v4 ∧ v4 ≤ 255) (h5 : 0 ≤ v5 ∧ v5 ≤ 255) (h6 : v8.length ≤ 48) (h7 : v6 = true → 0 < v8.length) (h8 : v7 = true → v5 = 0 ∧ v6 = false) : Kc (v0, v1, v2, v3, v4, v5, v6, v7, v8) = true := by
 unfold Kc
 simp only [Bool.and_eq_true, Bool.or_eq_true, Bool.not_eq_true', decide_eq_true_eq, beq_iff_eq]
 refine ⟨⟨⟨⟨⟨⟨⟨⟨B3 h0, B3 h1⟩, B3 h2⟩, B3 h3⟩, B3 h4⟩, B3 h5⟩, by omega⟩, ?_⟩, ?_⟩
 ·cases v6 with
  | false => exact .inl rfl
  | true => have := h7 rfl; right; omega
 ·cases v7 with
  | false => exact .inl rfl
  | true => exact .inr (h8 rfl)
def flP (v6 v7 : Bool) : Int := cond v6 (cond v7 3 1) (cond v7 2 0)
def hdP (v0 v1 v2 v3 v4 v5 : Int) (v6 v7 : Bool) (n : Int) : A0 := T2 v0 ++ T2 v1 ++ [K7 v2, K7 v3, K7 v4, K7 v5, K7 (flP v6 v7), K7 n]
def pkB (v0 v1 v2 v3 v4 v5 : Int) (v6 v7 : Bool) (v8 : A0) : A0 := hdP v0 v1 v2 v3 v4 v5 v6 v7 (v8.length : Int) ++ T2 (X7 (hdP v0 v1 v2 v3 v4 v5 v6 v7 (v8.length : Int))) ++ v8
theorem Ws (v0 v1 v2 v3 v4 v5 : Int) (v6 v7 : Bool) (n : Int) : (hdP v0 v1 v2 v3 v4 v5 v6 v7 n).length = 10 := rfl
theorem Xel {v0 v1 : Int} (h0 : 0 ≤ v0 ∧ v0 ≤ 65535) (h1 : 0 ≤ v1 ∧ v1 ≤ 65535) (v2 v3 v4 v5 : Int) (v6 v7 : Bool) (n : Int) : BOk (hdP v0 v1 v2 v3 v4 v5 v6 v7 n) :=
 ((Xew h0).app (Xew h1)).app BOk.nil.cons.cons.cons.cons.cons.cons
theorem Xei (v0 v1 v2 v3 v4 v5 : Int) (v6 v7 : Bool) (v8 : A0) : (pkB v0 v1 v2 v3 v4 v5 v6 v7 v8).length = 12 + v8.length := by
 unfold pkB
 rw [List.length_append, List.length_append, Ws, Um]
theorem Xrp (q : Nat) {v0 v1 v2 v3 v4 v5 : Int} {v6 v7 : Bool} {v8 : A0} (h : Kc (v0, v1, v2, v3, v4, v5, v6, v7, v8) = true) : Xg0 (q + 4) (v0, v1, v2, v3, v4, v5, v6, v7, v8) = some (hdP v0 v1 v2 v3 v4 v5 v6 v7 (v8.length : Int)) := by
 obtain ⟨h0, h1, _⟩ := Cm h
 have e : Xgl (q + 4) (v0, v1, v2, v3, v4, v5, v6, v7, v8) = some (flP v6 v7) := by
  unfold Xgl flP; (try dsimp only)
  cases v6 <;> cases v7 <;> rfl
 unfold Xg0 Uv; (try dsimp only [Bh, Aw])
 refine (bs (Pd q v0 h0)).trans ((bs (Pd q v1 h1)).trans ((ct rfl).trans ((bs e).trans ((ct rfl).trans rfl))))
theorem Xrh (q : Nat) {v0 v1 v2 v3 v4 v5 : Int} {v6 v7 : Bool} {v8 : A0} (h : Kc (v0, v1, v2, v3, v4, v5, v6, v7, v8) = true) (hk : 1048576 < q + 4) : Xh7 (q + 4) (v0, v1, v2, v3, v4, v5, v6, v7, v8) = some (pkB v0 v1 v2 v3 v4 v5 v6 v7 v8) := by
 obtain ⟨h0, h1, _, _, _, _, h6, _⟩ := Cm h
 have hB := Xel h0 h1 v2 v3 v4 v5 v6 v7 (v8.length : Int)
 have hl := Ws v0 v1 v2 v3 v4 v5 v6 v7 (v8.length : Int)
 unfold Xh7 V9; (try dsimp only [Bh])
 refine (bs (C3 (q + 4) _)).trans ?_
 rw [h]
 refine (cf rfl).trans ((bs (Xrp q h)).trans ((bs (Xqf (q + 4) _ hB (by omega) hk)).trans ((bs (Pd q _ (Xd9 hB))).trans ?_)))
 refine (ct (decide_eq_true (by rw [hl, Um]; omega))).trans ((ct (decide_eq_true (by rw [List.length_append, hl, Um]; show (10 + 2 + v8.length) * 1 ≤ _; omega))).trans rfl)
theorem Xpy (q : Nat) {v0 v1 v2 v3 v4 v5 : Int} {v6 v7 : Bool} {v8 : A0} (h : Kc (v0, v1, v2, v3, v4, v5, v6, v7, v8) = true) (hk : 1048576 < q + 4) : Xf0 (q + 4) (v0, v1, v2, v3, v4, v5, v6, v7, v8) = some (pkB v0 v1 v2 v3 v4 v5 v6 v7 v8) := by
 obtain ⟨h0, h1, _, _, _, _, h6, _⟩ := Cm h
 have hB := Xel h0 h1 v2 v3 v4 v5 v6 v7 (v8.length : Int)
 have hl := Ws v0 v1 v2 v3 v4 v5 v6 v7 (v8.length : Int)
 have hf : IntKind.i64.wrap ((if v6 = true then 1 else 0) + (if v7 = true then 2 else 0)) = flP v6 v7 := by unfold flP; cases v6 <;> cases v7 <;> decide
 unfold Xf0 W6; (try dsimp only [Aw])
 refine (bs (Vo q v0 h0)).trans ((bs (Vo q v1 h1)).trans ((bs (Xeo (q + 4) v6 1)).trans ((bs (Xeo (q + 4) v7 2)).trans ?_)))
 rw [hf]
 have c1 := Xbf (q + 4) [T2 v0, T2 v1, [K7 v2, K7 v3, K7 v4, K7 v5, K7 (flP v6 v7), K7 (v8.length : Int)]] (show 3 < q + 4 by omega) (by show 3 ≤ 1048576; omega) (by show 10 ≤ 4194304; omega)
 have e1 : [T2 v0, T2 v1, [K7 v2, K7 v3, K7 v4, K7 v5, K7 (flP v6 v7), K7 (v8.length : Int)]].flatten = hdP v0 v1 v2 v3 v4 v5 v6 v7 (v8.length : Int) := rfl
 rw [e1] at c1
 refine (bs c1).trans ((bs (Xvn q _ hB (by omega))).trans ((bs (Vo q _ (Xd9 hB))).trans ?_))
 have e2 : [hdP v0 v1 v2 v3 v4 v5 v6 v7 (v8.length : Int), T2 (X7 (hdP v0 v1 v2 v3 v4 v5 v6 v7 (v8.length : Int))), v8].flatten = pkB v0 v1 v2 v3 v4 v5 v6 v7 v8 := by simp [pkB]
 have c2 := Xbf (q + 4) [hdP v0 v1 v2 v3 v4 v5 v6 v7 (v8.length : Int), T2 (X7 (hdP v0 v1 v2 v3 v4 v5 v6 v7 (v8.length : Int))), v8] (show 3 < q + 4 by omega) (by show 3 ≤ 1048576; omega) (by rw [e2, Xei]; omega)
 rw [e2] at c2
 exact (bs c2).trans rfl
def Wc (a b : Int) (n : Nat) : Bool := inB a 1 6 && inB b 0 65535 && decide ((n : Int) ≤ 20)
theorem Xfj (k : Nat) (a b : Int) (l : A0) : Xae k (a, b, l) = some (Wc a b l.length) := by
 unfold Xae Vl Wc; (try dsimp only)
 simp only [Bp, Option.bind_some]
 cases inB a 1 6; · rfl
 cases inB b 0 65535 <;> rfl
theorem Xpm (k : Nat) (a b : Int) (l : A0) : Xg6 k (a, b, l) = some (Wc a b l.length) := by
 unfold Xg6 Ve Wc; (try dsimp only)
 simp only [Cp, G7, Option.bind_some]
 cases inB a 1 6; · rfl
 cases inB b 0 65535 <;> rfl
def noB (a b : Int) (l : A0) : A0 := cond (Wc a b l.length) ([K7 a] ++ T2 b ++ [K7 (l.length : Int)] ++ l) []
theorem Ps {a b : Int} {n : Nat} (h : Wc a b n = true) : (1 ≤ a ∧ a ≤ 6) ∧ (0 ≤ b ∧ b ≤ 65535) ∧ n ≤ 20 := by
 unfold Wc at h
 simp only [Bool.and_eq_true, decide_eq_true_eq] at h
 exact ⟨Be h.1.1, Be h.1.2, by omega⟩
theorem Xru (q : Nat) (a b : Int) (l : A0) : Xfw (q + 4) (a, b, l) = some (noB a b l) := by
 unfold Xfw Uy noB; (try dsimp only [Bh, u_3])
 refine (bs (Xfj (q + 4) a b l)).trans ?_
 cases h : Wc a b l.length with
 | false => rfl
 | true =>
  obtain ⟨_, h2, h3⟩ := Ps h
  refine (cf rfl).trans ((bs (Pd q b h2)).trans ((ct rfl).trans ((ct rfl).trans ((ct (decide_eq_true ?_)).trans rfl))))
  show (4 + l.length) * 1 ≤ _
  omega
theorem Xd4 (q : Nat) (a b : Int) (l : A0) (hk : 1048576 < q + 4) : Yg (q + 4) (a, b, l) = some (noB a b l) := by
 unfold Yg Wp noB; (try dsimp only [u_3])
 refine (bs (Xpm (q + 4) a b l)).trans ?_
 cases h : Wc a b l.length with
 | false => rfl
 | true =>
  obtain ⟨_, h2, h3⟩ := Ps h
  have e1 : [[K7 a], T2 b, [K7 (l.length : Int)], l].flatten = [K7 a] ++ T2 b ++ [K7 (l.length : Int)] ++ l := by simp
  have c1 := Xbf (q + 4) [[K7 a], T2 b, [K7 (l.length : Int)], l] (show 4 < q + 4 by omega) (by show 4 ≤ 1048576; omega) (by rw [e1]; show l.length + 1 + 1 + 1 + 1 ≤ 4194304; omega)
  rw [e1] at c1
  exact (cf rfl).trans ((bs (Vo q b h2)).trans ((bs c1).trans rfl))
theorem Xk {a b : Int} {l : A0} (h : Wc a b l.length = true) : (noB a b l).length = 4 + l.length ∧ l.length ≤ 20 := by
 unfold noB
 rw [h]
 exact ⟨show l.length + 1 + 1 + 1 + 1 = 4 + l.length by omega, (Ps h).2.2⟩
def noF (v : A0) : (Int × (Int × A0)) × Bool := cond (decide (4 ≤ v.length) && Wc (a8 v 0) (n2 v 1) (v.drop 4).length && (a8 v 3 == ((v.drop 4).length : Int))) ((a8 v 0, n2 v 1, v.drop 4), true) ((0, 0, []), false)
theorem w8 {v : A0} (hb : BOk v) {j : Nat} (h : j < v.length) : IntKind.i64.wrap (a8 v j) = a8 v j := by
 have := Lr hb h
 exact i64_in _ (by omega)
theorem Xrm (q : Nat) (v : A0) (hb : BOk v) (hl : v.length ≤ 1048576) : Xf9 (q + 4) v = some (noF v) := by
 unfold Xf9 Ug noF; (try dsimp only [Bh])
 by_cases h : v.length < 4
 ·rw [decide_eq_false (by omega : ¬ 4 ≤ v.length)]
  exact (ct (decide_eq_true (by omega))).trans rfl
 ·rw [decide_eq_true (by omega : 4 ≤ v.length)]
  refine (cf (decide_eq_false (by omega))).trans ((ct (decide_eq_true (by omega))).trans ((bs (Xq4 q v hb hl 1 (by omega))).trans ?_))
  refine (ct (by rw [decide_eq_true (by omega : (4 : Int) ≤ (v.length : Int))]; rfl)).trans ((ct (decide_eq_true (by simp only [List.length_nil, List.length_drop]; omega))).trans ?_)
  rw [List.nil_append, show IntKind.i64.wrap (Ap v 0) = a8 v 0 from w8 hb (j := 0) (by omega), show IntKind.i64.wrap (Ap v 3) = a8 v 3 from w8 hb (j := 3) (by omega)]
  refine (bs (Xfj (q + 4) (a8 v 0) (n2 v 1) (v.drop 4))).trans ?_
  cases Wc (a8 v 0) (n2 v 1) (v.drop 4).length with
  | false => rfl
  | true =>
   refine (cf rfl).trans ((ct (decide_eq_true (by omega))).trans ?_)
   cases hc : (a8 v 3 == ((v.drop 4).length : Int)) with
   | true => exact (cf (by rw [bne, hc]; rfl)).trans rfl
   | false => exact (ct (by rw [bne, hc]; rfl)).trans rfl
theorem four (v : A0) (h : 4 ≤ v.length) : v = a8 v 0 :: a8 v 1 :: a8 v 2 :: a8 v 3 :: v.drop 4 := by
 obtain _ | ⟨a, _ | ⟨b, _ | ⟨c, _ | ⟨d, r⟩⟩⟩⟩ := v
 ·simp at h
 ·simp at h
 ·simp at h
 ·simp at h
 ·rfl
theorem Xsw (q : Nat) (v : A0) (hb : BOk v) (hl : v.length ≤ 1048576) (hk : 1048576 < q + 4) : Xh0 (q + 4) v = some (noF v) := by
 unfold Xh0 U8 noF; (try dsimp only)
 by_cases h : v.length < 4
 ·rw [decide_eq_false (by omega : ¬ 4 ≤ v.length)]
  exact (ct (decide_eq_true (by omega))).trans rfl
 ·have hv := four v (by omega)
  have q0 := Lr hb (j := 0) (by omega)
  have q1 := Lr hb (j := 1) (by omega)
  have q2 := Lr hb (j := 2) (by omega)
  have q3 := Lr hb (j := 3) (by omega)
  have hd : (v.drop 4).length = v.length - 4 := List.length_drop
  rw [decide_eq_true (by omega : 4 ≤ v.length)]
  refine (cf (decide_eq_false (by omega))).trans ((ct (decide_eq_true (by omega))).trans ((bs (Xp2 q v hb hl 1 (by omega))).trans ?_))
  refine (ct (by rw [decide_eq_true (by omega : (4 : Int) ≤ (v.length : Int))]; rfl)).trans ((bs (Pf (q + 4) (v.drop 4) (by omega))).trans ?_)
  rw [show IntKind.i64.wrap (Ap v 0) = a8 v 0 from w8 hb (j := 0) (by omega)]
  refine (bs (Xd4 q (a8 v 0) (n2 v 1) (v.drop 4) hk)).trans ?_
  have hnl : (noB (a8 v 0) (n2 v 1) (v.drop 4)).length ≤ 24 := by
   cases ho : Wc (a8 v 0) (n2 v 1) (v.drop 4).length with
   | false => unfold noB; rw [ho]; simp
   | true => have := Xk ho; omega
  refine (bs (Xrc (q + 4) _ v (by omega) (by omega))).trans ?_
  have key : decide (noB (a8 v 0) (n2 v 1) (v.drop 4) = v) = (Wc (a8 v 0) (n2 v 1) (v.drop 4).length && (a8 v 3 == ((v.drop 4).length : Int))) := by
   cases ho : Wc (a8 v 0) (n2 v 1) (v.drop 4).length with
   | false =>
    unfold noB
    rw [ho]
    exact decide_eq_false (fun e => by rw [← e] at h; simp at h)
   | true =>
    obtain ⟨_, h2, h3⟩ := Ps ho
    unfold noB
    rw [ho, Bool.true_and, cond_true]
    have e0 : K7 (a8 v 0) = a8 v 0 := u8W _ q0
    have e1 : n2 v 1 / 256 = a8 v 1 := by show (a8 v 1 * 256 + a8 v 2) / 256 = _; omega
    have e2 : n2 v 1 % 256 = a8 v 2 := by show (a8 v 1 * 256 + a8 v 2) % 256 = _; omega
    have e3 : K7 ((v.drop 4).length : Int) = ((v.drop 4).length : Int) := u8W _ (by omega)
    by_cases c : a8 v 3 = ((v.drop 4).length : Int)
    ·rw [show (a8 v 3 == ((v.drop 4).length : Int)) = true from beq_iff_eq.2 c]
     refine decide_eq_true ?_
     rw [e0, e3, ← c]
     show a8 v 0 :: n2 v 1 / 256 :: n2 v 1 % 256 :: a8 v 3 :: v.drop 4 = v
     rw [e1, e2]
     exact hv.symm
    ·rw [show (a8 v 3 == ((v.drop 4).length : Int)) = false from beq_eq_false_iff_ne.2 c]
     refine decide_eq_false (fun e => c ?_)
     have e4 := congrArg (fun l => a8 l 3) e
     have e5 : K7 ((v.drop 4).length : Int) = a8 v 3 := e4
     exact e5.symm.trans e3
  rw [key]
  cases Wc (a8 v 0) (n2 v 1) (v.drop 4).length <;> cases (a8 v 3 == ((v.drop 4).length : Int)) <;> rfl
def Ka (k2 : Int) (v : A0) : Bool := (noF v).2 && (@BEq.beq Int _ k2 1) && decide ((noF v).1.1 ≥ 3)
theorem Xpz (q : Nat) (p : den Ac) (hb : BOk p.2.2.2.2.2.2.2.2) (hl : p.2.2.2.2.2.2.2.2.length ≤ 1048576) : Xgr (q + 4) p = some (Ka p.2.2.1 p.2.2.2.2.2.2.2.2) := by
 unfold Xgr T1 Ka; (try dsimp only)
 refine (bs (Xrm q _ hb hl)).trans ?_
 cases (noF p.2.2.2.2.2.2.2.2).2; · rfl
 refine (ct rfl).trans ?_
 cases @BEq.beq Int _ p.2.2.1 1 <;> rfl
theorem Xs8 (q : Nat) (p : den Ac) (hb : BOk p.2.2.2.2.2.2.2.2) (hl : p.2.2.2.2.2.2.2.2.length ≤ 1048576) (hk : 1048576 < q + 4) : Xh8 (q + 4) p = some (Ka p.2.2.1 p.2.2.2.2.2.2.2.2) := by
 unfold Xh8 Wn Ka; (try dsimp only)
 refine (bs (Xsw q _ hb hl hk)).trans ?_
 cases (noF p.2.2.2.2.2.2.2.2).2; · rfl
 refine (ct rfl).trans ?_
 cases @BEq.beq Int _ p.2.2.1 1 <;> rfl
def noP : den Ac := (0, 0, 0, 0, 0, 0, false, false, [])
def Tq (v0 v1 v2 v3 v4 v5 : Int) (v6 v7 : Bool) (v8 : A0) (w p q : Int) : den Ac × Bool :=
 cond (!Ka v2 v8 && @BEq.beq Int _ v5 0) ((w, v0, 1, 64, v4, 0, false, false, noB p q ((pkB v0 v1 v2 v3 v4 v5 v6 v7 v8).take 20)), true) (noP, false)
theorem tk20 (l : A0) (n : Nat) (hl : l.length = n) : (l.take (if 20 < (n : Int) then 20 else (n : Int)).toNat).drop 0 = l.take 20 ∧ 0 ≤ (if 20 < (n : Int) then 20 else (n : Int)) ∧ (if 20 < (n : Int) then 20 else (n : Int)) ≤ (n : Int) := by
 by_cases c : 20 < (n : Int)
 ·rw [if_pos c]
  exact ⟨rfl, by omega, by omega⟩
 ·rw [if_neg c]
  refine ⟨?_, by omega, by omega⟩
  rw [Int.toNat_natCast, List.drop_zero, List.take_of_length_le (by omega), List.take_of_length_le (by omega)]
theorem Xth (n : Nat) {v0 v1 v2 v3 v4 v5 : Int} {v6 v7 : Bool} {v8 : A0} (h : Kc (v0, v1, v2, v3, v4, v5, v6, v7, v8) = true) (hb : BOk v8) (hk : 1048576 < n + 4) {w p q : Int} (hw : inB w 0 65535 = true) (hp : 3 ≤ p ∧ p ≤ 6) (hq : 0 ≤ q ∧ q ≤ 65535) :
  Y3 (n + 4) (v0, v1, v2, v3, v4, v5, v6, v7, v8) w p q = some (Tq v0 v1 v2 v3 v4 v5 v6 v7 v8 w p q) := by
 obtain ⟨h0, h1, _, _, _, h5, h6, _⟩ := Cm h
 have hl := Xei v0 v1 v2 v3 v4 v5 v6 v7 v8
 obtain ⟨t1, t2, t3⟩ := tk20 (pkB v0 v1 v2 v3 v4 v5 v6 v7 v8) _ rfl
 have ho : Wc p q ((pkB v0 v1 v2 v3 v4 v5 v6 v7 v8).take 20).length = true := by
  unfold Wc
  rw [B3 (show 1 ≤ p ∧ p ≤ 6 by omega), B3 hq, List.length_take]
  exact decide_eq_true (by omega)
 have hn := Xk ho
 unfold Y3 Xb Tq; (try dsimp only)
 refine (bs (Xrh n h hk)).trans ((ct (by rw [decide_eq_true t2, decide_eq_true t3]; rfl)).trans ?_)
 rw [t1]
 refine (bs (Xru n _ _ _)).trans ((bs (C3 _ _)).trans ?_)
 rw [h]
 refine (cf rfl).trans ((bs (Bp _ _ _ _)).trans ?_)
 rw [hw]
 refine (cf rfl).trans ((bs (Bp _ _ _ _)).trans ?_)
 rw [B3 hp]
 refine (cf rfl).trans ((cf (beq_eq_false_iff_ne.2 (by omega))).trans ((bs (Xpz n _ hb (show v8.length ≤ 1048576 by omega))).trans ?_))
 show cond (Ka v2 v8) _ _ = _
 cases Ka v2 v8 with
 | true => rfl
 | false =>
  refine (cf rfl).trans ?_
  by_cases c : v5 = 0
  ·subst c
   exact (cf (decide_eq_false (by show ¬ (0 : Int) > 0; omega))).trans rfl
  ·rw [show @BEq.beq Int _ v5 0 = false from beq_eq_false_iff_ne.2 c]
   exact (ct (decide_eq_true (by show v5 > 0; omega))).trans rfl
theorem Xfd (n : Nat) {v0 v1 v2 v3 v4 v5 : Int} {v6 v7 : Bool} {v8 : A0} (h : Kc (v0, v1, v2, v3, v4, v5, v6, v7, v8) = true) (hb : BOk v8) (hk : 1048576 < n + 4) {w p q : Int} (hw : inB w 0 65535 = true) (hp : 3 ≤ p ∧ p ≤ 6) (hq : 0 ≤ q ∧ q ≤ 65535) :
  Yf (n + 4) (v0, v1, v2, v3, v4, v5, v6, v7, v8) w p q = some (Tq v0 v1 v2 v3 v4 v5 v6 v7 v8 w p q) := by
 obtain ⟨h0, h1, _, _, _, h5, h6, _⟩ := Cm h
 obtain ⟨t1, t2, t3⟩ := tk20 (pkB v0 v1 v2 v3 v4 v5 v6 v7 v8) _ rfl
 unfold Yf Wq Tq; (try dsimp only)
 refine (bs (Rj _ _)).trans ?_
 rw [h]
 refine (cf rfl).trans ((bs (G7 _ _)).trans ?_)
 rw [hw]
 refine (cf rfl).trans ?_
 by_cases c : v5 = 0
 ·subst c
  refine (cf (by decide)).trans ((bs (Xs8 n _ hb (show v8.length ≤ 1048576 by omega) hk)).trans ?_)
  show cond (Ka v2 v8) _ _ = _
  cases Ka v2 v8 with
  | true => rfl
  | false =>
   refine (cf rfl).trans ((bs (Cp _ _ _ _)).trans ?_)
   rw [B3 hp]
   refine (cf rfl).trans ((bs (G7 _ _)).trans ?_)
   rw [B3 hq]
   refine (cf rfl).trans ((bs (Xpy n h hk)).trans ((ct (by rw [decide_eq_true t2, decide_eq_true t3]; rfl)).trans ?_))
   rw [t1]
   unfold Xjj; (try dsimp only)
   rw [Xd4 n _ _ _ hk]
   rfl
 ·rw [show @BEq.beq Int _ v5 0 = false from beq_eq_false_iff_ne.2 c, Bool.and_false]
  exact (ct (bne_iff_ne.2 c)).trans rfl
def H9 (b : den Ac × Bool) : den Pa := cond b.2 (3, 0, [b.1]) (0, 0, [])
theorem Xst {k : Nat} {s : den sta} {w : den Ac} {p q : Int} {b : den Ac × Bool} (h : Y3 k w s.1 p q = some b) : Y5 k s w p q = some (H9 b) := by
 unfold Y5 H9; (try dsimp only)
 refine (bs h).trans ?_
 cases b.2 <;> rfl
theorem Xfu {k : Nat} {s : den sta} {w : den Ac} {p q : Int} {b : den Ac × Bool} (h : Yf k w s.1 p q = some b) : X0 k s w p q = some (H9 b) := by
 unfold X0 H9; (try dsimp only)
 refine (bs h).trans ?_
 cases b.2 <;> rfl
end Go.Proofs.YtdmepjjepogddaaGreat.Gn
end

section
namespace Go.Proofs.YtdmepjjepogddaaGreat.Gn
open Go.Rf Go.IntWalk
set_option linter.unusedVariables false
set_option linter.unusedSimpArgs false
theorem Xrr (k : Nat) {r : den B6} {w : Int} (ho : okR r = true) (hw : inB w 0 65535 = true) : Xf5 k r w = some (Rt.Sd w r) := by
 obtain ⟨a, n, g, m⟩ := r
 obtain ⟨h1, h2, _⟩ := J4 ho
 have hn := Be h1
 have ha := Be h2
 have hx := Be hw
 have hr : 1 ≤ rest n ∧ rest n ≤ 65536 := Pe hn
 unfold Xf5 W0 Rt.Sd; (try dsimp only)
 refine (bs (V4 k _)).trans ?_
 rw [ho]
 refine (ct rfl).trans ((bs (Bp _ _ _ _)).trans ?_)
 rw [hw]
 have hz : ¬ rest n = 0 := by omega
 refine (ct rfl).trans ((bs (Ul k hn)).trans ((cf (decide_eq_false hz)).trans ((bs (Ul k hn)).trans ((cf (decide_eq_false hz)).trans ?_))))
 have e : ∀ x : Int, 0 ≤ x ∧ x ≤ 65535 → IntKind.i64.wrap (x.tdiv (rest n)) = x.fdiv (rest n) := fun x hx => by
  rw [Int.tdiv_eq_ediv_of_nonneg hx.1, Int.fdiv_eq_ediv_of_nonneg x (by omega)]
  have h1 := Int.ediv_nonneg hx.1 (show 0 ≤ rest n by omega)
  have h2 := Int.ediv_le_self (rest n) hx.1
  exact i64_in _ (by omega)
 show some (IntKind.i64.wrap (w.tdiv (rest n)) == IntKind.i64.wrap (Int.tdiv a (rest n))) = some (w.fdiv (rest n) == Int.fdiv a (rest n))
 rw [e w hx, e a ha]
theorem Xls (k : Nat) (v : rtL) (w : Int) (hl : v.length ≤ 1048576) (hr : F202 k v = some true) (ho : ∀ r ∈ v, okR r = true) (hw : inB w 0 65535 = true) : ∀ (j n : Nat), j ≤ v.length → j < n → Gz k v w n ((j : Int) - 1) = some (Rt.Bq w 17 (v.take j).reverse)
 | _, 0, _, h => by omega
 | 0, n + 1, _, _ => by
  rw [Gz]
  unfold F6; (try dsimp only [A1])
  exact (cf (decide_eq_false (by omega))).trans rfl
 | j + 1, n + 1, hj, h => by
  have hlt : j < v.length := by omega
  have d1 : decide ((j : Int) < ((v.length : Nat) : Int)) = true := decide_eq_true (by omega)
  have d0 : decide ((0 : Int) ≤ ((j : Nat) : Int)) = true := decide_eq_true (by omega)
  have e1 : (((j + 1 : Nat) : Int) - 1) = (j : Int) := by omega
  have ok := ho _ (List.getElem_mem hlt)
  have hn := Be (J4 ok).1
  rw [Gz]
  unfold F6; (try dsimp only [A1])
  rw [e1, i64_in ((j : Int) - 1) (by omega), As v j hlt, Xls k v w hl hr ho hw j n (by omega) (by omega), List.take_add_one, List.getElem?_eq_getElem hlt]
  refine (ct (decide_eq_true (by omega))).trans ((bs hr).trans ((ct rfl).trans ((ct d0).trans ((ct d1).trans ((bs (Xrr k ok hw)).trans ?_)))))
  rw [Option.toList_some, List.reverse_append, List.reverse_singleton, List.singleton_append, Rt.Bq]
  rw [show decide (@LT.lt Int _ v[j].2.1 17) = true from decide_eq_true (by omega), Bool.true_and]
  cases Rt.Sd w v[j] with
  | true => exact (ct rfl).trans ((ct d0).trans ((ct d1).trans rfl))
  | false => rfl
theorem Xtw (k : Nat) (v : rtL) (w : Int) (hl : v.length ≤ 8) (hr : F202 k v = some true) (ho : ∀ r ∈ v, okR r = true) (hw : inB w 0 65535 = true) (hk : 1048576 < k) : Xf1 k v w = some (Rt.Bq w 17 v.reverse) := by
 have := Xls k v w (by omega) hr ho hw v.length k (Nat.le_refl _) (by omega)
 rw [List.take_length] at this
 unfold Xf1 Xl; (try dsimp only)
 rw [i64_in ((v.length : Int) - 1) (by omega)]
 exact this
theorem Xbk (k : Nat) (v : rtL) (w : Int) (hl : v.length ≤ 8) (ho : ∀ r ∈ v, okR r = true) : F74 k v w 17 = some (Rt.Bq w 17 v.reverse) := by
 unfold F74 Rt.to; (try dsimp only)
 refine ct ?_
 rw [Bool.and_eq_true]
 refine ⟨List.all_eq_true.2 fun r hr => ?_, decide_eq_true (by omega)⟩
 exact (J4 (ho r hr)).1
theorem L4 (w p : Int) : ∀ {l : rtL}, (Rt.Bq w p l).2 = true → (Rt.Bq w p l).1 ∈ l
 | [], h => by cases h
 | r :: l, h => by
  rw [Rt.Bq] at h ⊢
  cases hc : (decide (@LT.lt Int _ r.2.1 p) && Rt.Sd w r) with
  | true => rw [hc] at h; exact List.mem_cons_self ..
  | false => rw [hc] at h; exact List.mem_cons_of_mem _ (L4 w p h)
def Hu (v0 v1 v2 v3 v4 : Int) (v7 : Bool) (a : Int) (m : Bool) (d : A0) : den Ac := (v0, v1, v2, v3, v4, a, m, v7, d)
def Cn (g : Int → Bool → A0 → den Ac) (N : Nat) (f : Bool) : Nat → Int → A0 → Cl
 | 0, _, _ => []
 | c + 1, a, d => if d.length ≤ N then [g a f d] else g a true (d.take N) :: Cn g N f c (a + (N : Int)) (d.drop N)
def C8 (N : Nat) : Nat → Int → A0 → Int
 | 0, a, _ => a
 | c + 1, a, d => if d.length ≤ N then a else C8 N c (a + (N : Int)) (d.drop N)
theorem Rm (N : Nat) : ∀ (c : Nat) (a : Int) (d : A0), a ≤ C8 N c a d
 | 0, a, d => Int.le_refl _
 | c + 1, a, d => by
  rw [C8]
  split
  ·exact Int.le_refl _
  ·have := Rm N c (a + (N : Int)) (d.drop N)
   omega
theorem X4 (N : Nat) : ∀ (c : Nat) (a : Int) (d : A0), C8 N c a d ≤ a + (d.length : Int)
 | 0, a, d => by rw [C8]; omega
 | c + 1, a, d => by
  rw [C8]
  split
  ·omega
  ·have := X4 N c (a + (N : Int)) (d.drop N)
   rw [List.length_drop] at this
   omega
def Ks (g : Int → Bool → A0 → den Ac) (N : Nat) (f : Bool) (m : Cl) (c : Nat) (a : Int) (d : A0) : Cl × Bool := cond (decide (C8 N c a d > 255)) ([], false) (m ++ Cn g N f c a d, true)
theorem win (l : A0) (x N : Nat) : (l.take (x + min N (l.length - x))).drop x = (l.drop x).take N := by
 rw [List.drop_take, Nat.add_sub_cancel_left]
 by_cases h : N ≤ l.length - x
 ·rw [Nat.min_eq_left h]
 ·rw [Nat.min_eq_right (by omega), List.take_of_length_le (by rw [List.length_drop]; omega), List.take_of_length_le (by rw [List.length_drop]; omega)]
theorem Xnc (k : Nat) (v0 v1 v2 v3 v4 v5 : Int) (v6 v7 : Bool) (v8 : A0) (N : Nat) (h5 : 0 ≤ v5 ∧ v5 ≤ 255) (h8 : v8.length ≤ 48) (hN : 1 ≤ N ∧ N ≤ 48) : ∀ (c n x : Nat) (m : Cl), x = 0 ∨ x < v8.length → v8.length - x < c → c < n → m.length + c ≤ 200 →
  D4 k (v0, v1, v2, v3, v4, v5, v6, v7, v8) (N : Int) n (x : Int) m = some (Ks (Hu v0 v1 v2 v3 v4 v7) N v6 m c (v5 + (x : Int)) (v8.drop x))
 | 0, _, _, _, _, h, _, _ => by omega
 | _, 0, _, _, _, _, h, _ => by omega
 | c + 1, n + 1, x, m, hx, hc, hn, hm => by
  have hxl : x ≤ v8.length := by omega
  rw [D4]
  unfold F5; (try dsimp only)
  have step : E4 k (v0, v1, v2, v3, v4, v5, v6, v7, v8) (N : Int) (D4 k (v0, v1, v2, v3, v4, v5, v6, v7, v8) (N : Int) n) some (x : Int) m = some (Ks (Hu v0 v1 v2 v3 v4 v7) N v6 m (c + 1) (v5 + (x : Int)) (v8.drop x)) := by
   have hme : (if ((v8.length : Nat) : Int) < (x : Int) + (N : Int) then ((v8.length : Nat) : Int) else (x : Int) + (N : Int)) = ((x + min N (v8.length - x) : Nat) : Int) := by split <;> omega
   have hd : (v8.drop x).length = v8.length - x := List.length_drop
   have g1 : (decide ((0 : Int) ≤ ((x + min N (v8.length - x) : Nat) : Int)) && decide (((x + min N (v8.length - x) : Nat) : Int) ≤ ((v8.length : Nat) : Int))) = true := by rw [decide_eq_true (by omega), decide_eq_true (by omega)]; rfl
   have g2 : (decide ((0 : Int) ≤ (x : Int)) && decide ((x : Int) ≤ ((x + min N (v8.length - x) : Nat) : Int))) = true := by rw [decide_eq_true (by omega), decide_eq_true (by omega)]; rfl
   have g3 : decide ((([] : A0).length + ((v8.drop x).take N).length) * 1 ≤ 140737488355328) = true := decide_eq_true (by rw [List.length_take, hd, List.length_nil]; omega)
   have g4 : decide ((m.length + 1) * 80 ≤ 140737488355328) = true := decide_eq_true (by omega)
   have lg := Rm N (c + 1) (v5 + (x : Int)) (v8.drop x)
   have nx : ∀ b : Bool, b = (if (v8.drop x).length ≤ N then v6 else true) → ¬ v5 + (x : Int) > 255 → D4 k (v0, v1, v2, v3, v4, v5, v6, v7, v8) (N : Int) n ((x : Int) + (N : Int)) (m ++ [Hu v0 v1 v2 v3 v4 v7 (v5 + (x : Int)) b ((v8.drop x).take N)]) = some (Ks (Hu v0 v1 v2 v3 v4 v7) N v6 m (c + 1) (v5 + (x : Int)) (v8.drop x)) := fun b hb ha => by
    have e1 : (x : Int) + (N : Int) = ((x + N : Nat) : Int) := by omega
    rw [e1]
    by_cases hlast : (v8.drop x).length ≤ N
    ·rw [if_pos hlast] at hb
     obtain ⟨n', rfl⟩ : ∃ n', n = n' + 1 := ⟨n - 1, by omega⟩
     rw [D4]
     unfold F5; (try dsimp only)
     refine (cf (beq_eq_false_iff_ne.2 (by omega))).trans ((cf (decide_eq_false (by omega))).trans ?_)
     unfold Ks
     rw [C8, if_pos hlast, Cn, if_pos hlast, decide_eq_false ha, List.take_of_length_le hlast, hb]
     rfl
    ·rw [if_neg hlast] at hb
     have := Xnc k v0 v1 v2 v3 v4 v5 v6 v7 v8 N h5 h8 hN c n (x + N) (m ++ [Hu v0 v1 v2 v3 v4 v7 (v5 + (x : Int)) b ((v8.drop x).take N)]) (.inr (by omega)) (by omega) (by omega) (by rw [List.length_append, List.length_singleton]; omega)
     rw [this]
     unfold Ks
     rw [C8, if_neg hlast, Cn, if_neg hlast, hb, List.drop_drop, List.append_assoc, List.singleton_append]
     rw [show v5 + ((x + N : Nat) : Int) = v5 + (x : Int) + (N : Int) by omega]
   unfold E4; (try dsimp only [Bh, Aw])
   rw [i64_in ((x : Int) + (N : Int)) (by omega), hme, i64_in (v5 + (x : Int)) (by omega), Int.toNat_natCast, Int.toNat_natCast, win, List.nil_append, List.length_singleton]
   by_cases ha : v5 + (x : Int) > 255
   ·have Po : some (([] : Cl), false) = some (Ks (Hu v0 v1 v2 v3 v4 v7) N v6 m (c + 1) (v5 + (x : Int)) (v8.drop x)) := by
     unfold Ks
     rw [decide_eq_true (by omega : C8 N (c + 1) (v5 + (x : Int)) (v8.drop x) > 255)]
     rfl
    cases v6 with
    | true => exact (ct rfl).trans ((ct g1).trans ((ct g2).trans ((ct g3).trans ((ct (decide_eq_true ha)).trans Po))))
    | false => exact (cf rfl).trans ((ct g1).trans ((ct g2).trans ((ct g3).trans ((ct (decide_eq_true ha)).trans Po))))
   ·cases v6 with
    | true => exact (ct rfl).trans ((ct g1).trans ((ct g2).trans ((ct g3).trans ((cf (decide_eq_false ha)).trans ((ct g4).trans (nx true (by split <;> rfl) ha))))))
    | false =>
     refine (cf rfl).trans ((ct g1).trans ((ct g2).trans ((ct g3).trans ((cf (decide_eq_false ha)).trans ((ct g4).trans (nx _ ?_ ha))))))
     by_cases hlast : (v8.drop x).length ≤ N
     ·rw [if_pos hlast]; exact decide_eq_false (by omega)
     ·rw [if_neg hlast]; exact decide_eq_true (by omega)
  rcases hx with h0 | h0
  ·subst h0
   exact (ct rfl).trans step
  ·by_cases hz : x = 0
   ·subst hz
    exact (ct rfl).trans step
   ·exact (cf (beq_eq_false_iff_ne.2 (by omega))).trans ((ct (decide_eq_true (by omega))).trans step)
theorem Xpl (k : Nat) {v0 v1 v2 v3 v4 v5 : Int} {v6 v7 : Bool} {v8 : A0} {N : Nat} (h : Kc (v0, v1, v2, v3, v4, v5, v6, v7, v8) = true) (hN : 1 ≤ N ∧ N ≤ 48) (h7 : v7 = true → v8.length ≤ N) (hk : 1048576 < k) :
  Za k (v0, v1, v2, v3, v4, v5, v6, v7, v8) (N : Int) = some (Ks (Hu v0 v1 v2 v3 v4 v7) N v6 [] 50 v5 v8) := by
 obtain ⟨_, _, _, _, _, h5, h8, _⟩ := Cm h
 have := Xnc k v0 v1 v2 v3 v4 v5 v6 v7 v8 N h5 h8 hN 50 k 0 [] (.inl rfl) (by omega) (by omega) (by simp)
 rw [List.drop_zero, show v5 + ((0 : Nat) : Int) = v5 by omega] at this
 unfold Za V0; (try dsimp only)
 refine (bs (C3 k _)).trans ?_
 rw [h]
 refine (cf rfl).trans ((bs (Bp k _ _ _)).trans ?_)
 rw [B3 (show 1 ≤ (N : Int) ∧ (N : Int) ≤ 48 by omega)]
 refine (cf rfl).trans ?_
 by_cases c : (v8.length : Int) > (N : Int)
 ·refine (ct (decide_eq_true c)).trans ?_
  cases v7 with
  | true => have := h7 rfl; omega
  | false => exact (cf rfl).trans this
 ·exact (cf (decide_eq_false c)).trans this
theorem Xd2 (k : Nat) (l : Cl) : Yi k l = some l := by
 unfold Yi Up; (try dsimp only)
 rw [decide_eq_true (by omega : (0 : Int) ≤ ((l.length : Nat) : Int)), decide_eq_true (Int.le_refl _)]
 simp
theorem Xn3 (k : Nat) (v0 v1 v2 v3 v4 v5 : Int) (v6 : Bool) (v8 : A0) (N : Nat) (hN : 1 ≤ N) : ∀ (c : Nat) (d : A0) (m : Cl) (a : Int), d ≠ [] → d.length < c → m.length + c ≤ 200 → 0 ≤ a ∧ a + (d.length : Int) ≤ 1000 →
  Fj k (v0, v1, v2, v3, v4, v5, v6, false, v8) (N : Int) (B0 N d) m a = some (Ks (Hu v0 v1 v2 v3 v4 false) N v6 m c a d)
 | 0, _, _, _, _, h, _, _ => by omega
 | c + 1, d, m, a, h0, hc, hm, ha => by
  rw [Iq hN d h0, Fj]
  try dsimp only [Aw]
  have htl : (d.take N).length = min N d.length := List.length_take
  refine (bs (Pf k (d.take N) (by omega))).trans ((ct (decide_eq_true (by rw [List.length_singleton]; omega))).trans ?_)
  by_cases hlast : d.length ≤ N
  ·have e0 : d.drop N = [] := List.drop_eq_nil_of_le hlast
   have e1 : d.take N = d := List.take_of_length_le hlast
   rw [e0, Kp hN, e1, Fj]
   have hl : (m ++ [(v0, v1, v2, v3, v4, a, true, false, d)]).length = m.length + 1 := by rw [List.length_append, List.length_singleton]
   have hi : IntKind.i64.wrap (((m ++ [(v0, v1, v2, v3, v4, a, true, false, d)]).length : Int) - 1) = ((m.length : Nat) : Int) := by rw [hl, i64_in _ (by omega)]; omega
   have hg : Ap (t := Ac) (m ++ [(v0, v1, v2, v3, v4, a, true, false, d)]) ((m.length : Nat) : Int) = (v0, v1, v2, v3, v4, a, true, false, d) := by rw [As _ m.length (by rw [hl]; omega)]; simp
   have hset : (m ++ [(v0, v1, v2, v3, v4, a, true, false, d)]).set m.length (v0, v1, v2, v3, v4, a, v6, false, d) = m ++ [Hu v0 v1 v2 v3 v4 false a v6 d] := by simp [Hu]
   have hg2 : Ap (t := Ac) (m ++ [Hu v0 v1 v2 v3 v4 false a v6 d]) ((m.length : Nat) : Int) = Hu v0 v1 v2 v3 v4 false a v6 d := by rw [As _ m.length (by rw [List.length_append, List.length_singleton]; omega)]; simp
   try dsimp only
   rw [hi, hg, Int.toNat_natCast]
   refine (ct (decide_eq_true (by omega))).trans ((ct (decide_eq_true (by rw [hl]; omega))).trans ((bs (congrArg some hset)).trans ((cf rfl).trans ?_)))
   rw [hg2]
   unfold Ks
   rw [C8, if_pos hlast, Cn, if_pos hlast]
   by_cases c2 : a > 255
   ·rw [decide_eq_true c2]
    exact (ct (decide_eq_true c2)).trans rfl
   ·rw [decide_eq_false c2]
    exact (cf (decide_eq_false c2)).trans ((bs (Xd2 k _)).trans rfl)
  ·have hdl : (d.drop N).length = d.length - N := List.length_drop
   have hne : d.drop N ≠ [] := by
    intro e
    rw [e] at hdl
    simp at hdl
    omega
   have ea : IntKind.i64.wrap (a + ((d.take N).length : Int)) = a + (N : Int) := by rw [htl, i64_in _ (by omega)]; omega
   rw [ea, Xn3 k v0 v1 v2 v3 v4 v5 v6 v8 N hN c (d.drop N) _ _ hne (by omega) (by rw [List.length_append, List.length_singleton]; omega) (by omega)]
   unfold Ks
   rw [C8, if_neg hlast, Cn, if_neg hlast, List.append_assoc, List.singleton_append]
   rfl
theorem G4 (k : Nat) (p : den Ac) (hl : p.2.2.2.2.2.2.2.2.length ≤ 1048576) : O9 k p = some p := by
 unfold O9; (try dsimp only [Aw])
 exact (bs (Pf k _ (by omega))).trans rfl
theorem L6 (k : Nat) (p : den Ac) (hl : p.2.2.2.2.2.2.2.2.length ≤ 1048576) : Lq k p = some p := by
 unfold Lq; (try dsimp only [Bh, Aw])
 refine (ct (decide_eq_true (by rw [List.length_nil]; omega))).trans ?_
 rw [List.nil_append]
theorem Xeu (k : Nat) {v0 v1 v2 v3 v4 v5 : Int} {v6 v7 : Bool} {v8 : A0} {N : Nat} (h : Kc (v0, v1, v2, v3, v4, v5, v6, v7, v8) = true) (hN : 1 ≤ N ∧ N ≤ 48) (h7 : v7 = true → v8.length ≤ N) :
  X3 k (v0, v1, v2, v3, v4, v5, v6, v7, v8) (N : Int) = some (Ks (Hu v0 v1 v2 v3 v4 v7) N v6 [] 50 v5 v8) := by
 obtain ⟨_, _, _, _, _, h5, h8, _⟩ := Cm h
 unfold X3; (try dsimp only)
 by_cases c : v8.length ≤ N
 ·refine (ct (decide_eq_true (by omega))).trans ((bs (G4 k _ (show v8.length ≤ 1048576 by omega))).trans ?_)
  unfold Ks
  rw [C8, if_pos c, Cn, if_pos c, decide_eq_false (by omega : ¬ v5 > 255)]
  rfl
 ·have e7 : v7 = false := by
   cases v7 with
   | false => rfl
   | true => exact absurd (h7 rfl) c
  subst e7
  refine (cf (decide_eq_false (by omega))).trans ((ct ?_).trans ?_)
  ·rw [decide_eq_true (by omega : (1 : Int) ≤ (N : Int)), decide_eq_true (by omega : (N : Int) ≤ 9223372036854775807), decide_eq_true (show v8.length ≤ 140737488355328 by omega)]; rfl
  ·rw [Int.toNat_natCast]
   exact Xn3 k v0 v1 v2 v3 v4 v5 v6 v8 N hN.1 50 v8 [] v5 (fun e => c (by rw [e]; simp)) (by omega) (by simp) (by omega)
end Go.Proofs.YtdmepjjepogddaaGreat.Gn
end

section
namespace Go.Proofs.YtdmepjjepogddaaGreat.Gn
open Go.Rf Go.IntWalk
set_option linter.unusedVariables false
set_option linter.unusedSimpArgs false
def wl (n : Nat) : Int := if n = 0 then 1 else (n : Int)
def wt (p : den Ac) : Int := wl p.2.2.2.2.2.2.2.2.length * ((p.2.2.2.1 : Int) + 1)
theorem Xo7 (n : Nat) : 1 ≤ wl n := by unfold wl; split <;> omega
theorem Yv (v0 v1 v2 v3 v4 : Int) (v7 : Bool) {N : Nat} (hN : 1 ≤ N) (f : Bool) : ∀ (c : Nat) (a : Int) (d : A0), d.length < c → Hr wt (Cn (Hu v0 v1 v2 v3 v4 v7) N f c a d) = wl d.length * (v3 + 1)
 | 0, _, _, h => by omega
 | c + 1, a, d, h => by
  rw [Cn]
  by_cases hl : d.length ≤ N
  ·rw [if_pos hl]
   simp only [Hr]
   show wl d.length * (v3 + 1) + 0 = _
   omega
  ·rw [if_neg hl]
   have hd : (d.drop N).length = d.length - N := List.length_drop
   have ht : (d.take N).length = N := by rw [List.length_take]; omega
   simp only [Hr]
   rw [Yv v0 v1 v2 v3 v4 v7 hN f c (a + (N : Int)) (d.drop N) (by omega)]
   show wl (d.take N).length * (v3 + 1) + _ = _
   rw [ht, hd, ← Int.add_mul]
   congr 1
   unfold wl
   split <;> split <;> split <;> omega
theorem Zl (g : Int → Bool → A0 → den Ac) {N : Nat} (hN : 1 ≤ N) (f : Bool) {p : den Ac} : ∀ (c : Nat) (a : Int) (d : A0), p ∈ Cn g N f c a d → ∃ a' m d', p = g a' m d' ∧ a ≤ a' ∧ a' ≤ C8 N c a d ∧ d'.length ≤ d.length ∧ (d ≠ [] → d' ≠ []) ∧ (m = f ∨ d' ≠ []) ∧ (∀ x ∈ d', x ∈ d)
 | 0, _, _, h => by simp [Cn] at h
 | c + 1, a, d, h => by
  rw [Cn] at h
  rw [C8]
  by_cases hl : d.length ≤ N
  ·rw [if_pos hl] at h ⊢
   obtain rfl := List.mem_singleton.1 h
   exact ⟨a, f, d, rfl, Int.le_refl _, Int.le_refl _, Nat.le_refl _, id, .inl rfl, fun x hx => hx⟩
  ·rw [if_neg hl] at h ⊢
   have hd : (d.drop N).length = d.length - N := List.length_drop
   have ht : (d.take N).length = N := by rw [List.length_take]; omega
   have hge := Rm N c (a + (N : Int)) (d.drop N)
   rcases List.mem_cons.1 h with e | h
   ·have hne : d.take N ≠ [] := fun e => by rw [e] at ht; simp at ht; omega
    exact ⟨a, true, d.take N, e, Int.le_refl _, by omega, by omega, fun _ => hne, .inr hne, fun x hx => List.mem_of_mem_take hx⟩
   ·have hne : d.drop N ≠ [] := fun e => by rw [e] at hd; simp at hd; omega
    obtain ⟨a', m, d', h1, h2, h3, h4, h5, h6, h7⟩ := Zl g hN f c (a + (N : Int)) (d.drop N) h
    exact ⟨a', m, d', h1, by omega, h3, by omega, fun _ => h5 hne, h6, fun x hx => List.mem_of_mem_drop (h7 x hx)⟩
def Og (p : den Ac) : den Ac := (p.1, p.2.1, p.2.2.1, IntKind.i64.wrap ((p.2.2.2.1 : Int) - 1), p.2.2.2.2)
theorem Qt {v3 : Int} (h3 : 0 ≤ v3 ∧ v3 ≤ 255) (v0 v1 v2 v4 : Int) (v7 : Bool) (N : Nat) (f : Bool) : ∀ (c : Nat) (a : Int) (d : A0), (Cn (Hu v0 v1 v2 v3 v4 v7) N f c a d).map Og = Cn (Hu v0 v1 v2 (v3 - 1) v4 v7) N f c a d
 | 0, _, _ => rfl
 | c + 1, a, d => by
  have e : ∀ (a : Int) (m : Bool) (d : A0), Og (Hu v0 v1 v2 v3 v4 v7 a m d) = Hu v0 v1 v2 (v3 - 1) v4 v7 a m d := fun a m d => by
   show (v0, v1, v2, IntKind.i64.wrap (v3 - 1), v4, a, m, v7, d) = _
   rw [i64_in (v3 - 1) (by omega)]
   rfl
  rw [Cn, Cn]
  split
  ·rw [List.map_cons, e]; rfl
  ·rw [List.map_cons, e, Qt h3 v0 v1 v2 v4 v7 N f c]
theorem Xc4 (k : Nat) (s : den sta) (w : den Ac) (z : den B6) : ∀ (n : Nat) (d r : Cl), d.length + r.length ≤ 1000 → r.length < n → D6 k s w n ((d.length + r.length : Nat) : Int) (d.length : Int) z (d ++ r) = some ((2 : Int), (z.2.2.1 : Int), d ++ r.map Og)
 | 0, _, _, _, h => by omega
 | n + 1, d, [], hl, h => by
  rw [D6]
  unfold F0; (try dsimp only [A1])
  simp
 | n + 1, d, p :: r, hl, h => by
  rw [D6]
  unfold F0; (try dsimp only [A1])
  rw [List.length_cons] at hl h
  have hj : d.length < (d ++ p :: r).length := by simp
  have hg : Ap (t := Ac) (d ++ p :: r) (d.length : Int) = p := by rw [As _ d.length hj]; simp
  have hset : (d ++ p :: r).set d.length (Og p) = (d ++ [Og p]) ++ r := by simp
  have ih := Xc4 k s w z n (d ++ [Og p]) r (by simp; omega) (by omega)
  have e1 : (((d ++ [Og p]).length + r.length : Nat) : Int) = ((d.length + (p :: r).length : Nat) : Int) := by simp; omega
  have e2 : ((d ++ [Og p]).length : Int) = ((d.length + 1 : Nat) : Int) := by simp
  rw [e1, e2] at ih
  rw [hg, Kr d.length (by omega), Int.toNat_natCast]
  refine (ct (decide_eq_true (by simp only [List.length_cons]; omega))).trans ?_
  have d0 : decide ((0 : Int) ≤ (d.length : Int)) = true := decide_eq_true (by omega)
  have d1 : decide ((d.length : Int) < ((d ++ p :: r).length : Int)) = true := decide_eq_true (by omega)
  refine (ct d0).trans ((ct d1).trans ((ct d0).trans ((ct d1).trans ?_)))
  refine (congrArg (fun l => D6 k s w n ((d.length + (p :: r).length : Nat) : Int) ((d.length + 1 : Nat) : Int) z l) hset).trans (ih.trans ?_)
  rw [List.map_cons, List.append_assoc, List.singleton_append]
def Xsn (p : den Ac) (d : den Pa) : Prop :=
 (@Eq Int d.1 0 ∧ d.2.2 = []) ∨ (@Eq Int d.1 1 ∧ d.2.2 = [p]) ∨ (@Eq Int d.1 3 ∧ ∃ n : den Ac, d.2.2 = [n] ∧ n.2.2.2.2.2.2.2.2.length ≤ 1048576) ∨
  (@Eq Int d.1 2 ∧ (∀ r ∈ d.2.2, Kc r = true ∧ BOk r.2.2.2.2.2.2.2.2) ∧ Hr wt d.2.2 + 1 ≤ wt p ∧ d.2.2.length ≤ 50)
theorem Ia (p : den Ac) (v0 v1 v2 v3 v4 v5 : Int) (v6 v7 : Bool) (v8 : A0) (w a b : Int) : Xsn p (H9 (Tq v0 v1 v2 v3 v4 v5 v6 v7 v8 w a b)) := by
 unfold Tq
 cases (!Ka v2 v8 && @BEq.beq Int _ v5 0) with
 | false => exact .inl ⟨rfl, rfl⟩
 | true =>
  refine .inr (.inr (.inl ⟨rfl, _, rfl, ?_⟩))
  show (noB a b ((pkB v0 v1 v2 v3 v4 v5 v6 v7 v8).take 20)).length ≤ _
  cases ho : Wc a b ((pkB v0 v1 v2 v3 v4 v5 v6 v7 v8).take 20).length with
  | false => unfold noB; rw [ho]; simp
  | true => have := Xk ho; omega
theorem Iz (g : Int → Bool → A0 → den Ac) (N : Nat) (f : Bool) : ∀ (c : Nat) (a : Int) (d : A0), (Cn g N f c a d).length ≤ c
 | 0, _, _ => Nat.le_refl _
 | c + 1, a, d => by
  rw [Cn]
  split
  ·simp
  ·have := Iz g N f c (a + (N : Int)) (d.drop N)
   rw [List.length_cons]
   omega
theorem Xln {v0 v1 v2 v3 v4 v5 : Int} {v6 v7 : Bool} {v8 : A0} {N : Nat} (h : Kc (v0, v1, v2, v3, v4, v5, v6, v7, v8) = true) (hb : BOk v8) (hN : 1 ≤ N ∧ N ≤ 48) (h7 : v7 = true → v8.length ≤ N) (h3 : ¬ v3 < 2) (gw : Int) (ha : ¬ C8 N 50 v5 v8 > 255) :
  Xsn (v0, v1, v2, v3, v4, v5, v6, v7, v8) (2, gw, Cn (Hu v0 v1 v2 (v3 - 1) v4 v7) N v6 50 v5 v8) := by
 obtain ⟨q0, q1, q2, q3, q4, q5, q6, q7, q8⟩ := Cm h
 refine .inr (.inr (.inr ⟨rfl, fun r hr => ?_, ?_, Iz _ _ _ _ _ _⟩))
 ·cases v7 with
  | true =>
   have hr : r ∈ Cn (Hu v0 v1 v2 (v3 - 1) v4 true) N v6 50 v5 v8 := hr
   rw [Cn, if_pos (h7 rfl)] at hr
   obtain rfl := List.mem_singleton.1 hr
   exact ⟨N8 q0 q1 q2 (by omega) q4 q5 q6 q7 q8, hb⟩
  | false =>
   obtain ⟨a', m, d', rfl, e1, e2, e3, e4, e5, e6⟩ := Zl (Hu v0 v1 v2 (v3 - 1) v4 false) hN.1 v6 50 v5 v8 hr
   refine ⟨N8 q0 q1 q2 (by omega) q4 (by omega) (by omega) (fun hm => ?_) (fun e => by cases e), fun x hx => hb x (e6 x hx)⟩
   refine List.length_pos_iff.2 ?_
   rcases e5 with e5 | e5
   ·exact e4 (List.length_pos_iff.1 (q7 (e5.symm.trans hm)))
   ·exact e5
 ·show Hr wt (Cn (Hu v0 v1 v2 (v3 - 1) v4 v7) N v6 50 v5 v8) + 1 ≤ wl v8.length * (v3 + 1)
  rw [Yv v0 v1 v2 (v3 - 1) v4 v7 hN.1 v6 50 v5 v8 (by omega)]
  have := Xo7 v8.length
  rw [show v3 - 1 + 1 = v3 by omega, Int.mul_add, Int.mul_one]
  omega
theorem fwd (q : Nat) {s : den sta} (hs : StaOk (q + 4) s) {v0 v1 v2 v3 v4 v5 : Int} {v6 v7 : Bool} {v8 : A0} (h : Kc (v0, v1, v2, v3, v4, v5, v6, v7, v8) = true) (hb : BOk v8) (hk : 1048576 < q + 4) :
  ∃ d : den Pa, Xbm (q + 4) s (v0, v1, v2, v3, v4, v5, v6, v7, v8) = some d ∧ Wb (q + 4) s (v0, v1, v2, v3, v4, v5, v6, v7, v8) = some d ∧ Xsn (v0, v1, v2, v3, v4, v5, v6, v7, v8) d := by
 obtain ⟨q0, q1, q2, q3, q4, q5, q6, q7, q8⟩ := Cm h
 have hp : G2 (q + 4) (v0, v1, v2, v3, v4, v5, v6, v7, v8) = some true := by rw [C3, h]
 have h58 := G4 (q + 4) (v0, v1, v2, v3, v4, v5, v6, v7, v8) (show v8.length ≤ 1048576 by omega)
 have h39 := L6 (q + 4) (v0, v1, v2, v3, v4, v5, v6, v7, v8) (show v8.length ≤ 1048576 by omega)
 have sg := fun (a b : Int) (ha : 3 ≤ a ∧ a ≤ 6) (hb2 : 0 ≤ b ∧ b ≤ 65535) => Xst (Xth q h hb hk hs.at1 ha hb2)
 have ig := fun (a b : Int) (ha : 3 ≤ a ∧ a ≤ 6) (hb2 : 0 ≤ b ∧ b ≤ 65535) => Xfu (Xfd q h hb hk hs.at1 ha hb2)
 unfold Xbm Wu Wb Rs; (try dsimp only)
 rw [hs.st, hp]
 by_cases c1 : v1 = s.1
 ·have b1 : (v1 == s.1) = true := beq_iff_eq.2 c1
  exact ⟨(1, 0, [(v0, v1, v2, v3, v4, v5, v6, v7, v8)]), (bs rfl).trans ((cf rfl).trans ((bs rfl).trans ((cf rfl).trans ((ct b1).trans ((bs h39).trans rfl))))), (ct b1).trans ((bs h58).trans rfl), .inr (.inl ⟨rfl, rfl⟩)⟩
 have b1 : (v1 == s.1) = false := beq_eq_false_iff_ne.2 c1
 by_cases c2 : v3 < 2
 ·have b2 : decide (v3 < 2) = true := decide_eq_true c2
  exact ⟨_, (bs rfl).trans ((cf rfl).trans ((bs rfl).trans ((cf rfl).trans ((cf b1).trans ((ct b2).trans ((bs (sg 4 0 (by omega) (by omega))).trans rfl)))))), (cf b1).trans ((ct b2).trans ((bs (ig 4 0 (by omega) (by omega))).trans rfl)), Ia _ _ _ _ _ _ _ _ _ _ _ _ _⟩
 have b2 : decide (v3 < 2) = false := decide_eq_false c2
 have fs := Xtw (q + 4) s.2 v1 hs.len hs.rs hs.ok (B3 q1) hk
 have fi := Xbk (q + 4) s.2 v1 hs.len hs.ok
 have fm := L4 v1 17 (l := s.2.reverse)
 generalize Rt.Bq v1 17 s.2.reverse = r at fs fi fm
 obtain ⟨r, fd⟩ := r
 cases fd with
 | false =>
  exact ⟨_, (bs rfl).trans ((cf rfl).trans ((bs rfl).trans ((cf rfl).trans ((cf b1).trans ((cf b2).trans ((bs fs).trans ((ct rfl).trans ((bs (sg 3 0 (by omega) (by omega))).trans rfl)))))))), (cf b1).trans ((cf b2).trans ((bs fi).trans ((ct rfl).trans ((bs (ig 3 0 (by omega) (by omega))).trans rfl)))), Ia _ _ _ _ _ _ _ _ _ _ _ _ _⟩
 | true =>
  have hm := List.mem_reverse.1 (fm rfl)
  obtain ⟨r0, r1, gw, mtu⟩ := r
  have hmtu : @LE.le Int _ 1 mtu ∧ @LE.le Int _ mtu 48 := Be (J4 (hs.ok _ hm)).2.2.2
  obtain ⟨N, hN⟩ : ∃ N : Nat, mtu = (N : Int) := ⟨Int.toNat mtu, (Int.toNat_of_nonneg (by omega)).symm⟩
  subst hN
  have hN : 1 ≤ N ∧ N ≤ 48 := by omega
  have w3 : IntKind.i64.wrap (v3 - 1) = v3 - 1 := i64_in _ (by omega)
  have hok' : Kc (v0, v1, v2, v3 - 1, v4, v5, v6, v7, v8) = true := N8 q0 q1 q2 (by omega) q4 q5 q6 q7 q8
  have sj : (v7 = true → v8.length ≤ N) → ∃ d : den Pa, Lz (q + 4) s (v0, v1, v2, v3, v4, v5, v6, v7, v8) some ((r0, r1, gw, (N : Int)), true) = some d ∧ (X3 (q + 4) (v0, v1, v2, v3, v4, v5, v6, v7, v8) (N : Int)).bind (fun b6 => cond (!b6.2) (some ((0 : Int), (0 : Int), ([] : Cl))) (D6 (q + 4) s (v0, v1, v2, v3, v4, v5, v6, v7, v8) (q + 4) (b6.1.length : Int) 0 (r0, r1, gw, (N : Int)) b6.1)) = some d ∧ Xsn (v0, v1, v2, v3, v4, v5, v6, v7, v8) d := fun h7 => by
   have e1 := Xpl (q + 4) hok' hN h7 hk
   have e2 := Xeu (q + 4) h hN h7
   unfold Lz; (try dsimp only)
   unfold Ks at e1 e2
   by_cases ha : C8 N 50 v5 v8 > 255
   ·rw [decide_eq_true ha] at e1 e2
    refine ⟨(0, 0, []), (bs h39).trans ?_, (bs e2).trans rfl, .inl ⟨rfl, rfl⟩⟩
    show (Za (q + 4) (v0, v1, v2, IntKind.i64.wrap (v3 - 1), v4, v5, v6, v7, v8) (N : Int)).bind _ = _
    rw [w3]
    exact (bs e1).trans rfl
   ·rw [decide_eq_false ha] at e1 e2
    refine ⟨(2, gw, Cn (Hu v0 v1 v2 (v3 - 1) v4 v7) N v6 50 v5 v8), (bs h39).trans ?_, (bs e2).trans ?_, Xln h hb hN h7 c2 gw ha⟩
    ·show (Za (q + 4) (v0, v1, v2, IntKind.i64.wrap (v3 - 1), v4, v5, v6, v7, v8) (N : Int)).bind _ = _
     rw [w3]
     exact (bs e1).trans rfl
    ·have hl := Iz (Hu v0 v1 v2 v3 v4 v7) N v6 50 v5 v8
     have := Xc4 (q + 4) s (v0, v1, v2, v3, v4, v5, v6, v7, v8) (r0, r1, gw, (N : Int)) (q + 4) [] (Cn (Hu v0 v1 v2 v3 v4 v7) N v6 50 v5 v8) (by simp; omega) (by omega)
     simp only [List.nil_append, List.length_nil, Nat.zero_add] at this
     rw [Qt q3] at this
     exact (cf rfl).trans this
  by_cases c3 : (v8.length : Int) > (N : Int)
  ·have b3 : decide ((v8.length : Int) > (N : Int)) = true := decide_eq_true c3
   cases v7 with
   | true =>
    exact ⟨_, (bs rfl).trans ((cf rfl).trans ((bs rfl).trans ((cf rfl).trans ((cf b1).trans ((cf b2).trans ((bs fs).trans ((cf rfl).trans ((ct b3).trans ((ct rfl).trans ((bs (sg 6 (N : Int) (by omega) (by omega))).trans rfl)))))))))), (cf b1).trans ((cf b2).trans ((bs fi).trans ((cf rfl).trans ((ct b3).trans ((ct rfl).trans ((bs (ig 6 (N : Int) (by omega) (by omega))).trans rfl)))))), Ia _ _ _ _ _ _ _ _ _ _ _ _ _⟩
   | false =>
    obtain ⟨d, e1, e2, e3⟩ := sj (fun e => by cases e)
    exact ⟨d, (bs rfl).trans ((cf rfl).trans ((bs rfl).trans ((cf rfl).trans ((cf b1).trans ((cf b2).trans ((bs fs).trans ((cf rfl).trans ((ct b3).trans ((cf rfl).trans e1))))))))), (cf b1).trans ((cf b2).trans ((bs fi).trans ((cf rfl).trans ((ct b3).trans ((cf rfl).trans e2))))), e3⟩
  ·have b3 : decide ((v8.length : Int) > (N : Int)) = false := decide_eq_false c3
   obtain ⟨d, e1, e2, e3⟩ := sj (fun e => by omega)
   exact ⟨d, (bs rfl).trans ((cf rfl).trans ((bs rfl).trans ((cf rfl).trans ((cf b1).trans ((cf b2).trans ((bs fs).trans ((cf rfl).trans ((cf b3).trans e1)))))))), (cf b1).trans ((cf b2).trans ((bs fi).trans ((cf rfl).trans ((cf b3).trans e2)))), e3⟩
end Go.Proofs.YtdmepjjepogddaaGreat.Gn
end

section
namespace Go.Proofs.YtdmepjjepogddaaGreat.Gn
open Go.Rf Go.IntWalk
set_option linter.unusedVariables false
set_option linter.unusedSimpArgs false
abbrev Su : Type := List (den (.pair (.int .i64) Ac))
def nM (d1 : Int) (l : Cl) (m : den Cy) : den Cy := cond (d1 == 1) (m.1 ++ l, m.2) (cond (d1 == 3) (m.1, m.2.1 ++ l, m.2.2) m)
def nA (d1 t : Int) (n : Nat) (A : Bd) : Bd := cond (d1 == 1) A (cond (d1 == 3) A (cond (decide (t ≥ 0)) (A ++ List.replicate n t) A))
def nR (d1 t : Int) (l : Cl) (R : Cl) : Cl := cond (d1 == 1) R (cond (d1 == 3) R (cond (decide (t ≥ 0)) (R ++ l) R))
theorem Xta (d1 : Int) (a : den Ac) (l : Cl) (m : den Cy) : nM d1 l (nM d1 [a] m) = nM d1 (a :: l) m := by
 unfold nM
 cases d1 == 1 <;> cases d1 == 3 <;> simp
theorem Xtv (d1 t : Int) (n : Nat) (A : Bd) : nA d1 t n (nA d1 t 1 A) = nA d1 t (n + 1) A := by
 unfold nA
 cases d1 == 1 <;> cases d1 == 3 <;> cases decide (t ≥ 0) <;> simp [List.replicate_succ]
theorem Xsc (d1 t : Int) (a : den Ac) (l : Cl) (R : Cl) : nR d1 t l (nR d1 t [a] R) = nR d1 t (a :: l) R := by
 unfold nR
 cases d1 == 1 <;> cases d1 == 3 <;> cases decide (t ≥ 0) <;> simp
theorem Xxw (d1 : Int) (l : Cl) (m : den Cy) : (nM d1 l m).1.length ≤ m.1.length + l.length ∧ (nM d1 l m).2.1.length ≤ m.2.1.length + l.length := by
 unfold nM
 cases d1 == 1 <;> cases d1 == 3 <;> simp
theorem X1p (d1 t : Int) (n : Nat) (A : Bd) : (nA d1 t n A).length ≤ A.length + n := by
 unfold nA
 cases d1 == 1 <;> cases d1 == 3 <;> cases decide (t ≥ 0) <;> simp
theorem Xyc (d1 t : Int) (l : Cl) (R : Cl) : (nR d1 t l R).length ≤ R.length + l.length := by
 unfold nR
 cases d1 == 1 <;> cases d1 == 3 <;> cases decide (t ≥ 0) <;> simp
theorem Tn (k : Nat) (v : Fh) (w : Int) (p : den Ac) (x t : Int) (d : den Pa) (hl : d.2.2.length ≤ 100) : ∀ (n j : Nat) (m : den Cy) (A : Bd) (R : Cl), j ≤ d.2.2.length → d.2.2.length - j < n → m.1.length + (d.2.2.length - j) ≤ 100000 → m.2.1.length + (d.2.2.length - j) ≤ 100000 → A.length + (d.2.2.length - j) ≤ 100000 → R.length + (d.2.2.length - j) ≤ 100000 →
  M7 k v w p n x t (j : Int) m d A R = some (x, t, (d.2.2.length : Int), d, nM d.1 (d.2.2.drop j) m, nA d.1 t (d.2.2.drop j).length A, nR d.1 t (d.2.2.drop j) R)
 | 0, j, m, A, R, _, h, _, _, _, _ => by omega
 | n + 1, j, m, A, R, hj, h, h1, h2, h3, h4 => by
  rw [M7]
  unfold L5; (try dsimp only [A1, Bh])
  rcases Nat.lt_or_ge j d.2.2.length with hlt | hge
  ·have d1 : decide ((j : Int) < ((d.2.2.length : Nat) : Int)) = true := decide_eq_true (by omega)
   have d0 : decide ((0 : Int) ≤ ((j : Nat) : Int)) = true := decide_eq_true (by omega)
   rw [As (t := Ac) d.2.2 j hlt, Kr j (by omega), List.drop_eq_getElem_cons hlt]
   have l1 := Xxw d.1 [d.2.2[j]] m
   have l2 := X1p d.1 t 1 A
   have l3 := Xyc d.1 t [d.2.2[j]] R
   rw [List.length_singleton] at l1 l3
   have ih := Tn k v w p x t d hl n (j + 1) (nM d.1 [d.2.2[j]] m) (nA d.1 t 1 A) (nR d.1 t [d.2.2[j]] R) hlt (by omega) (by omega) (by omega) (by omega) (by omega)
   rw [Xta, Xtv, Xsc] at ih
   refine Eq.trans ?_ ih
   refine (ct d1).trans ?_
   unfold nM nA nR
   have c1 : ((d.1 : Int) == 1) = true ∨ ((d.1 : Int) == 1) = false := by cases ((d.1 : Int) == 1) <;> simp
   rcases c1 with c1 | c1
   ·refine (ct c1).trans ((ct d0).trans ((ct d1).trans ((ct (decide_eq_true (by (try simp only [List.length_singleton]); omega))).trans ?_)))
    rw [c1]
    rfl
   ·have c3 : ((d.1 : Int) == 3) = true ∨ ((d.1 : Int) == 3) = false := by cases ((d.1 : Int) == 3) <;> simp
    rw [c1]
    rcases c3 with c3 | c3
    ·refine (cf rfl).trans ((ct c3).trans ((ct d0).trans ((ct d1).trans ((ct (decide_eq_true (by (try simp only [List.length_singleton]); omega))).trans ?_))))
     rw [c3]
     rfl
    ·rw [c3]
     by_cases ht : t ≥ 0
     ·refine (cf rfl).trans ((cf rfl).trans ((ct (decide_eq_true ht)).trans ((ct (decide_eq_true (by (try simp only [List.length_singleton]); omega))).trans ((ct d0).trans ((ct d1).trans ((ct (decide_eq_true (by (try simp only [List.length_singleton]); omega))).trans ?_))))))
      rw [decide_eq_true ht]
      rfl
     ·refine (cf rfl).trans ((cf rfl).trans ((cf (decide_eq_false ht)).trans ?_))
      rw [decide_eq_false ht]
      rfl
  ·have : j = d.2.2.length := by omega
   subst this
   rw [List.drop_length]
   refine (cf (decide_eq_false (by omega))).trans ?_
   unfold nM nA nR
   cases (d.1 : Int) == 1 <;> cases (d.1 : Int) == 3 <;> cases decide (t ≥ 0) <;> simp
theorem Ku (k : Nat) (v : Fh) (w : Int) (p : den Ac) (t : Int) (m : den Cy) (ps : Cl) (hl : ps.length ≤ 100) : ∀ (n j : Nat) (Q : Su), j ≤ ps.length → ps.length - j < n → Q.length + (ps.length - j) ≤ 100000 →
  Jm k v w p n t (ps.length : Int) (j : Int) m ps Q = some (t, (ps.length : Int), (ps.length : Int), m, ps, Q ++ (ps.drop j).map fun r => (t, r))
 | 0, j, Q, _, h, _ => by omega
 | n + 1, j, Q, hj, h, h1 => by
  rw [Jm]
  unfold Jb; (try dsimp only [A1, Bh])
  rcases Nat.lt_or_ge j ps.length with hlt | hge
  ·have d1 : decide ((j : Int) < ((ps.length : Nat) : Int)) = true := decide_eq_true (by omega)
   have d0 : decide ((0 : Int) ≤ ((j : Nat) : Int)) = true := decide_eq_true (by omega)
   rw [As (t := Ac) ps j hlt, Kr j (by omega), List.drop_eq_getElem_cons hlt]
   refine (ct d1).trans ((ct d0).trans ((ct d1).trans ((ct (decide_eq_true (by rw [List.length_singleton]; omega))).trans ?_)))
   rw [Ku k v w p t m ps hl n (j + 1) _ hlt (by omega) (by rw [List.length_append, List.length_singleton]; omega), List.map_cons, List.append_assoc, List.singleton_append]
  ·have : j = ps.length := by omega
   subst this
   rw [List.drop_length]
   refine (cf (decide_eq_false (by omega))).trans ?_
   simp
theorem Xom (k : Nat) (v : Cl) (hv : v.length ≤ 100000) (hs : ∀ r ∈ v, r.2.2.2.2.2.2.2.2.length ≤ 1048576) : ∀ (n j : Nat) (m : Cl), j ≤ v.length → v.length - j < n → m.length + (v.length - j) ≤ 100000 → J1 k v n (j : Int) m = some (m ++ v.drop j)
 | 0, j, m, _, h, _ => by omega
 | n + 1, j, m, hj, h, hm => by
  rw [J1]
  unfold J0; (try dsimp only [A1, Bh])
  rcases Nat.lt_or_ge j v.length with hlt | hge
  ·have d1 : decide ((j : Int) < ((v.length : Nat) : Int)) = true := decide_eq_true (by omega)
   have d0 : decide ((0 : Int) ≤ ((j : Nat) : Int)) = true := decide_eq_true (by omega)
   rw [As v j hlt, Kr j (by omega), List.drop_eq_getElem_cons hlt]
   refine (ct d1).trans ((ct d0).trans ((ct d1).trans ((bs (G4 k v[j] (hs _ (List.getElem_mem hlt)))).trans ((ct (decide_eq_true (by rw [List.length_singleton]; omega))).trans ?_))))
   rw [Xom k v hv hs n (j + 1) _ hlt (by omega) (by rw [List.length_append, List.length_singleton]; omega), List.append_assoc, List.singleton_append]
  ·have : j = v.length := by omega
   subst this
   rw [List.drop_length, List.append_nil]
   exact (cf (decide_eq_false (by omega))).trans ((bs (Xd2 k m)).trans rfl)
theorem G9 (k : Nat) (v : Cl) (hv : v.length ≤ 100000) (hs : ∀ r ∈ v, r.2.2.2.2.2.2.2.2.length ≤ 1048576) (hk : 1048576 < k) : Pc k v = some v := by
 have := Xom k v hv hs k 0 [] (Nat.zero_le _) (by omega) (by simpa using hv)
 unfold Pc V3; (try dsimp only)
 simpa using this
theorem Xzc {a b : Int} (ha : 1 ≤ a ∧ a ≤ 48) (hb : 0 ≤ b ∧ b ≤ 255) : 1 ≤ a * (b + 1) ∧ a * (b + 1) ≤ 12288 := by
 have h1 := Int.mul_pos (show 0 < a by omega) (show 0 < b + 1 by omega)
 have h2 := Int.mul_le_mul ha.2 (show b + 1 ≤ 256 by omega) (show 0 ≤ b + 1 by omega) (show (0 : Int) ≤ 48 by omega)
 omega
theorem Xue {r : den Ac} (h : Kc r = true) : 1 ≤ wt r ∧ wt r ≤ 12288 := by
 obtain ⟨v0, v1, v2, v3, v4, v5, v6, v7, v8⟩ := r
 obtain ⟨_, _, _, h3, _, _, h8, _⟩ := Cm h
 exact Xzc ⟨Xo7 _, by show wl v8.length ≤ 48; unfold wl; split <;> omega⟩ h3
theorem Xlo {r : den Ac} (h : Kc r = true) : 1 ≤ wt r := (Xue h).1
theorem X4a {r : den Ac} (h : Kc r = true) : wt r ≤ 12288 := (Xue h).2
theorem Yu {α : Type} (s : α → Int) : ∀ a b : List α, Hr s (a ++ b) = Hr s a + Hr s b
 | [], b => by simp [Hr]
 | x :: a, b => by simp only [List.cons_append, Hr, Yu s a b]; omega
theorem Pr : ∀ l : Cl, (∀ r ∈ l, Kc r = true) → (l.length : Int) ≤ Hr wt l
 | [], _ => by simp [Hr]
 | r :: l, h => by
  have h1 := Xlo (h r (by simp))
  have h2 := Pr l (fun x hx => h x (by simp [hx]))
  simp only [Hr, List.length_cons]
  omega
def TOk (t : den Cy) : Prop := t.1.length ≤ 100000 ∧ t.2.1.length ≤ 100000 ∧ (∀ r ∈ t.1, r.2.2.2.2.2.2.2.2.length ≤ 1048576) ∧ (∀ r ∈ t.2.1, r.2.2.2.2.2.2.2.2.length ≤ 1048576)
def stp (t : den Cy) : Int := t.2.2
theorem trav (q : Nat) (v : Fh) (w : Int) (p : den Ac) (hv : ∀ s ∈ v, StaOk (q + 4) s) (hvl : v.length ≤ 5) (hk : 1048576 < q + 4) : ∀ (c n n' x : Nat) (m : den Cy) (A : Bd) (R : Cl), A.length = R.length → x ≤ R.length → (∀ a ∈ A.drop x, @LE.le Int _ 0 a ∧ @LT.lt Int _ a (v.length : Int)) → (∀ r ∈ R.drop x, Kc r = true ∧ BOk r.2.2.2.2.2.2.2.2) →
  Hr wt (R.drop x) ≤ (c : Int) → c < n → c < n' → x + c ≤ 20000 → m.1.length + c ≤ 20000 → m.2.1.length + c ≤ 20000 → (∀ r ∈ m.1, r.2.2.2.2.2.2.2.2.length ≤ 1048576) → (∀ r ∈ m.2.1, r.2.2.2.2.2.2.2.2.length ≤ 1048576) → (0 ≤ stp m ∧ stp m + (c : Int) ≤ 20000) →
  ∃ t : den Cy, Du (q + 4) v w p n (x : Int) m A R = some t ∧ Bf (q + 4) v w p n' m (List.zip (A.drop x) (R.drop x)) = some t ∧ TOk t := by
 intro c
 induction c with
 | zero =>
  intro n n' x m A R hAR hx hA hR hs hn hn' hxc hm1 hm2 hl1 hl2 hst
  obtain ⟨n, rfl⟩ : ∃ i, n = i + 1 := ⟨n - 1, by omega⟩
  obtain ⟨n', rfl⟩ : ∃ i, n' = i + 1 := ⟨n' - 1, by omega⟩
  have hlen := Pr (R.drop x) (fun r hr => (hR r hr).1)
  have hdl : (R.drop x).length = R.length - x := List.length_drop
  have e : R.drop x = [] := List.length_eq_zero_iff.1 (by omega)
  rw [Du, Bf, e, List.zip_nil_right]
  refine ⟨m, (cf (decide_eq_false (by omega))).trans rfl, (cf (by rfl)).trans ((bs (G9 _ _ (by omega) hl1 hk)).trans ((bs (G9 _ _ (by omega) hl2 hk)).trans rfl)), by omega, by omega, hl1, hl2⟩
 | succ c ih =>
  intro n n' x m A R hAR hx hA hR hs hn hn' hxc hm1 hm2 hl1 hl2 hst
  obtain ⟨n, rfl⟩ : ∃ i, n = i + 1 := ⟨n - 1, by omega⟩
  obtain ⟨n', rfl⟩ : ∃ i, n' = i + 1 := ⟨n' - 1, by omega⟩
  have hlen := Pr (R.drop x) (fun r hr => (hR r hr).1)
  have hdl : (R.drop x).length = R.length - x := List.length_drop
  rcases Nat.eq_or_lt_of_le hx with hx0 | hxl
  ·have e : R.drop x = [] := List.length_eq_zero_iff.1 (by omega)
   rw [Du, Bf, e, List.zip_nil_right]
   exact ⟨m, (cf (decide_eq_false (by omega))).trans rfl, (cf (by rfl)).trans ((bs (G9 _ _ (by omega) hl1 hk)).trans ((bs (G9 _ _ (by omega) hl2 hk)).trans rfl)), by omega, by omega, hl1, hl2⟩
  ·have hxA : x < A.length := by omega
   have eR : R.drop x = R[x] :: R.drop (x + 1) := List.drop_eq_getElem_cons hxl
   have eA : A.drop x = A[x] :: A.drop (x + 1) := List.drop_eq_getElem_cons hxA
   have ha := hA A[x] (by rw [eA]; exact List.mem_cons_self ..)
   have hr := hR R[x] (by rw [eR]; exact List.mem_cons_self ..)
   have hA' : ∀ a ∈ A.drop (x + 1), @LE.le Int _ 0 a ∧ @LT.lt Int _ a (v.length : Int) := fun a h => hA a (by rw [eA]; exact List.mem_cons_of_mem _ h)
   have hR' : ∀ r ∈ R.drop (x + 1), Kc r = true ∧ BOk r.2.2.2.2.2.2.2.2 := fun r h => hR r (by rw [eR]; exact List.mem_cons_of_mem _ h)
   have hlen' := Pr (R.drop (x + 1)) (fun r hr => (hR' r hr).1)
   rw [eR] at hs
   simp only [Hr] at hs
   obtain ⟨a, hae⟩ : ∃ a : Int, a = A[x] := ⟨_, rfl⟩
   have hd1 : ((R.drop (x + 1)).length : Int) = (R.length : Int) - (x : Int) - 1 := by rw [List.length_drop]; omega
   have gA : Ap A (x : Int) = A[x] := As A x hxA
   have gR : Ap R (x : Int) = R[x] := As R x hxl
   rw [eA, eR, List.zip_cons_cons]
   rw [← hae] at ha gA ⊢
   generalize R[x] = r at hr hs gR ⊢
   obtain ⟨i, rfl⟩ : ∃ i : Nat, a = (i : Int) := ⟨a.toNat, by omega⟩
   have hi : i < v.length := by omega
   have ok := hv _ (List.getElem_mem hi)
   have hwr := Xlo hr.1
   obtain ⟨r0, r1, r2, r3, r4, r5, r6, r7, r8⟩ := r
   have hr8 := (Cm hr.1).2.2.2.2.2.2.1
   obtain ⟨d, f1, f2, good⟩ := fwd q ok hr.1 hr.2 hk
   have f3 := Xr4 (q + 4) v d.2.1 (by omega) hk
   have f4 := Uj (q + 4) v d.2.1 (by omega) hk
   have f5 := Yj d.2.1 v 0
   generalize fi d.2.1 v 0 = t at f3 f4 f5
   have d1 : decide ((x : Int) < ((R.length : Nat) : Int)) = true := decide_eq_true (by omega)
   have dA : decide ((x : Int) < ((A.length : Nat) : Int)) = true := decide_eq_true (by omega)
   have d0 : decide ((0 : Int) ≤ ((x : Nat) : Int)) = true := decide_eq_true (by omega)
   have i1 : decide ((i : Int) < ((v.length : Nat) : Int)) = true := decide_eq_true (by omega)
   have i0 : decide ((0 : Int) ≤ ((i : Nat) : Int)) = true := decide_eq_true (by omega)
   have hdl2 : d.2.2.length ≤ 50 := by
    rcases good with ⟨_, e⟩ | ⟨_, e⟩ | ⟨_, z, e, _⟩ | ⟨_, _, _, e⟩
    ·rw [e]; simp
    ·rw [e]; simp
    ·rw [e]; simp
    ·exact e
   have l2 := Tn (q + 4) v w p (x : Int) t d (by omega) (q + 4) 0 (m.1, m.2.1, m.2.2 + 1) A R (Nat.zero_le _) (by omega) (by show m.1.length + _ ≤ _; omega) (by show m.2.1.length + _ ≤ _; omega) (by omega) (by omega)
   rw [List.drop_zero] at l2
   have w1 : IntKind.i64.wrap (m.2.2 + 1) = m.2.2 + 1 := i64_in _ (show -9223372036854775808 ≤ stp m + 1 ∧ stp m + 1 ≤ 9223372036854775807 by omega)
   have SP : ∀ z, Du (q + 4) v w p n ((x + 1 : Nat) : Int) (nM d.1 d.2.2 (m.1, m.2.1, m.2.2 + 1)) (nA d.1 t d.2.2.length A) (nR d.1 t d.2.2 R) = some z → Du (q + 4) v w p (n + 1) (x : Int) m A R = some z := fun z hz => by
    rw [Du, gA, gR, As v i hi, w1]
    refine (ct d1).trans ((ct d0).trans ((ct dA).trans ((ct i0).trans ((ct i1).trans ((ct d0).trans ((ct d1).trans ((bs f1).trans ((bs f3).trans ((bs l2).trans ?_)))))))))
    show Du (q + 4) v w p n (IntKind.i64.wrap ((x : Int) + 1)) _ _ _ = _
    rw [Kr x (by omega)]
    exact hz
   generalize hZ : (List.zip (A.drop (x + 1)) (R.drop (x + 1)) : Su) = Z
   have hZl : Z.length ≤ 30000 := by rw [← hZ, List.length_zip]; omega
   have tl : ((((i : Int), r0, r1, r2, r3, r4, r5, r6, r7, r8) :: Z : Su).take (((((i : Int), r0, r1, r2, r3, r4, r5, r6, r7, r8) :: Z : Su).length : Int)).toNat).drop 1 = Z := by rw [Int.toNat_natCast, List.take_length]; rfl
   have z0 : decide (((((i : Int), r0, r1, r2, r3, r4, r5, r6, r7, r8) :: Z : Su).length : Int) > 0) = true := decide_eq_true (by rw [List.length_cons]; omega)
   have z1 : decide ((0 : Int) < ((((i : Int), r0, r1, r2, r3, r4, r5, r6, r7, r8) :: Z : Su).length : Int)) = true := decide_eq_true (by rw [List.length_cons]; omega)
   have z2 : (decide ((0 : Int) ≤ 1) && decide ((1 : Int) ≤ ((((i : Int), r0, r1, r2, r3, r4, r5, r6, r7, r8) :: Z : Su).length : Int))) = true := by rw [List.length_cons, decide_eq_true (by omega : (1 : Int) ≤ ((Z.length + 1 : Nat) : Int))]; rfl
   have g0 : Ap (t := .pair (.int .i64) Ac) (((i : Int), r0, r1, r2, r3, r4, r5, r6, r7, r8) :: Z) 0 = ((i : Int), r0, r1, r2, r3, r4, r5, r6, r7, r8) := rfl
   rw [Bf, g0, w1, tl]
   dsimp only
   rw [As v i hi]
   have m2 : 0 ≤ stp m + 1 ∧ stp m + 1 + (c : Int) ≤ 20000 := by omega
   have hs2 : Hr wt (R.drop (x + 1)) ≤ (c : Int) := by omega
   have stay : ∃ z : den Cy, Du (q + 4) v w p n ((x + 1 : Nat) : Int) (m.1, m.2.1, m.2.2 + 1) A R = some z ∧ Bf (q + 4) v w p n' (m.1, m.2.1, m.2.2 + 1) Z = some z ∧ TOk z := by
    rw [← hZ]
    exact ih n n' (x + 1) (m.1, m.2.1, m.2.2 + 1) A R hAR hxl hA' hR' hs2 (by omega) (by omega) (by omega) (by show m.1.length + _ ≤ _; omega) (by show m.2.1.length + _ ≤ _; omega) hl1 hl2 m2
   rcases good with ⟨k0, e⟩ | ⟨k1, e⟩ | ⟨k3, b, e, eb⟩ | ⟨k2, e1, e2, e3⟩
   ·obtain ⟨z, s1, s2, s3⟩ := stay
    rw [e] at SP
    have eM : nM d.1 [] (m.1, m.2.1, m.2.2 + 1) = (m.1, m.2.1, m.2.2 + 1) := by unfold nM; rw [k0]; rfl
    have eA2 : nA d.1 t ([] : Cl).length A = A := by unfold nA; rw [k0]; cases ht : decide (t ≥ 0) <;> simp
    have eR2 : nR d.1 t [] R = R := by unfold nR; rw [k0]; cases ht : decide (t ≥ 0) <;> simp
    rw [eM, eA2, eR2] at SP
    refine ⟨z, SP z s1, ?_, s3⟩
    refine (ct z0).trans ((ct z1).trans ((ct z2).trans ((ct i0).trans ((ct i1).trans ((bs f2).trans ?_)))))
    rw [k0]
    exact s2
   ·rw [e] at SP
    have eM : nM d.1 [(r0, r1, r2, r3, r4, r5, r6, r7, r8)] (m.1, m.2.1, m.2.2 + 1) = (m.1 ++ [(r0, r1, r2, r3, r4, r5, r6, r7, r8)], m.2.1, m.2.2 + 1) := by unfold nM; rw [k1]; rfl
    have eA2 : nA d.1 t ([(r0, r1, r2, r3, r4, r5, r6, r7, r8)] : Cl).length A = A := by unfold nA; rw [k1]; rfl
    have eR2 : nR d.1 t [(r0, r1, r2, r3, r4, r5, r6, r7, r8)] R = R := by unfold nR; rw [k1]; rfl
    rw [eM, eA2, eR2] at SP
    obtain ⟨z, s1, s2, s3⟩ := ih n n' (x + 1) (m.1 ++ [(r0, r1, r2, r3, r4, r5, r6, r7, r8)], m.2.1, m.2.2 + 1) A R hAR hxl hA' hR' hs2 (by omega) (by omega) (by omega) (by show (m.1 ++ _).length + _ ≤ _; rw [List.length_append, List.length_singleton]; omega) (by show m.2.1.length + _ ≤ _; omega)
     (fun y hy => (List.mem_append.1 hy).elim (hl1 y) (fun hy => by obtain rfl := List.mem_singleton.1 hy; show r8.length ≤ _; omega)) hl2 m2
    rw [hZ] at s2
    refine ⟨z, SP z s1, ?_, s3⟩
    refine (ct z0).trans ((ct z1).trans ((ct z2).trans ((ct i0).trans ((ct i1).trans ((bs f2).trans ?_)))))
    rw [k1, e]
    exact (ct rfl).trans ((ct (decide_eq_true (by rw [List.length_singleton]; omega))).trans s2)
   ·rw [e] at SP
    have eM : nM d.1 [b] (m.1, m.2.1, m.2.2 + 1) = (m.1, m.2.1 ++ [b], m.2.2 + 1) := by unfold nM; rw [k3]; rfl
    have eA2 : nA d.1 t ([b] : Cl).length A = A := by unfold nA; rw [k3]; rfl
    have eR2 : nR d.1 t [b] R = R := by unfold nR; rw [k3]; rfl
    rw [eM, eA2, eR2] at SP
    obtain ⟨z, s1, s2, s3⟩ := ih n n' (x + 1) (m.1, m.2.1 ++ [b], m.2.2 + 1) A R hAR hxl hA' hR' hs2 (by omega) (by omega) (by omega) (by show m.1.length + _ ≤ _; omega) (by show (m.2.1 ++ _).length + _ ≤ _; rw [List.length_append, List.length_singleton]; omega)
     hl1 (fun y hy => (List.mem_append.1 hy).elim (hl2 y) (fun hy => by obtain rfl := List.mem_singleton.1 hy; exact eb)) m2
    rw [hZ] at s2
    refine ⟨z, SP z s1, ?_, s3⟩
    refine (ct z0).trans ((ct z1).trans ((ct z2).trans ((ct i0).trans ((ct i1).trans ((bs f2).trans ?_)))))
    rw [k3, e]
    exact (cf rfl).trans ((ct rfl).trans ((ct (decide_eq_true (by rw [List.length_singleton]; omega))).trans s2))
   ·have eM : nM d.1 d.2.2 (m.1, m.2.1, m.2.2 + 1) = (m.1, m.2.1, m.2.2 + 1) := by unfold nM; rw [k2]; rfl
    by_cases ht : t ≥ 0
    ·have eA2 : nA d.1 t d.2.2.length A = A ++ List.replicate d.2.2.length t := by unfold nA; rw [k2, decide_eq_true ht]; rfl
     have eR2 : nR d.1 t d.2.2 R = R ++ d.2.2 := by unfold nR; rw [k2, decide_eq_true ht]; rfl
     rw [eM, eA2, eR2] at SP
     have dA2 : (A ++ List.replicate d.2.2.length t).drop (x + 1) = A.drop (x + 1) ++ List.replicate d.2.2.length t := List.drop_append_of_le_length (by omega)
     have dR2 : (R ++ d.2.2).drop (x + 1) = R.drop (x + 1) ++ d.2.2 := List.drop_append_of_le_length (by omega)
     have zz : (List.zip ((A ++ List.replicate d.2.2.length t).drop (x + 1)) ((R ++ d.2.2).drop (x + 1)) : Su) = Z ++ d.2.2.map fun r => (t, r) := by
      rw [dA2, dR2, List.zip_append (by rw [List.length_drop, List.length_drop]; omega), hZ]
      congr 1
      generalize d.2.2 = l
      induction l with
      | nil => rfl
      | cons y l ihl => rw [List.length_cons, List.replicate_succ, List.zip_cons_cons, List.map_cons, ihl]
     obtain ⟨z, s1, s2, s3⟩ := ih n n' (x + 1) (m.1, m.2.1, m.2.2 + 1) (A ++ List.replicate d.2.2.length t) (R ++ d.2.2) (by rw [List.length_append, List.length_append, List.length_replicate, hAR]) (by rw [List.length_append]; omega)
      (fun y hy => by
       rw [dA2] at hy
       rcases List.mem_append.1 hy with hy | hy
       ·exact hA' y hy
       ·rw [List.eq_of_mem_replicate hy]; show 0 ≤ t ∧ t < (v.length : Int); omega)
      (fun y hy => by
       rw [dR2] at hy
       exact (List.mem_append.1 hy).elim (hR' y) (e1 y))
      (by rw [dR2, Yu]; omega) (by omega) (by omega) (by omega) (by show m.1.length + _ ≤ _; omega) (by show m.2.1.length + _ ≤ _; omega) hl1 hl2 m2
     rw [zz] at s2
     have l3 := Ku (q + 4) v w p t (m.1, m.2.1, m.2.2 + 1) d.2.2 (by omega) (q + 4) 0 Z (Nat.zero_le _) (by omega) (by omega)
     rw [List.drop_zero] at l3
     refine ⟨z, SP z s1, ?_, s3⟩
     refine (ct z0).trans ((ct z1).trans ((ct z2).trans ((ct i0).trans ((ct i1).trans ((bs f2).trans ?_)))))
     rw [k2]
     exact (cf rfl).trans ((cf rfl).trans ((ct rfl).trans ((bs f4).trans ((ct (decide_eq_true ht)).trans ((bs l3).trans s2)))))
    ·have eA2 : nA d.1 t d.2.2.length A = A := by unfold nA; rw [k2, decide_eq_false ht]; rfl
     have eR2 : nR d.1 t d.2.2 R = R := by unfold nR; rw [k2, decide_eq_false ht]; rfl
     rw [eM, eA2, eR2] at SP
     obtain ⟨z, s1, s2, s3⟩ := stay
     refine ⟨z, SP z s1, ?_, s3⟩
     refine (ct z0).trans ((ct z1).trans ((ct z2).trans ((ct i0).trans ((ct i1).trans ((bs f2).trans ?_)))))
     rw [k2]
     exact (cf rfl).trans ((cf rfl).trans ((ct rfl).trans ((bs f4).trans ((cf (decide_eq_false ht)).trans s2))))
end Go.Proofs.YtdmepjjepogddaaGreat.Gn
end

section
namespace Go.Proofs.YtdmepjjepogddaaGreat.Gn
open Go.Rf Go.IntWalk
set_option linter.unusedVariables false
set_option linter.unusedSimpArgs false
def Ch (g : Int → Bool → A0 → den Ac) : Int → Cl → A0 → Bool → Prop
 | _, [], c, f => c = [] ∧ f = true
 | x, p :: l, c, f => ∃ m d c', p = g x m d ∧ c = d ++ c' ∧ ((m = true ∧ d ≠ [] ∧ Ch g (x + (d.length : Int)) l c' f) ∨ (m = false ∧ l = [] ∧ c' = [] ∧ f = false))
theorem Ij (g : Int → Bool → A0 → den Ac) : ∀ {l : Cl} {x : Int} {c : A0} {l' : Cl} {c' : A0} {f : Bool}, Ch g x l c true → Ch g (x + (c.length : Int)) l' c' f → Ch g x (l ++ l') (c ++ c') f
 | [], x, c, l', c', f, h, h' => by
  obtain ⟨rfl, _⟩ := h
  simpa using h'
 | p :: l, x, c, l', c', f, h, h' => by
  obtain ⟨m, d, c2, rfl, rfl, h | h⟩ := h
  ·refine ⟨m, d, c2 ++ c', rfl, by rw [List.append_assoc], .inl ⟨h.1, h.2.1, Ij g h.2.2 ?_⟩⟩
   rw [List.length_append] at h'
   rw [show x + (d.length : Int) + (c2.length : Int) = x + ((d.length + c2.length : Nat) : Int) by omega]
   exact h'
  ·exact absurd h.2.2.2 (by decide)
theorem H5 (g : Int → Bool → A0 → den Ac) {x : Int} {m : Bool} {d : A0} (h : m = true → d ≠ []) : Ch g x [g x m d] d m := by
 refine ⟨m, d, [], rfl, by simp, ?_⟩
 cases m with
 | true => exact .inl ⟨rfl, h rfl, rfl, rfl⟩
 | false => exact .inr ⟨rfl, rfl, rfl, rfl⟩
theorem Xeb (g : Int → Bool → A0 → den Ac) {N : Nat} (hN : 1 ≤ N) (f : Bool) : ∀ (n : Nat) (a : Int) (d : A0), d.length < n → (f = true → d ≠ []) → Ch g a (Cn g N f n a d) d f
 | 0, _, _, h, _ => by omega
 | n + 1, a, d, h, hf => by
  rw [Cn]
  by_cases hl : d.length ≤ N
  ·rw [if_pos hl]
   exact H5 g hf
  ·rw [if_neg hl]
   have ht : (d.take N).length = N := by rw [List.length_take]; omega
   have hd : (d.drop N).length = d.length - N := List.length_drop
   refine ⟨true, d.take N, d.drop N, rfl, (List.take_append_drop N d).symm, .inl ⟨rfl, fun e => by rw [e] at ht; simp at ht; omega, ?_⟩⟩
   rw [ht]
   exact Xeb g hN f n _ _ (by omega) (fun _ e => by rw [e] at hd; simp at hd; omega)
theorem E3 (g : Int → Bool → A0 → den Ac) : ∀ {l : Cl} {x : Int} {c : A0} {f : Bool}, Ch g x l c f → l.length ≤ c.length + 1
 | [], _, _, _, _ => Nat.zero_le _
 | p :: l, x, c, f, h => by
  obtain ⟨m, d, c2, rfl, rfl, h | h⟩ := h
  ·have := E3 g h.2.2
   have := List.length_pos_iff.2 h.2.1
   rw [List.length_append, List.length_cons]
   omega
  ·rw [h.2.1]; simp
theorem U3 (g : Int → Bool → A0 → den Ac) : ∀ {l : Cl} {x : Int} {c : A0} {f : Bool} {p : den Ac}, Ch g x l c f → p ∈ l → ∃ x' m d, p = g x' m d ∧ x ≤ x' ∧ x' + (d.length : Int) ≤ x + (c.length : Int) ∧ (m = true → d ≠ []) ∧ ∀ b ∈ d, b ∈ c
 | [], _, _, _, _, _, h => by cases h
 | p :: l, x, c, f, r, h, hr => by
  obtain ⟨m, d, c2, rfl, rfl, h | h⟩ := h
  ·rcases List.mem_cons.1 hr with rfl | hr
   ·exact ⟨x, m, d, rfl, Int.le_refl _, by rw [List.length_append]; omega, fun _ => h.2.1, fun b hb => List.mem_append_left _ hb⟩
   ·obtain ⟨x', m', d', e1, e2, e3, e4, e5⟩ := U3 g h.2.2 hr
    exact ⟨x', m', d', e1, by omega, by rw [List.length_append]; omega, e4, fun b hb => List.mem_append_right _ (e5 b hb)⟩
  ·rw [h.2.1] at hr
   obtain rfl := List.mem_singleton.1 hr
   exact ⟨x, m, d, rfl, Int.le_refl _, by rw [List.length_append]; omega, (fun e => by rw [h.1] at e; cases e), fun b hb => List.mem_append_left _ hb⟩
theorem fwdV (q : Nat) {s : den sta} (hs : StaOk (q + 4) s) {v0 v1 v2 v3 v4 v5 : Int} {v6 : Bool} {v8 : A0} (h : Kc (v0, v1, v2, v3, v4, v5, v6, false, v8) = true) (hb : BOk v8) (hk : 1048576 < q + 4) (ha : v5 + (v8.length : Int) ≤ 255) :
    ∃ d : den Pa, Wb (q + 4) s (v0, v1, v2, v3, v4, v5, v6, false, v8) = some d ∧
      ((v1 = s.1 ∧ d = (1, 0, [(v0, v1, v2, v3, v4, v5, v6, false, v8)])) ∨
       (v1 ≠ s.1 ∧ (v3 < 2 ∨ (Rt.Bq v1 17 s.2.reverse).2 = false) ∧ (@Eq Int d.1 0 ∨ @Eq Int d.1 3)) ∨
       (v1 ≠ s.1 ∧ ¬ v3 < 2 ∧ (Rt.Bq v1 17 s.2.reverse).2 = true ∧ ∃ N : Nat, (1 ≤ N ∧ N ≤ 48) ∧ @Eq Int (Rt.Bq v1 17 s.2.reverse).1.2.2.2 (N : Int) ∧ d = (2, (Rt.Bq v1 17 s.2.reverse).1.2.2.1, Cn (Hu v0 v1 v2 (v3 - 1) v4 false) N v6 50 v5 v8))) := by
  obtain ⟨q0, q1, q2, q3, q4, q5, q6, q7, q8⟩ := Cm h
  have h58 := G4 (q + 4) (v0, v1, v2, v3, v4, v5, v6, false, v8) (show v8.length ≤ 1048576 by omega)
  have ig := fun (a b : Int) (ha : 3 ≤ a ∧ a ≤ 6) (hb2 : 0 ≤ b ∧ b ≤ 65535) => Xfu (Xfd q h hb hk hs.at1 ha hb2)
  have gk : ∀ b : den Ac × Bool, @Eq Int (H9 b).1 0 ∨ @Eq Int (H9 b).1 3 := fun b => by
    unfold H9
    cases b.2 with
    | true => exact .inr rfl
    | false => exact .inl rfl
  unfold Wb Rs; (try dsimp only)
  by_cases c1 : v1 = s.1
  · have b1 : (v1 == s.1) = true := beq_iff_eq.2 c1
    exact ⟨_, (ct b1).trans ((bs h58).trans rfl), .inl ⟨c1, rfl⟩⟩
  have b1 : (v1 == s.1) = false := beq_eq_false_iff_ne.2 c1
  by_cases c2 : v3 < 2
  · exact ⟨_, (cf b1).trans ((ct (decide_eq_true c2)).trans ((bs (ig 4 0 (by omega) (by omega))).trans rfl)), .inr (.inl ⟨c1, .inl c2, gk _⟩)⟩
  have b2 : decide (v3 < 2) = false := decide_eq_false c2
  have fi := Xbk (q + 4) s.2 v1 hs.len hs.ok
  have fm := L4 v1 17 (l := s.2.reverse)
  generalize Rt.Bq v1 17 s.2.reverse = r at fi fm ⊢
  obtain ⟨r, fd⟩ := r
  cases fd with
  | false => exact ⟨_, (cf b1).trans ((cf b2).trans ((bs fi).trans ((ct rfl).trans ((bs (ig 3 0 (by omega) (by omega))).trans rfl)))), .inr (.inl ⟨c1, .inr rfl, gk _⟩)⟩
  | true =>
    have hm := List.mem_reverse.1 (fm rfl)
    obtain ⟨r0, r1, gw, mtu⟩ := r
    have hmtu : @LE.le Int _ 1 mtu ∧ @LE.le Int _ mtu 48 := Be (J4 (hs.ok _ hm)).2.2.2
    obtain ⟨N, hN⟩ : ∃ N : Nat, mtu = (N : Int) := ⟨Int.toNat mtu, (Int.toNat_of_nonneg (by omega)).symm⟩
    subst hN
    have hN : 1 ≤ N ∧ N ≤ 48 := by omega
    have e2 := Xeu (q + 4) h hN (fun e => by cases e)
    have hla := X4 N 50 v5 v8
    unfold Ks at e2
    rw [decide_eq_false (by omega : ¬ C8 N 50 v5 v8 > 255)] at e2
    have hl := Iz (Hu v0 v1 v2 v3 v4 false) N v6 50 v5 v8
    have := Xc4 (q + 4) s (v0, v1, v2, v3, v4, v5, v6, false, v8) (r0, r1, gw, (N : Int)) (q + 4) [] (Cn (Hu v0 v1 v2 v3 v4 false) N v6 50 v5 v8) (by simp; omega) (by omega)
    simp only [List.nil_append, List.length_nil, Nat.zero_add] at this
    rw [Qt q3] at this
    refine ⟨(2, gw, Cn (Hu v0 v1 v2 (v3 - 1) v4 false) N v6 50 v5 v8), ?_, .inr (.inr ⟨c1, c2, rfl, N, hN, rfl, rfl⟩)⟩
    by_cases c3 : (v8.length : Int) > (N : Int)
    · exact (cf b1).trans ((cf b2).trans ((bs fi).trans ((cf rfl).trans ((ct (decide_eq_true c3)).trans ((cf rfl).trans ((bs e2).trans ((cf rfl).trans this)))))))
    · exact (cf b1).trans ((cf b2).trans ((bs fi).trans ((cf rfl).trans ((cf (decide_eq_false c3)).trans ((bs e2).trans ((cf rfl).trans this))))))
def Dv (v : Fh) (s : den sta) (to h : Int) : Option (Int × Nat) :=
 cond (decide (h < 2)) none (cond (Rt.Bq to 17 s.2.reverse).2 (cond (decide (fi (Rt.Bq to 17 s.2.reverse).1.2.2.1 v 0 ≥ 0)) (some (fi (Rt.Bq to 17 s.2.reverse).1.2.2.1 v 0, Int.toNat (Rt.Bq to 17 s.2.reverse).1.2.2.2)) none) none)
theorem Mb {α : Type} {c : Bool} {x : Option α} {t : α} (h : cond c x none = some t) : c = true ∧ x = some t := by
 cases c with
 | true => exact ⟨rfl, h⟩
 | false => cases h
theorem X2z (q : Nat) {v : Fh} (w : Int) (p : den Ac) (hv : ∀ s ∈ v, StaOk (q + 4) s) (hvl : v.length ≤ 5) (hk : 1048576 < q + 4) {n a : Nat} {s : den sta} (hs : v[a]? = some s) {m : den Cy} {v0 v1 v2 v3 v4 v5 : Int} {v6 : Bool} {v8 : A0}
    (h : Kc (v0, v1, v2, v3, v4, v5, v6, false, v8) = true) (hb : BOk v8) (ha : v5 + (v8.length : Int) ≤ 255) {Z : Su} (hZ : Z.length ≤ 1000) (hm : m.1.length ≤ 1000) {t : den Cy}
    (ht : Bf (q + 4) v w p (n + 1) m (((a : Int), v0, v1, v2, v3, v4, v5, v6, false, v8) :: Z) = some t) :
    ∃ m' : den Cy, ∃ Q' : Su, Bf (q + 4) v w p n m' Q' = some t ∧
      ((v1 = s.1 ∧ m'.1 = m.1 ++ [(v0, v1, v2, v3, v4, v5, v6, false, v8)] ∧ Q' = Z) ∨
       (v1 ≠ s.1 ∧ m'.1 = m.1 ∧ ((Dv v s v1 v3 = none ∧ Q' = Z) ∨ ∃ b : Nat, ∃ N : Nat, Dv v s v1 v3 = some ((b : Int), N) ∧ b < v.length ∧ 1 ≤ N ∧ 2 ≤ v3 ∧ Q' = Z ++ (Cn (Hu v0 v1 v2 (v3 - 1) v4 false) N v6 50 v5 v8).map fun r => ((b : Int), r)))) := by
  obtain ⟨hi, hse⟩ := List.getElem?_eq_some_iff.1 hs
  have ok := hv _ (List.getElem_mem hi)
  rw [hse] at ok
  obtain ⟨d, f2, hd⟩ := fwdV q ok h hb hk ha
  have i1 : decide ((a : Int) < ((v.length : Nat) : Int)) = true := decide_eq_true (by omega)
  have i0 : decide ((0 : Int) ≤ ((a : Nat) : Int)) = true := decide_eq_true (by omega)
  have tl : ((((a : Int), v0, v1, v2, v3, v4, v5, v6, false, v8) :: Z : Su).take (((((a : Int), v0, v1, v2, v3, v4, v5, v6, false, v8) :: Z : Su).length : Int)).toNat).drop 1 = Z := by rw [Int.toNat_natCast, List.take_length]; rfl
  have z0 : decide (((((a : Int), v0, v1, v2, v3, v4, v5, v6, false, v8) :: Z : Su).length : Int) > 0) = true := decide_eq_true (by rw [List.length_cons]; omega)
  have z1 : decide ((0 : Int) < ((((a : Int), v0, v1, v2, v3, v4, v5, v6, false, v8) :: Z : Su).length : Int)) = true := decide_eq_true (by rw [List.length_cons]; omega)
  have z2 : (decide ((0 : Int) ≤ 1) && decide ((1 : Int) ≤ ((((a : Int), v0, v1, v2, v3, v4, v5, v6, false, v8) :: Z : Su).length : Int))) = true := by rw [List.length_cons, decide_eq_true (by omega : (1 : Int) ≤ ((Z.length + 1 : Nat) : Int))]; rfl
  have g0 : Ap (t := .pair (.int .i64) Ac) (((a : Int), v0, v1, v2, v3, v4, v5, v6, false, v8) :: Z) 0 = ((a : Int), v0, v1, v2, v3, v4, v5, v6, false, v8) := rfl
  rw [Bf, g0, tl] at ht
  dsimp only at ht
  rw [As v a hi, hse] at ht
  replace ht := Eq.trans (Eq.symm ((ct z0).trans ((ct z1).trans ((ct z2).trans ((ct i0).trans ((ct i1).trans (bs f2))))))) ht
  rcases hd with ⟨c1, rfl⟩ | ⟨c1, c2, c3⟩ | ⟨c1, c2, c3, N, hN, eN, rfl⟩
  · obtain ⟨_, ht⟩ := Mb ht
    exact ⟨_, _, ht, .inl ⟨c1, rfl, rfl⟩⟩
  · have hh : Dv v s v1 v3 = none := by
      unfold Dv
      by_cases c : v3 < 2
      · rw [decide_eq_true c]; rfl
      · rw [decide_eq_false c, c2.resolve_left c]; rfl
    rcases c3 with c3 | c3
    · rw [c3] at ht
      exact ⟨_, _, ht, .inr ⟨c1, rfl, .inl ⟨hh, rfl⟩⟩⟩
    · rw [c3] at ht
      obtain ⟨_, ht⟩ := Mb ht
      exact ⟨_, _, ht, .inr ⟨c1, rfl, .inl ⟨hh, rfl⟩⟩⟩
  · have f4 := Uj (q + 4) v (Rt.Bq v1 17 s.2.reverse).1.2.2.1 (by omega) hk
    have f5 := Yj (Rt.Bq v1 17 s.2.reverse).1.2.2.1 v 0
    have hh : Dv v s v1 v3 = cond (decide (fi (Rt.Bq v1 17 s.2.reverse).1.2.2.1 v 0 ≥ 0)) (some (fi (Rt.Bq v1 17 s.2.reverse).1.2.2.1 v 0, N)) none := by
      unfold Dv
      rw [decide_eq_false c2, c3, cond_false, cond_true]
      have : Int.toNat (Rt.Bq v1 17 s.2.reverse).1.2.2.2 = N := by rw [eN]; rfl
      rw [this]
    have ht : (F75 (q + 4) v (Rt.Bq v1 17 s.2.reverse).1.2.2.1).bind _ = some t := ht
    rw [f4, Option.bind_some] at ht
    generalize fi (Rt.Bq v1 17 s.2.reverse).1.2.2.1 v 0 = b at *
    by_cases cb : b ≥ 0
    · obtain ⟨b, rfl⟩ : ∃ i : Nat, b = (i : Int) := ⟨b.toNat, by omega⟩
      rw [decide_eq_true cb] at ht hh
      have hl := Iz (Hu v0 v1 v2 (v3 - 1) v4 false) N v6 50 v5 v8
      have l3 := Ku (q + 4) v w p (b : Int) (m.1, m.2.1, IntKind.i64.wrap (m.2.2 + 1)) (Cn (Hu v0 v1 v2 (v3 - 1) v4 false) N v6 50 v5 v8) (by omega) (q + 4) 0 Z (Nat.zero_le _) (by omega) (by omega)
      rw [List.drop_zero] at l3
      have ht := (bs l3).symm.trans ht
      exact ⟨_, _, ht, .inr ⟨c1, rfl, .inr ⟨b, N, hh, by omega, hN.1, by omega, rfl⟩⟩⟩
    · rw [decide_eq_false cb] at ht hh
      exact ⟨_, _, ht, .inr ⟨c1, rfl, .inl ⟨hh, rfl⟩⟩⟩
end Go.Proofs.YtdmepjjepogddaaGreat.Gn
end

section
namespace Go.Proofs.YtdmepjjepogddaaGreat.Gn
open Go.Rf Go.IntWalk
set_option linter.unusedVariables false
set_option linter.unusedSimpArgs false
def A6 (fr to kd id h : Int) : Int → Bool → A0 → den Ac := Hu fr to kd h id false
def Se (a : Nat) (l : Cl) : Su := l.map fun r => ((a : Int), r)
theorem Yw {v : Fh} {s : den sta} {to h : Int} {b : Int} {N : Nat} (e : Dv v s to h = some (b, N)) : 2 ≤ h ∧ 0 ≤ b ∧ b < (v.length : Int) := by
 unfold Dv at e
 by_cases c : h < 2
 ·rw [decide_eq_true c] at e; cases e
 ·rw [decide_eq_false c, cond_false] at e
  obtain ⟨_, e⟩ := Mb e
  have f5 := Yj (Rt.Bq to 17 s.2.reverse).1.2.2.1 v 0
  by_cases c2 : fi (Rt.Bq to 17 s.2.reverse).1.2.2.1 v 0 ≥ 0
  ·rw [decide_eq_true c2, cond_true] at e
   simp only [Option.some.injEq, Prod.mk.injEq] at e
   omega
  ·rw [decide_eq_false c2] at e; cases e
def P7 (v : Fh) (to : Int) : Nat → Nat → Bool
 | 0, a => (v[a]?).any fun s => @BEq.beq Int _ s.1 to
 | n + 1, a => (v[a]?).any fun s => @BEq.beq Int _ s.1 to || ((Dv v s to ((n + 1 : Nat) : Int)).any fun z => P7 v to n z.1.toNat)
theorem Xje {v : Fh} {to : Int} {a : Nat} {s : den sta} (hs : v[a]? = some s) (e : to = s.1) : ∀ n, P7 v to n a = true
 | 0 => by rw [P7, hs]; exact beq_iff_eq.2 e.symm
 | n + 1 => by rw [P7, hs, Option.any_some, show @BEq.beq Int _ s.1 to = true from beq_iff_eq.2 e.symm]; rfl
theorem Xli {v : Fh} {to : Int} {a : Nat} {s : den sta} (hs : v[a]? = some s) (e : to ≠ s.1) : ∀ n : Nat, Dv v s to (n : Int) = none → P7 v to n a = false
 | 0, _ => by rw [P7, hs]; exact beq_eq_false_iff_ne.2 (Ne.symm e)
 | n + 1, h => by rw [P7, hs, Option.any_some, show @BEq.beq Int _ s.1 to = false from beq_eq_false_iff_ne.2 (Ne.symm e), h]; rfl
theorem Xmv {v : Fh} {to : Int} {a b N : Nat} {s : den sta} (hs : v[a]? = some s) (e : to ≠ s.1) (n : Nat) (h : Dv v s to ((n + 1 : Nat) : Int) = some ((b : Int), N)) : P7 v to (n + 1) a = P7 v to n b := by
 rw [P7, hs, Option.any_some, show @BEq.beq Int _ s.1 to = false from beq_eq_false_iff_ne.2 (Ne.symm e), h]
 rfl
def Inv (v : Fh) (fr to kd id : Int) (c : A0) (β : Bool) (arr : Cl) (Q : Su) : Prop :=
  (Q = [] ∧ ((arr = [] ∧ β = false) ∨ (∃ h : Int, (0 ≤ h ∧ h ≤ 64) ∧ Ch (A6 fr to kd id h) 0 arr c false) ∧ β = true)) ∨
  ∃ (a : Nat) (s : den sta) (h : Int) (c1 c2 : A0) (A : Cl), v[a]? = some s ∧ (0 ≤ h ∧ h ≤ 64 ∧ P7 v to h.toNat a = β) ∧ c = c1 ++ c2 ∧ Ch (A6 fr to kd id h) (c1.length : Int) A c2 false ∧
    ((to = s.1 ∧ Ch (A6 fr to kd id h) 0 arr c1 true ∧ Q = Se a A) ∨
     (to ≠ s.1 ∧ arr = [] ∧ ((Dv v s to h = none ∧ Q = Se a A) ∨
       ∃ (b N : Nat) (B : Cl), Dv v s to h = some ((b : Int), N) ∧ b < v.length ∧ 1 ≤ h ∧ Ch (A6 fr to kd id (h - 1)) 0 B c1 true ∧ Q = Se a A ++ Se b B)))
theorem Xfn {v : Fh} {fr to kd id : Int} {c : A0} {a : Nat} {h : Int} {A : Cl} (ha : a < v.length) (hh : 0 ≤ h ∧ h ≤ 64) (hA : Ch (A6 fr to kd id h) 0 A c false) : Inv v fr to kd id c (P7 v to h.toNat a) [] (Se a A) := by
 refine .inr ⟨a, v[a], h, [], c, A, List.getElem?_eq_getElem ha, ⟨hh.1, hh.2, rfl⟩, rfl, hA, ?_⟩
 by_cases e : to = v[a].1
 ·exact .inl ⟨e, ⟨rfl, rfl⟩, rfl⟩
 ·refine .inr ⟨e, rfl, ?_⟩
  cases ho : Dv v v[a] to h with
  | none => exact .inl ⟨rfl, rfl⟩
  | some z =>
   obtain ⟨b, N⟩ := z
   obtain ⟨h1, h2, h3⟩ := Yw ho
   obtain ⟨b, rfl⟩ : ∃ i : Nat, b = (i : Int) := ⟨b.toNat, by omega⟩
   exact .inr ⟨b, N, [], rfl, by omega, by omega, ⟨rfl, rfl⟩, by simp [Se]⟩
theorem X3q (g : Int → Bool → A0 → den Ac) {x : Int} {l : Cl} {c : A0} (h : Ch g x l c false) : l ≠ [] := fun e => by
 subst e
 exact absurd h.2 (by decide)
theorem Pj (q : Nat) {v : Fh} (w : Int) (p : den Ac) (hv : ∀ s ∈ v, StaOk (q + 4) s) (hvl : v.length ≤ 5) (hk : 1048576 < q + 4) {fr to kd id : Int} {c : A0} (hfr : 0 ≤ fr ∧ fr ≤ 65535) (hto : 0 ≤ to ∧ to ≤ 65535) (hkd : 0 ≤ kd ∧ kd ≤ 255) (hid : 0 ≤ id ∧ id ≤ 255) (hc : c.length ≤ 48) (hb : BOk c) :
  ∀ (n : Nat) (m : den Cy) (Q : Su) (t : den Cy) (β : Bool), Inv v fr to kd id c β m.1 Q → Bf (q + 4) v w p n m Q = some t → (t.1 = [] ∧ β = false) ∨ (∃ h : Int, (0 ≤ h ∧ h ≤ 64) ∧ Ch (A6 fr to kd id h) 0 t.1 c false) ∧ β = true
 | 0, _, _, _, _, _, ht => by rw [Bf] at ht; cases ht
 | n + 1, m, Q, t, β, hI, ht => by
  rcases hI with ⟨rfl, hF⟩ | ⟨a, s, h, c1, c2, A, hs, hh, hcc, hA, hM⟩
  ·
   rw [Bf] at ht
   have hsz : m.1.length ≤ 100000 ∧ ∀ r ∈ m.1, r.2.2.2.2.2.2.2.2.length ≤ 1048576 := by
    rcases hF with ⟨e, _⟩ | ⟨⟨h, _, hF⟩, _⟩
    ·rw [e]; exact ⟨by simp, fun r hr => by cases hr⟩
    ·have := E3 _ hF
     refine ⟨by omega, fun r hr => ?_⟩
     obtain ⟨x', m', d, rfl, _, e3, _⟩ := U3 _ hF hr
     show d.length ≤ 1048576
     omega
   have e1 := G9 (q + 4) m.1 hsz.1 hsz.2 hk
   have ht := Eq.trans (Eq.symm ((cf (show decide ((([] : Su).length : Int) > 0) = false from rfl)).trans (bs e1))) ht
   cases e2 : Pc (q + 4) m.2.1 with
   | none => rw [e2] at ht; cases ht
   | some z =>
    rw [e2, Option.bind_some, Option.some.injEq] at ht
    rw [← ht]
    exact hF
  ·have hAne := X3q _ hA
   cases A with
   | nil => exact absurd rfl hAne
   | cons r A =>
    obtain ⟨m0, d, c2', rfl, rfl, hA2⟩ := hA
    have hlen : c1.length + d.length + c2'.length ≤ 48 := by rw [hcc] at hc; simp only [List.length_append] at hc; omega
    have hbd : BOk d := fun z hz => hb z (by rw [hcc]; simp [hz])
    have hmd : m0 = true → d ≠ [] := fun e => by
     rcases hA2 with h2 | h2
     ·exact h2.2.1
     ·rw [h2.1] at e; cases e
    have okp : Kc (A6 fr to kd id h (c1.length : Int) m0 d) = true := N8 hfr hto hkd (by omega) hid (by omega) (by omega) (fun e => List.length_pos_iff.2 (hmd e)) (fun e => by cases e)
    have hAl : A.length ≤ 49 := by
     rcases hA2 with h2 | h2
     ·have := E3 _ h2.2.2; omega
     ·rw [h2.2.1]; simp
    have st := fun (Z : Su) (hZ : Z.length ≤ 1000) (hm : m.1.length ≤ 1000) (ht : Bf (q + 4) v w p (n + 1) m (((a : Int), A6 fr to kd id h (c1.length : Int) m0 d) :: Z) = some t) => X2z q w p hv hvl hk hs okp hbd (by omega) hZ hm ht
    have e0 : (c1 ++ d).length = c1.length + d.length := List.length_append
    rcases hM with ⟨e1, harr, rfl⟩ | ⟨e1, harr, hM⟩
    ·
     have hml := E3 _ harr
     obtain ⟨m', Q', s1, s2⟩ := st (Se a A) (by simp [Se]; omega) (by omega) ht
     rcases s2 with ⟨_, s3, rfl⟩ | ⟨s3, _⟩
     ·have one := H5 (A6 fr to kd id h) (x := 0 + (c1.length : Int)) hmd
      rw [Int.zero_add] at one
      have arr' : Ch (A6 fr to kd id h) 0 m'.1 (c1 ++ d) m0 := by
       rw [s3]
       exact Ij _ harr (by rw [Int.zero_add]; exact one)
      refine Pj q w p hv hvl hk hfr hto hkd hid hc hb n m' _ t β ?_ s1
      rcases hA2 with ⟨rfl, _, h2⟩ | ⟨rfl, rfl, rfl, _⟩
      ·refine .inr ⟨a, s, h, c1 ++ d, c2', A, hs, hh, by rw [List.append_assoc]; exact hcc, ?_, .inl ⟨e1, arr', rfl⟩⟩
       rw [e0, Int.natCast_add]
       exact h2
      ·refine .inl ⟨rfl, .inr ⟨⟨h, ⟨hh.1, hh.2.1⟩, ?_⟩, by rw [← hh.2.2]; exact Xje hs e1 _⟩⟩
       rw [hcc, List.append_nil]
       exact arr'
     ·exact absurd e1 s3
    ·
     have hm1 : m.1.length ≤ 1000 := by rw [harr]; simp
     rcases hM with ⟨ho, rfl⟩ | ⟨b, N, B, ho, hbl, h1, hB, rfl⟩
     ·obtain ⟨m', Q', s1, s2⟩ := st (Se a A) (by simp [Se]; omega) hm1 ht
      rcases s2 with ⟨s3, _⟩ | ⟨_, s3, s4⟩
      ·exact absurd s3 e1
      ·rcases s4 with ⟨_, rfl⟩ | ⟨b, N, s5, _⟩
       ·refine Pj q w p hv hvl hk hfr hto hkd hid hc hb n m' _ t β ?_ s1
        rw [s3, harr]
        rcases hA2 with ⟨rfl, _, h2⟩ | ⟨rfl, rfl, rfl, _⟩
        ·refine .inr ⟨a, s, h, c1 ++ d, c2', A, hs, hh, by rw [List.append_assoc]; exact hcc, ?_, .inr ⟨e1, rfl, .inl ⟨ho, rfl⟩⟩⟩
         rw [e0, Int.natCast_add]
         exact h2
        ·exact .inl ⟨rfl, .inl ⟨rfl, by rw [← hh.2.2]; exact Xli hs e1 _ (by rw [Int.toNat_of_nonneg hh.1]; exact ho)⟩⟩
       ·rw [show Dv v s to h = none from ho] at s5; cases s5
     ·have hBl := E3 _ hB
      have ht : Bf (q + 4) v w p (n + 1) m (((a : Int), A6 fr to kd id h (c1.length : Int) m0 d) :: (Se a A ++ Se b B)) = some t := ht
      obtain ⟨m', Q', s1, s2⟩ := st (Se a A ++ Se b B) (by simp [Se]; omega) hm1 ht
      rcases s2 with ⟨s3, _⟩ | ⟨_, s3, s4⟩
      ·exact absurd s3 e1
      ·rcases s4 with ⟨s5, _⟩ | ⟨b', N', s5, hb', hN', h3, rfl⟩
       ·rw [show Dv v s to h = _ from ho] at s5; cases s5
       ·rw [show Dv v s to h = _ from ho] at s5
        simp only [Option.some.injEq, Prod.mk.injEq] at s5
        obtain ⟨s5, rfl⟩ := s5
        obtain rfl : b = b' := by omega
        have cc := Xeb (A6 fr to kd id (h - 1)) hN' m0 50 (0 + (c1.length : Int)) d (by omega) hmd
        have B' := Ij _ hB cc
        rw [Int.zero_add] at B'
        have eQ : Se a A ++ Se b B ++ (Cn (Hu fr to kd (h - 1) id false) N m0 50 (c1.length : Int) d).map (fun r => ((b : Int), r)) = Se a A ++ Se b (B ++ Cn (A6 fr to kd id (h - 1)) N m0 50 (c1.length : Int) d) := by
         rw [List.append_assoc]
         simp [Se, A6]
        have s1 : Bf (q + 4) v w p n m' (Se a A ++ Se b B ++ (Cn (Hu fr to kd (h - 1) id false) N m0 50 (c1.length : Int) d).map (fun r => ((b : Int), r))) = some t := s1
        rw [eQ] at s1
        refine Pj q w p hv hvl hk hfr hto hkd hid hc hb n m' _ t β ?_ s1
        rw [s3, harr]
        rcases hA2 with ⟨rfl, _, h2⟩ | ⟨rfl, rfl, rfl, _⟩
        ·refine .inr ⟨a, s, h, c1 ++ d, c2', A, hs, hh, by rw [List.append_assoc]; exact hcc, ?_, .inr ⟨e1, rfl, .inr ⟨b, N, _, ho, hbl, h1, B', rfl⟩⟩⟩
         rw [e0, Int.natCast_add]
         exact h2
        ·rw [hcc, List.append_nil]
         have hn := Xfn (a := b) (fr := fr) (to := to) (kd := kd) (id := id) hbl (by omega : 0 ≤ h - 1 ∧ h - 1 ≤ 64) B'
         obtain ⟨i, hi⟩ : ∃ i : Nat, h = ((i + 1 : Nat) : Int) := ⟨(h - 1).toNat, by omega⟩
         have hr : P7 v to (h - 1).toNat b = β := by
          rw [← hh.2.2, hi]
          rw [hi] at ho
          rw [show (((i + 1 : Nat) : Int) - 1).toNat = i by omega, Int.toNat_natCast]
          exact (Xmv hs e1 i ho).symm
         rw [hr] at hn
         exact hn
end Go.Proofs.YtdmepjjepogddaaGreat.Gn
end

section
namespace Go.Proofs.YtdmepjjepogddaaGreat.Gn
open Go.Rf Go.IntWalk
set_option linter.unusedVariables false
set_option linter.unusedSimpArgs false
structure Gk (fr to kd id h : Int) : Prop where
 fr : 0 ≤ fr ∧ fr ≤ 65535
 to : 0 ≤ to ∧ to ≤ 65535
 kd : 0 ≤ kd ∧ kd ≤ 255
 id : 0 ≤ id ∧ id ≤ 255
 h : 0 ≤ h ∧ h ≤ 64
theorem Gk.ok {fr to kd id h x : Int} {m : Bool} {d : A0} (G : Gk fr to kd id h) (h0 : 0 ≤ x) (hx : x + (d.length : Int) ≤ 48) (hm : m = true → d ≠ []) : Kc (A6 fr to kd id h x m d) = true :=
 N8 G.fr G.to G.kd (by have := G.h; omega) G.id (by omega) (by omega) (fun e => List.length_pos_iff.2 (hm e)) (fun e => by cases e)
def Cq (g : Int → Bool → A0 → den Ac) : Int → Cl → Prop
 | x, [] => x ≤ 48
 | x, p :: l => ∃ m d, p = g x m d ∧ (m = true → d ≠ []) ∧ (l ≠ [] → m = true) ∧ x + (d.length : Int) ≤ 48 ∧ Cq g (x + (d.length : Int)) l
theorem Xuj (g : Int → Bool → A0 → den Ac) : ∀ {l : Cl} {x : Int} {c : A0} {f : Bool}, Ch g x l c f → x + (c.length : Int) ≤ 48 → Cq g x l
 | [], x, c, f, h, hx => by
  obtain ⟨rfl, _⟩ := h
  simpa [Cq] using hx
 | p :: l, x, c, f, h, hx => by
  obtain ⟨m, d, c2, rfl, rfl, h⟩ := h
  rw [List.length_append] at hx
  refine ⟨m, d, rfl, fun e => ?_, fun e => ?_, by omega, ?_⟩
  ·rcases h with h | h
   ·exact h.2.1
   ·rw [h.1] at e; cases e
  ·rcases h with h | h
   ·exact h.1
   ·exact absurd h.2.1 e
  ·rcases h with h | h
   ·exact Xuj g h.2.2 (by omega)
   ·rw [h.2.1]
    show x + (d.length : Int) ≤ 48
    omega
theorem Xo (k : Nat) (fr to kd id h x y : Int) (m m' : Bool) (d e : A0) : W9 k (A6 fr to kd id h x m d) (A6 fr to kd id h y m' e) = some true := by
 unfold W9 Vz A6 Hu; (try dsimp only)
 simp only [beq_self_eq_true, cond_true]
theorem Xme (k : Nat) (fr to kd id h x y : Int) (m m' : Bool) (d e : A0) : Xdn k (A6 fr to kd id h x m d) (A6 fr to kd id h y m' e) = some true := Xo k fr to kd id h x y m m' d e
def isG (fr to kd id h : Int) (p : den Ac) : Prop := ∃ (x : Int) (m : Bool) (d : A0), p = A6 fr to kd id h x m d
theorem Xop (k : Nat) {fr to kd id h : Int} (G : Gk fr to kd id h) (S : Cl) (hS : ∀ z ∈ S, isG fr to kd id h z) (hSl : S.length ≤ 1000) (hne : 0 < S.length) : ∀ (n : Nat) (d r : Cl) (x : Int), S = d ++ r → Cq (A6 fr to kd id h) x r → 0 ≤ x → (r ≠ [] → d = [] ∨ ∃ d0 y e, d = d0 ++ [A6 fr to kd id h y true e] ∧ 0 ≤ y ∧ y + (e.length : Int) = x) → x ≤ 48 → (d ≠ [] ∨ r ≠ []) → r.length < n →
  D9 k (S, 15) n x (d.length : Int) = some true ∧ Ea k (S, 15) n x (d.length : Int) = some true
 | 0, _, _, _, _, _, _, _, _, _, h => by omega
 | n + 1, d, [], x, hs, hq, h0, hd, hx, hor, hn => by
  have e1 : d.length = S.length := by rw [hs, List.append_nil]
  rw [D9, Ea]
  unfold F1 Gj; (try dsimp only [A1, Bb])
  have c1 : decide ((d.length : Int) < (S.length : Int)) = false := decide_eq_false (by omega)
  have c2 : decide ((S.length : Int) > 0) = true := decide_eq_true (by omega)
  exact ⟨(cf c1).trans ((ct c2).trans ((ct (decide_eq_true hx)).trans ((bs (Bp k 15 0 1000000)).trans rfl))), (cf c1).trans ((ct c2).trans ((ct (decide_eq_true hx)).trans ((bs (Cp k 15 0 1000000)).trans rfl)))⟩
 | n + 1, d, p :: r, x, hs, hq, h0, hd, hx, hor, hn => by
  obtain ⟨m, e, rfl, hm, hr, hxe, hq⟩ := hq
  have hj : d.length < S.length := by rw [hs]; simp
  have hg : Ap (t := Ac) S (d.length : Int) = A6 fr to kd id h x m e := by rw [As S d.length hj]; simp [hs]
  have d1 : decide ((d.length : Int) < (S.length : Int)) = true := decide_eq_true (by omega)
  have d0 : decide ((0 : Int) ≤ (d.length : Int)) = true := decide_eq_true (by omega)
  have p0 : decide ((0 : Int) < (S.length : Int)) = true := decide_eq_true (by omega)
  obtain ⟨y0, m0, e0, hg0⟩ := hS _ (List.getElem_mem hne)
  have hg0 : Ap (t := Ac) S 0 = A6 fr to kd id h y0 m0 e0 := by
   have := As (t := Ac) S 0 hne
   rw [hg0] at this
   exact this
  have ok := G.ok h0 hxe hm
  have k1 : G2 k (A6 fr to kd id h x m e) = some true := by rw [C3, ok]
  have k2 : F89 k (A6 fr to kd id h x m e) = some true := by rw [Rj, ok]
  have s1 := Xo k fr to kd id h x y0 m m0 e e0
  have s2 := Xme k fr to kd id h x y0 m m0 e e0
  have hxl : IntKind.i64.wrap (x + (e.length : Int)) = x + (e.length : Int) := i64_in _ (by omega)
  have hs' : S = (d ++ [A6 fr to kd id h x m e]) ++ r := by rw [hs]; simp
  have hl' : ((d ++ [A6 fr to kd id h x m e]).length : Int) = ((d.length + 1 : Nat) : Int) := by simp
  have rec1 : D9 k (S, 15) n (x + (e.length : Int)) ((d.length + 1 : Nat) : Int) = some true ∧ Ea k (S, 15) n (x + (e.length : Int)) ((d.length + 1 : Nat) : Int) = some true := by
   rw [← hl']
   refine Xop k G S hS hSl hne n (d ++ [A6 fr to kd id h x m e]) r _ hs' hq (by omega) (fun hrn => .inr ⟨d, x, e, by rw [hr hrn], h0, rfl⟩) hxe (.inl (by simp)) (by simp at hn; omega)
  rw [D9, Ea]
  unfold F1 Gj; (try dsimp only [A1, Bb])
  rw [hg, hg0, Kr d.length (by omega)]
  have nx1 : D9 k (S, 15) n (IntKind.i64.wrap (x + ((A6 fr to kd id h x m e).2.2.2.2.2.2.2.2.length : Int))) ((d.length + 1 : Nat) : Int) = some true := by
   rw [show IntKind.i64.wrap (x + ((A6 fr to kd id h x m e).2.2.2.2.2.2.2.2.length : Int)) = x + (e.length : Int) from hxl]; exact rec1.1
  have nx2 : Ea k (S, 15) n (IntKind.i64.wrap (x + ((A6 fr to kd id h x m e).2.2.2.2.2.2.2.2.length : Int))) ((d.length + 1 : Nat) : Int) = some true := by
   rw [show IntKind.i64.wrap (x + ((A6 fr to kd id h x m e).2.2.2.2.2.2.2.2.length : Int)) = x + (e.length : Int) from hxl]; exact rec1.2
  rcases hd (by simp) with rfl | ⟨dd, y, e', rfl, hy0, hy⟩
  ·have g0 : decide ((([] : Cl).length : Int) > 0) = false := rfl
   exact ⟨(ct d1).trans ((ct d0).trans ((ct d1).trans ((bs k1).trans ((cf rfl).trans ((ct p0).trans ((bs s1).trans ((cf rfl).trans ((cf g0).trans nx1)))))))), (ct d1).trans ((ct d0).trans ((ct d1).trans ((bs k2).trans ((cf rfl).trans ((ct p0).trans ((bs s2).trans ((cf rfl).trans ((cf g0).trans nx2))))))))⟩
  ·have hl2 : (dd ++ [A6 fr to kd id h y true e']).length = dd.length + 1 := by simp
   rw [hl2] at d1 d0 hj nx1 nx2 ⊢
   have g0 : decide (((dd.length + 1 : Nat) : Int) > 0) = true := decide_eq_true (by omega)
   have e1 : IntKind.i64.wrap (((dd.length + 1 : Nat) : Int) - 1) = (dd.length : Int) := by rw [i64_in _ (by omega)]; omega
   have q1 : decide ((dd.length : Int) < (S.length : Int)) = true := decide_eq_true (by omega)
   have q0 : decide ((0 : Int) ≤ (dd.length : Int)) = true := decide_eq_true (by omega)
   have hgp : Ap (t := Ac) S (dd.length : Int) = A6 fr to kd id h y true e' := by rw [As S dd.length (by omega)]; simp [hs]
   rw [e1, hgp]
   have lt1 : decide ((A6 fr to kd id h x m e).2.2.2.2.2.1 < IntKind.i64.wrap ((A6 fr to kd id h y true e').2.2.2.2.2.1 + ((A6 fr to kd id h y true e').2.2.2.2.2.2.2.2.length : Int))) = false := by
    refine decide_eq_false ?_
    show ¬ x < IntKind.i64.wrap (y + (e'.length : Int))
    rw [i64_in _ (by omega)]
    omega
   exact ⟨(ct d1).trans ((ct d0).trans ((ct d1).trans ((bs k1).trans ((cf rfl).trans ((ct p0).trans ((bs s1).trans ((cf rfl).trans ((ct g0).trans ((ct q0).trans ((ct q1).trans ((ct q0).trans ((ct q1).trans ((cf lt1).trans ((ct q0).trans ((ct q1).trans ((cf rfl).trans nx1)))))))))))))))), (ct d1).trans ((ct d0).trans ((ct d1).trans ((bs k2).trans ((cf rfl).trans ((ct p0).trans ((bs s2).trans ((cf rfl).trans ((ct g0).trans ((ct q0).trans ((ct q1).trans ((cf lt1).trans ((cf rfl).trans nx2))))))))))))⟩
theorem Wa {fr to kd id h : Int} {x : Int} {S : Cl} {c : A0} {f : Bool} (hS : Ch (A6 fr to kd id h) x S c f) : ∀ z ∈ S, isG fr to kd id h z := fun z hz => by
 obtain ⟨x', m, d, e, _⟩ := U3 _ hS hz
 exact ⟨x', m, d, e⟩
theorem Qr (k : Nat) {fr to kd id h : Int} (G : Gk fr to kd id h) {S : Cl} {c : A0} {f : Bool} (hS : Ch (A6 fr to kd id h) 0 S c f) (hc : c.length ≤ 48) (hne : S ≠ []) (hk : 1048576 < k) : P5 k (S, 15) = some true ∧ Xbe k (S, 15) = some true := by
 have hl := E3 _ hS
 exact Xop k G S (Wa hS) (by omega) (List.length_pos_iff.2 hne) k [] S 0 rfl (Xuj _ hS (by omega)) (by omega) (fun _ => .inl rfl) (by omega) (.inr hne) (by omega)
theorem Xw (k : Nat) (hk : 1048576 < k) : Yk k [] = some true ∧ X6 k [] = some true := by
 obtain ⟨n, rfl⟩ : ∃ n, k = n + 1 := ⟨k - 1, by omega⟩
 unfold Yk Sb X6 Ro; (try dsimp only)
 rw [E9, Gw]
 exact ⟨rfl, rfl⟩
theorem Xjx (k : Nat) {fr to kd id h : Int} (G : Gk fr to kd id h) {S : Cl} {c : A0} {f : Bool} (hS : Ch (A6 fr to kd id h) 0 S c f) (hc : c.length ≤ 48) (hne : S ≠ []) (hk : 1048576 < k) : Yk k [(S, 15)] = some true ∧ X6 k [(S, 15)] = some true := by
 obtain ⟨o1, o2⟩ := Qr k G hS hc hne hk
 obtain ⟨n, rfl⟩ : ∃ n, k = n + 1 + 1 := ⟨k - 2, by omega⟩
 have w1 : IntKind.i64.wrap (0 + 1) = 1 := by decide
 constructor
 ·unfold Yk Sb; (try dsimp only)
  rw [E9]
  refine (ct rfl).trans ((ct rfl).trans ((ct rfl).trans ((bs o1).trans ((cf rfl).trans ?_))))
  have e : Jh (n + 1 + 1) [(S, 15)] (n + 1 + 1) 0 0 = some (.inr (0, 0)) := by
   rw [Jh]
   unfold Ja; (try dsimp only [A1])
   exact (cf rfl).trans rfl
  refine (bs e).trans ?_
  show E9 (n + 1 + 1) [(S, 15)] (n + 1) (IntKind.i64.wrap (0 + 1)) = some true
  rw [w1, E9]
  exact (cf rfl).trans rfl
 ·unfold X6 Ro; (try dsimp only)
  rw [Gw]
  unfold Gc; (try dsimp only [A1])
  refine (ct rfl).trans ((ct rfl).trans ((ct rfl).trans ((bs o2).trans ((cf rfl).trans ((ct rfl).trans ?_)))))
  have e : Xg5 (n + 1 + 1) (([(S, 15)] : List (den Ax)).take (0 : Int).toNat) (Ap (t := Ax) [(S, 15)] 0) = some (false, (S, 15)) := by
   unfold Xg5 Xfy Uq; (try dsimp only)
   show (Ju (n + 1 + 1) [] (S, 15) (n + 1 + 1) 0 (S, 15)).bind _ = _
   rw [Ju]
   rfl
  refine (bs e).trans ((cf rfl).trans ?_)
  rw [w1, Gw]
  unfold Gc; (try dsimp only [A1])
  exact (cf rfl).trans rfl
def Xej (S : Cl) (x : Int) : Prop := ∀ z ∈ S, @LT.lt Int _ z.2.2.2.2.2.1 x
theorem Mh {fr to kd id h : Int} : ∀ {S : Cl} {x : Int} {c : A0}, Ch (A6 fr to kd id h) x S c true → Xej S (x + (c.length : Int))
 | [], _, _, _, z, hz => by cases hz
 | p :: S, x, c, hS, z, hz => by
  obtain ⟨m, d, c2, rfl, rfl, h | h⟩ := hS
  ·have hd := List.length_pos_iff.2 h.2.1
   rw [List.length_append]
   rcases List.mem_cons.1 hz with rfl | hz
   ·show x < _
    omega
   ·have := Mh h.2.2 z hz
    rw [show x + ((d.length + c2.length : Nat) : Int) = x + (d.length : Int) + (c2.length : Int) by omega]
    exact this
  ·exact absurd h.2.2.2 (by decide)
theorem Xlt (k : Nat) (S : Cl) (p : den Ac) (hS : Xej S p.2.2.2.2.2.1) (hSl : S.length ≤ 1000) : ∀ (n j : Nat), j ≤ S.length → S.length - j < n → Jr k (S, 15) p n false (j : Int) = G8 k (S, 15) p k false 0 ([], 15)
 | 0, j, _, h => by omega
 | n + 1, j, hj, h => by
  rw [Jr]
  unfold I6; (try dsimp only [A1, Bb])
  rcases Nat.lt_or_ge j S.length with hlt | hge
  ·have d1 : decide ((j : Int) < (S.length : Int)) = true := decide_eq_true (by omega)
   have d0 : decide ((0 : Int) ≤ (j : Int)) = true := decide_eq_true (by omega)
   have hz := hS _ (List.getElem_mem hlt)
   rw [As S j hlt, Kr j (by omega)]
   have c : (S[j].2.2.2.2.2.1 == p.2.2.2.2.2.1) = false := beq_eq_false_iff_ne.2 (Int.ne_of_lt hz)
   exact (ct d1).trans ((ct d0).trans ((ct d1).trans ((cf c).trans (Xlt k S p hS hSl n (j + 1) hlt (by omega)))))
  ·exact (cf (decide_eq_false (by show ¬ (j : Int) < (S.length : Int); omega))).trans rfl
theorem Xjr (k : Nat) (S : Cl) (p : den Ac) (hS : Xej S p.2.2.2.2.2.1) (hSl : S.length ≤ 1000) (hd : ∀ z ∈ S, z.2.2.2.2.2.2.2.2.length ≤ 1048576) (hp : p.2.2.2.2.2.2.2.2.length ≤ 1048576) (ho : P5 k (S ++ [p], 15) = some true) : ∀ (n j : Nat), j ≤ S.length → S.length - j < n → G8 k (S, 15) p n false (j : Int) (S.take j, 15) = some ((S ++ [p], 15), true)
 | 0, j, _, h => by omega
 | n + 1, j, hj, h => by
  rw [G8]
  unfold Jc; (try dsimp only [A1, Bh, Bb])
  have ht : (S.take j).length = j := by rw [List.length_take]; omega
  rcases Nat.lt_or_ge j S.length with hlt | hge
  ·have d1 : decide ((j : Int) < (S.length : Int)) = true := decide_eq_true (by omega)
   have d0 : decide ((0 : Int) ≤ (j : Int)) = true := decide_eq_true (by omega)
   have hz := hS _ (List.getElem_mem hlt)
   unfold Hn; (try dsimp only [A1, Bh])
   rw [As S j hlt, Kr j (by omega)]
   have c : decide (p.2.2.2.2.2.1 < S[j].2.2.2.2.2.1) = false := decide_eq_false (by have := hz; exact Int.not_lt.2 (Int.le_of_lt hz))
   refine (ct d1).trans ((ct rfl).trans ((ct d0).trans ((ct d1).trans ((cf c).trans ((ct d0).trans ((ct d1).trans ((bs (L6 k S[j] (hd _ (List.getElem_mem hlt)))).trans ((ct (decide_eq_true (by show ((S.take j).length + 1) * 80 ≤ _; omega))).trans ?_))))))))
   have e : S.take j ++ [S[j]] = S.take (j + 1) := by rw [List.take_add_one, List.getElem?_eq_getElem hlt]; rfl
   rw [show ((S.take j, (15 : Int)) : den Ax).1 ++ [S[j]] = S.take (j + 1) from e]
   exact Xjr k S p hS hSl hd hp ho n (j + 1) hlt (by omega)
  ·have e : S.take j = S := List.take_of_length_le hge
   rw [e]
   exact (cf (decide_eq_false (by show ¬ (j : Int) < (S.length : Int); omega))).trans ((ct rfl).trans ((bs (L6 k p hp)).trans ((ct (decide_eq_true (by show (S.length + 1) * 80 ≤ _; omega))).trans ((bs ho).trans ((cf rfl).trans rfl)))))
theorem Vt {fr to kd id h : Int} {S : Cl} (hS : ∀ z ∈ S, isG fr to kd id h z) (hne : 0 < S.length) : ∃ y m e, Ap (t := Ac) S 0 = A6 fr to kd id h y m e := by
 obtain ⟨y0, m0, e0, hg0⟩ := hS _ (List.getElem_mem hne)
 have := As (t := Ac) S 0 hne
 rw [hg0] at this
 exact ⟨_, _, _, this⟩
theorem Ln {fr to kd id h x : Int} {S : Cl} {c : A0} {f : Bool} (hS : Ch (A6 fr to kd id h) x S c f) (hc : c.length ≤ 48) : ∀ z ∈ S, z.2.2.2.2.2.2.2.2.length ≤ 1048576 := fun z hz => by
 obtain ⟨x', m, d, rfl, _, e3, _⟩ := U3 _ hS hz
 show d.length ≤ 1048576
 omega
theorem X1h (k : Nat) {fr to kd id h : Int} (G : Gk fr to kd id h) {S : Cl} {c : A0} (hS : Ch (A6 fr to kd id h) 0 S c true) {m : Bool} {d : A0} (hd : m = true → d ≠ []) (hc : c.length + d.length ≤ 48) (hne : S ≠ []) (hk : 1048576 < k) :
  Xhz k (S, 15) (A6 fr to kd id h (c.length : Int) m d) = some ((S ++ [A6 fr to kd id h (c.length : Int) m d], 15), true) := by
 have hl := E3 _ hS
 have hp := List.length_pos_iff.2 hne
 have S' := Ij _ hS (by rw [Int.zero_add]; exact H5 (A6 fr to kd id h) (x := (c.length : Int)) hd)
 obtain ⟨o1, _⟩ := Qr k G hS (by omega) hne hk
 obtain ⟨o2, _⟩ := Qr k G S' (by rw [List.length_append]; omega) (by simp) hk
 have ah := Mh hS
 rw [Int.zero_add] at ah
 have ok := G.ok (x := (c.length : Int)) (m := m) (d := d) (by omega) (by omega) hd
 obtain ⟨y, m0, e0, hg⟩ := Vt (Wa hS) hp
 unfold Xhz V8; (try dsimp only)
 rw [hg]
 refine (bs o1).trans ((cf rfl).trans ((bs (show G2 k (A6 fr to kd id h (c.length : Int) m d) = some true by rw [C3, ok])).trans ((cf rfl).trans ((ct (decide_eq_true (by show (0 : Int) < (S.length : Int); omega))).trans ((bs (Xo k fr to kd id h y (c.length : Int) m0 m e0 d)).trans ((cf rfl).trans ?_))))))
 refine (Xlt k S _ ah (by omega) k 0 (Nat.zero_le _) (by omega)).trans ?_
 exact Xjr k S _ ah (by omega) (Ln hS (by omega)) (show d.length ≤ 1048576 by omega) o2 k 0 (Nat.zero_le _) (by omega)
end Go.Proofs.YtdmepjjepogddaaGreat.Gn
end

section
namespace Go.Proofs.YtdmepjjepogddaaGreat.Gn
open Go.Rf Go.IntWalk
set_option linter.unusedVariables false
set_option linter.unusedSimpArgs false
def Cd (g : Int → Bool → A0 → den Ac) : Int → Cl → A0 → Prop
 | _, [], c => c = []
 | x, p :: l, c => ∃ m d c', p = g x m d ∧ c = d ++ c' ∧ Cd g (x + (d.length : Int)) l c'
theorem Xvi (g : Int → Bool → A0 → den Ac) : ∀ {l : Cl} {x : Int} {c : A0} {f : Bool}, Ch g x l c f → Cd g x l c
 | [], _, _, _, h => h.1
 | p :: l, x, c, f, h => by
  obtain ⟨m, d, c2, rfl, rfl, h | h⟩ := h
  ·exact ⟨m, d, c2, rfl, rfl, Xvi g h.2.2⟩
  ·refine ⟨m, d, c2, rfl, rfl, ?_⟩
   rw [h.2.1, h.2.2.1]
   rfl
theorem Xi0 (k : Nat) (fr to kd id h : Int) (S : Cl) (hSl : S.length ≤ 1000) : ∀ (n : Nat) (d r : Cl) (dat c : A0), S = d ++ r → Cd (A6 fr to kd id h) (dat.length : Int) r c → dat.length + c.length ≤ 48 → r.length < n →
  Hc k (S, 15) n (d.length : Int) (fr, to, kd, h, id, 0, false, false, dat) = some ((fr, to, kd, h, id, 0, false, false, dat ++ c), true)
 | 0, _, _, _, _, _, _, _, hn => by omega
 | n + 1, d, [], dat, c, hs, hc, hl, hn => by
  have e1 : d.length = S.length := by rw [hs, List.append_nil]
  have hc : c = [] := hc
  subst hc
  rw [Hc]
  unfold Gf; (try dsimp only [A1, Bh, Bb])
  rw [List.append_nil]
  exact (cf (decide_eq_false (by show ¬ (d.length : Int) < (S.length : Int); omega))).trans rfl
 | n + 1, d, p :: r, dat, c, hs, hc, hl, hn => by
  obtain ⟨m, e, c2, rfl, rfl, hc⟩ := hc
  rw [List.length_append] at hl
  have hj : d.length < S.length := by rw [hs]; simp
  have hg : Ap (t := Ac) S (d.length : Int) = A6 fr to kd id h (dat.length : Int) m e := by rw [As S d.length hj]; simp [hs]
  have d1 : decide ((d.length : Int) < (S.length : Int)) = true := decide_eq_true (by omega)
  have d0 : decide ((0 : Int) ≤ (d.length : Int)) = true := decide_eq_true (by omega)
  have hl' : ((d ++ [A6 fr to kd id h (dat.length : Int) m e]).length : Int) = ((d.length + 1 : Nat) : Int) := by simp
  have ih := Xi0 k fr to kd id h S hSl n (d ++ [A6 fr to kd id h (dat.length : Int) m e]) r (dat ++ e) c2 (by rw [hs]; simp) (by rw [List.length_append, Int.natCast_add]; exact hc) (by rw [List.length_append]; omega) (by simp at hn; omega)
  rw [hl', List.append_assoc] at ih
  rw [Hc]
  unfold Gf; (try dsimp only [A1, Bh, Bb])
  rw [hg, Kr d.length (by omega)]
  have ne : ((A6 fr to kd id h (dat.length : Int) m e).2.2.2.2.2.1 != (dat.length : Int)) = false := bne_self_eq_false _
  exact (ct d1).trans ((ct d0).trans ((ct d1).trans ((cf ne).trans ((ct d0).trans ((ct d1).trans ((ct (decide_eq_true (by show (dat.length + e.length) * 1 ≤ _; omega))).trans ih))))))
theorem Xil (k : Nat) (fr to kd id h : Int) (S0 : Cl) (p : den Ac) (S : Cl) (hS : S = S0 ++ [p]) (hSl : S.length ≤ 1000) (b : Bool) : ∀ (n : Nat) (d r : Cl) (dat c : A0), S = d ++ r → Cd (A6 fr to kd id h) (dat.length : Int) r c → dat.length + c.length ≤ 48 → r.length < n →
  Hg k (S, 15) n (dat.length : Int) (d.length : Int) (fr, to, kd, h, id, 0, b, false, dat) = some (cond p.2.2.2.2.2.2.1 ((0, 0, 0, 0, 0, 0, false, false, []), false) ((fr, to, kd, h, id, 0, false, false, dat ++ c), true))
 | 0, _, _, _, _, _, _, _, hn => by omega
 | n + 1, d, [], dat, c, hs, hc, hl, hn => by
  have e1 : d.length = S.length := by rw [hs, List.append_nil]
  have hc : c = [] := hc
  subst hc
  have hSl2 : S.length = S0.length + 1 := by rw [hS]; simp
  rw [Hg]
  unfold Gg; (try dsimp only [A1, Bh, Bb])
  have w : IntKind.i64.wrap ((S.length : Int) - 1) = (S0.length : Int) := by rw [i64_in _ (by omega)]; omega
  have hg : Ap (t := Ac) S (S0.length : Int) = p := by rw [As S S0.length (by omega)]; simp [hS]
  rw [w, hg, List.append_nil]
  refine (cf (decide_eq_false (by show ¬ (d.length : Int) < (S.length : Int); omega))).trans ((ct (decide_eq_true (by omega))).trans ((ct (decide_eq_true (by omega))).trans ?_))
  cases p.2.2.2.2.2.2.1 with
  | true => rfl
  | false =>
   refine (cf rfl).trans ((bs (G4 k (fr, to, kd, h, id, 0, false, false, dat) (show dat.length ≤ 1048576 by simp at hl; omega))).trans rfl)
 | n + 1, d, z :: r, dat, c, hs, hc, hl, hn => by
  obtain ⟨m, e, c2, rfl, rfl, hc⟩ := hc
  rw [List.length_append] at hl
  have hj : d.length < S.length := by rw [hs]; simp
  have hg : Ap (t := Ac) S (d.length : Int) = A6 fr to kd id h (dat.length : Int) m e := by rw [As S d.length hj]; simp [hs]
  have d1 : decide ((d.length : Int) < (S.length : Int)) = true := decide_eq_true (by omega)
  have d0 : decide ((0 : Int) ≤ (d.length : Int)) = true := decide_eq_true (by omega)
  have hl' : ((d ++ [A6 fr to kd id h (dat.length : Int) m e]).length : Int) = ((d.length + 1 : Nat) : Int) := by simp
  have hx : (((dat ++ e).length : Nat) : Int) = IntKind.i64.wrap ((dat.length : Int) + (e.length : Int)) := by rw [i64_in _ (by omega), List.length_append]; omega
  have ih := Xil k fr to kd id h S0 p S hS hSl b n (d ++ [A6 fr to kd id h (dat.length : Int) m e]) r (dat ++ e) c2 (by rw [hs]; simp) (by rw [List.length_append, Int.natCast_add]; exact hc) (by rw [List.length_append]; omega) (by simp at hn; omega)
  rw [hl', hx, List.append_assoc] at ih
  rw [Hg]
  unfold Gg; (try dsimp only [A1, Bh, Bb])
  rw [hg, Kr d.length (by omega)]
  have ne : ((A6 fr to kd id h (dat.length : Int) m e).2.2.2.2.2.1 != (dat.length : Int)) = false := bne_self_eq_false _
  exact (ct d1).trans ((ct d0).trans ((ct d1).trans ((cf ne).trans ((ct (decide_eq_true (by show (dat.length + e.length) * 1 ≤ _; omega))).trans ih))))
def Z0 (fr to kd id h : Int) (m : Bool) (c : A0) : den Ac × Bool := cond m ((0, 0, 0, 0, 0, 0, false, false, []), false) ((fr, to, kd, h, id, 0, false, false, c), true)
theorem Xq7 (k : Nat) {fr to kd id h : Int} (G : Gk fr to kd id h) {S : Cl} {c : A0} (hS : Ch (A6 fr to kd id h) 0 S c true) {m : Bool} {d : A0} (hd : m = true → d ≠ []) (hc : c.length + d.length ≤ 48) (hne : S ≠ []) (hk : 1048576 < k) :
  Xhh k (S ++ [A6 fr to kd id h (c.length : Int) m d], 15) = some (Z0 fr to kd id h m (c ++ d)) ∧ Xh3 k (S ++ [A6 fr to kd id h (c.length : Int) m d], 15) = some (Z0 fr to kd id h m (c ++ d)) := by
 have hl := E3 _ hS
 have hp := List.length_pos_iff.2 hne
 have S' := Ij _ hS (by rw [Int.zero_add]; exact H5 (A6 fr to kd id h) (x := (c.length : Int)) hd)
 obtain ⟨o2, _⟩ := Qr k G S' (by rw [List.length_append]; omega) (by simp) hk
 have hcd := Xvi _ S'
 cases S with
 | nil => exact absurd rfl hne
 | cons z S =>
  obtain ⟨m0, e0, c0, rfl, hce, _⟩ := hS
  have hlen : (A6 fr to kd id h 0 m0 e0 :: S ++ [A6 fr to kd id h (c.length : Int) m d]).length = S.length + 2 := by simp
  have hlen0 : (A6 fr to kd id h 0 m0 e0 :: S).length = S.length + 1 := rfl
  rw [hlen0] at hl
  have he0 : e0.length ≤ 48 := by
   have e3 := congrArg List.length hce
   rw [List.length_append] at e3
   omega
  have g0 : Ap (t := Ac) (A6 fr to kd id h 0 m0 e0 :: S ++ [A6 fr to kd id h (c.length : Int) m d]) 0 = A6 fr to kd id h 0 m0 e0 := rfl
  have w : IntKind.i64.wrap (((S.length + 2 : Nat) : Int) - 1) = ((S.length + 1 : Nat) : Int) := by rw [i64_in _ (by omega)]; omega
  have hg : Ap (t := Ac) (A6 fr to kd id h 0 m0 e0 :: S ++ [A6 fr to kd id h (c.length : Int) m d]) ((S.length + 1 : Nat) : Int) = A6 fr to kd id h (c.length : Int) m d := by
   rw [As _ (S.length + 1) (by rw [hlen]; omega)]; simp
  constructor
  ·have lp := Xi0 k fr to kd id h (A6 fr to kd id h 0 m0 e0 :: S ++ [A6 fr to kd id h (c.length : Int) m d]) (by rw [hlen]; omega) k [] (A6 fr to kd id h 0 m0 e0 :: S ++ [A6 fr to kd id h (c.length : Int) m d]) [] (c ++ d) rfl hcd (by rw [List.length_nil, List.length_append]; omega) (by rw [hlen]; omega)
   unfold Xhh Uo Z0; (try dsimp only [A1, Bb])
   rw [hlen, w, hg, g0]
   refine (bs o2).trans ((cf rfl).trans ((ct (decide_eq_true (by omega))).trans ((ct (decide_eq_true (by omega))).trans ?_)))
   cases m with
   | true => rfl
   | false => exact (cf rfl).trans ((ct (decide_eq_true (by omega))).trans lp)
  ·have lp := Xil k fr to kd id h (A6 fr to kd id h 0 m0 e0 :: S) (A6 fr to kd id h (c.length : Int) m d) (A6 fr to kd id h 0 m0 e0 :: S ++ [A6 fr to kd id h (c.length : Int) m d]) rfl (by rw [hlen]; omega) m0 k [] (A6 fr to kd id h 0 m0 e0 :: S ++ [A6 fr to kd id h (c.length : Int) m d]) [] (c ++ d) rfl hcd (by rw [List.length_nil, List.length_append]; omega) (by rw [hlen]; omega)
   unfold Xh3 Vn Z0; (try dsimp only)
   rw [g0, hlen]
   exact (ct (decide_eq_true (by omega))).trans ((bs (G4 k (A6 fr to kd id h 0 m0 e0) (show e0.length ≤ 1048576 by omega))).trans lp)
theorem Xu7 (k : Nat) (S : Cl) (p : den Ac) (hS : Xej S p.2.2.2.2.2.1) (hSl : S.length ≤ 1000) : ∀ (n j : Nat), j ≤ S.length → S.length - j < n → Jn k S p n (j : Int) p = some (-1, p) ∧ Ei k S p n (j : Int) p = some (-1, p)
 | 0, j, _, h => by omega
 | n + 1, j, hj, h => by
  rw [Jn, Ei]
  unfold Jq Fg; (try dsimp only [A1])
  rcases Nat.lt_or_ge j S.length with hlt | hge
  ·have d1 : decide ((j : Int) < (S.length : Int)) = true := decide_eq_true (by omega)
   have d0 : decide ((0 : Int) ≤ (j : Int)) = true := decide_eq_true (by omega)
   have hz := hS _ (List.getElem_mem hlt)
   obtain ⟨i1, i2⟩ := Xu7 k S p hS hSl n (j + 1) hlt (by omega)
   rw [As S j hlt, Kr j (by omega)]
   have e1 : Xgx k S[j] p = some (false, p) := by
    unfold Xgx Wm; (try dsimp only)
    exact (cf (beq_eq_false_iff_ne.2 (Int.ne_of_lt hz))).trans rfl
   have e2 : Xf6 k S[j] p = some (false, p) := by
    unfold Xf6; (try dsimp only)
    rw [show decide (S[j].2.2.2.2.2.1 > p.2.2.2.2.2.1) = false from decide_eq_false (Int.not_lt.2 (Int.le_of_lt hz))]
   exact ⟨(ct d1).trans ((ct d0).trans ((ct d1).trans ((bs e1).trans ((cf rfl).trans i1)))), (ct d1).trans ((ct d0).trans ((ct d1).trans ((bs e2).trans ((cf rfl).trans i2))))⟩
  ·have c : decide ((j : Int) < (S.length : Int)) = false := decide_eq_false (by omega)
   exact ⟨(cf c).trans rfl, (cf c).trans rfl⟩
theorem X3e (k : Nat) {fr to kd id h : Int} (G : Gk fr to kd id h) {S : Cl} {c : A0} (hS : Ch (A6 fr to kd id h) 0 S c true) {m : Bool} {d : A0} (hd : m = true → d ≠ []) (hc : c.length + d.length ≤ 48) (hne : S ≠ []) (hk : 1048576 < k) :
  Xia k (S, 15) (A6 fr to kd id h (c.length : Int) m d) = some ((S ++ [A6 fr to kd id h (c.length : Int) m d], 15), true) := by
 have hl := E3 _ hS
 have hp := List.length_pos_iff.2 hne
 have S' := Ij _ hS (by rw [Int.zero_add]; exact H5 (A6 fr to kd id h) (x := (c.length : Int)) hd)
 have hc' : (c ++ d).length ≤ 48 := by rw [List.length_append]; omega
 obtain ⟨_, o2⟩ := Qr k G S' hc' (by simp) hk
 have ah := Mh hS
 rw [Int.zero_add] at ah
 obtain ⟨i1, i2⟩ := Xu7 k S (A6 fr to kd id h (c.length : Int) m d) ah (by omega) k 0 (Nat.zero_le _) (by omega)
 have e1 : Xgo k S (A6 fr to kd id h (c.length : Int) m d) = some (false, A6 fr to kd id h (c.length : Int) m d) := by
  unfold Xgo; (try dsimp only)
  exact (bs i1).trans rfl
 have e3 : Xce k S = some S := by
  unfold Xce Xm; (try dsimp only [Bh])
  exact (cf (decide_eq_false (by omega))).trans ((ct (decide_eq_true (by rw [List.length_nil]; omega))).trans (by rw [List.nil_append]))
 have e4 : Xcj k S (S.length : Int) [A6 fr to kd id h (c.length : Int) m d] = some (S ++ [A6 fr to kd id h (c.length : Int) m d]) := by
  unfold Xcj Vy; (try dsimp only [Bh])
  refine (ct (by rw [decide_eq_true (by omega), decide_eq_true (by omega)]; rfl)).trans ((cf rfl).trans ((ct (beq_self_eq_true _)).trans ((ct (decide_eq_true (by rw [List.length_singleton]; omega))).trans rfl)))
 have e5 : Rr k (S ++ [A6 fr to kd id h (c.length : Int) m d], 15) = some (S ++ [A6 fr to kd id h (c.length : Int) m d], 15) := by
  unfold Rr; (try dsimp only)
  exact (bs (G9 k _ (by simp; omega) (Ln S' hc') hk)).trans rfl
 unfold Xia Wr; (try dsimp only [Bb])
 exact (bs e1).trans ((cf rfl).trans ((bs i2).trans ((ct rfl).trans ((bs e3).trans ((bs e4).trans ((bs o2).trans ((cf rfl).trans ((bs e5).trans rfl))))))))
end Go.Proofs.YtdmepjjepogddaaGreat.Gn
end

section
namespace Go.Proofs.YtdmepjjepogddaaGreat.Gn
open Go.Rf Go.IntWalk
set_option linter.unusedVariables false
set_option linter.unusedSimpArgs false
abbrev prL : Type := List (den Ax)
theorem Ub (k : Nat) (hk : 1048576 < k) : Ny k [] = some [] := by
 obtain ⟨n, rfl⟩ : ∃ n, k = n + 1 := ⟨k - 1, by omega⟩
 unfold Ny Ri; (try dsimp only)
 rw [Hk]
 unfold El; (try dsimp only [A1, Bh])
 exact (cf rfl).trans rfl
theorem Z2 (k : Nat) {T : Cl} (hT : T.length ≤ 1000) (hs : ∀ z ∈ T, z.2.2.2.2.2.2.2.2.length ≤ 1048576) (hk : 1048576 < k) : Ny k [(T, 15)] = some [(T, 15)] := by
 have e5 : Rr k (T, 15) = some (T, 15) := by
  unfold Rr; (try dsimp only)
  exact (bs (G9 k T (by omega) hs hk)).trans rfl
 obtain ⟨n, rfl⟩ : ∃ n, k = n + 1 + 1 := ⟨k - 2, by omega⟩
 unfold Ny Ri; (try dsimp only)
 rw [Hk]
 unfold El; (try dsimp only [A1, Bh])
 refine (ct rfl).trans ((ct rfl).trans ((ct rfl).trans ((bs e5).trans ((ct rfl).trans ?_))))
 rw [show IntKind.i64.wrap (0 + 1) = 1 by decide, Hk]
 unfold El; (try dsimp only [A1, Bh])
 exact (cf rfl).trans rfl
theorem Xvg (k : Nat) (hk : 1048576 < k) : Yn k [] 0 = some ([], 0) := by
 obtain ⟨n, rfl⟩ : ∃ n, k = n + 1 := ⟨k - 1, by omega⟩
 unfold Yn Px; (try dsimp only)
 have e : H6 (n + 1) [] 0 = some (-1, [], 0) := by
  unfold H6 Ii; (try dsimp only)
  rw [Df]
  unfold Cu; (try dsimp only [A1])
  exact (cf rfl).trans rfl
 exact (bs e).trans ((ct rfl).trans rfl)
theorem X3g (k : Nat) (T : Cl) (hk : 1048576 < k) : Yn k [(T, 15)] 0 = some ([(T, 15)], 0) := by
 obtain ⟨n, rfl⟩ : ∃ n, k = n + 1 + 1 := ⟨k - 2, by omega⟩
 unfold Yn Px; (try dsimp only)
 have e : H6 (n + 1 + 1) [(T, 15)] 0 = some (-1, [(T, 15)], 0) := by
  unfold H6 Ii; (try dsimp only)
  rw [Df]
  unfold Cu; (try dsimp only [A1])
  refine (ct rfl).trans ((ct rfl).trans ((ct rfl).trans ((bs (show Xpe (n + 1 + 1) (T, 15) 0 = some (false, 0) from rfl)).trans ((cf rfl).trans ?_))))
  rw [show IntKind.i64.wrap (0 + 1) = 1 by decide, Df]
  unfold Cu; (try dsimp only [A1])
  exact (cf rfl).trans rfl
 exact (bs e).trans ((ct rfl).trans rfl)
theorem X20 (k : Nat) (p : den Ac) (hk : 1048576 < k) : Ic k [] p = some (-1, [], p) := by
 obtain ⟨n, rfl⟩ : ∃ n, k = n + 1 := ⟨k - 1, by omega⟩
 unfold Ic Hz; (try dsimp only)
 rw [Eg]
 unfold Dp; (try dsimp only [A1])
 exact (cf rfl).trans rfl
theorem X22 (k : Nat) {fr to kd id h x : Int} {m : Bool} {d : A0} {S : Cl} (hS : ∀ z ∈ S, isG fr to kd id h z) (hne : 0 < S.length) (hk : 1048576 < k) : Ic k [(S, 15)] (A6 fr to kd id h x m d) = some (0, [(S, 15)], A6 fr to kd id h x m d) := by
 obtain ⟨n, rfl⟩ : ∃ n, k = n + 1 := ⟨k - 1, by omega⟩
 obtain ⟨y, m0, e0, hg⟩ := Vt hS hne
 unfold Ic Hz; (try dsimp only)
 rw [Eg]
 unfold Dp; (try dsimp only [A1])
 have e : Xgb (n + 1) (S, 15) (A6 fr to kd id h x m d) = some (true, A6 fr to kd id h x m d) := by
  unfold Xgb T3; (try dsimp only)
  rw [hg]
  exact (ct (decide_eq_true (by show (0 : Int) < (S.length : Int); omega))).trans ((bs (Xme (n + 1) fr to kd id h y x m0 m e0 d)).trans rfl)
 exact (ct rfl).trans ((ct rfl).trans ((ct rfl).trans ((bs e).trans ((ct rfl).trans rfl))))
theorem X2u (k : Nat) {fr to kd id h : Int} (G : Gk fr to kd id h) {c : A0} (hc : c.length ≤ 48) (hk : 1048576 < k) :
  F62 k [] (A6 fr to kd id h 0 false c) 0 = some ([], A6 fr to kd id h 0 false c, true) ∧ Qg k [] (A6 fr to kd id h 0 false c) 0 = some ([], A6 fr to kd id h 0 false c, true) := by
 have ok := G.ok (x := 0) (m := false) (d := c) (by omega) (by omega) (fun e => by cases e)
 have k1 : G2 k (A6 fr to kd id h 0 false c) = some true := by rw [C3, ok]
 have k2 : F89 k (A6 fr to kd id h 0 false c) = some true := by rw [Rj, ok]
 have o := Xw k hk
 have cp := L6 k (A6 fr to kd id h 0 false c) (show c.length ≤ 1048576 by omega)
 have cq := G4 k (A6 fr to kd id h 0 false c) (show c.length ≤ 1048576 by omega)
 constructor
 ·obtain ⟨n, rfl⟩ : ∃ n, k = n + 1 := ⟨k - 1, by omega⟩
  unfold F62 Td; (try dsimp only)
  refine (bs o.1).trans ((cf rfl).trans ((bs k1).trans ((cf rfl).trans ((bs (Bp _ 0 0 999985)).trans ((cf rfl).trans ((ct rfl).trans ?_))))))
  rw [Ha]
  unfold Dn; (try dsimp only [A1, Bh])
  exact (cf rfl).trans ((ct rfl).trans ((bs cp).trans rfl))
 ·unfold Qg M0; (try dsimp only)
  exact (bs o.2).trans ((cf rfl).trans ((bs k2).trans ((cf rfl).trans ((bs (Cp k 0 0 999985)).trans ((cf rfl).trans ((bs (Ub k hk)).trans ((bs (Xvg k hk)).trans ((ct rfl).trans ((ct rfl).trans ((bs (Ub k hk)).trans ((bs cq).trans rfl)))))))))))
theorem X3u (k : Nat) {fr to kd id h : Int} (G : Gk fr to kd id h) {d : A0} (hd : d ≠ []) (hc : d.length ≤ 48) (hk : 1048576 < k) :
  F62 k [] (A6 fr to kd id h 0 true d) 0 = some ([([A6 fr to kd id h 0 true d], 15)], noP, false) ∧ Qg k [] (A6 fr to kd id h 0 true d) 0 = some ([([A6 fr to kd id h 0 true d], 15)], noP, false) := by
 have ok := G.ok (x := 0) (m := true) (d := d) (by omega) (by omega) (fun _ => hd)
 have k1 : G2 k (A6 fr to kd id h 0 true d) = some true := by rw [C3, ok]
 have k2 : F89 k (A6 fr to kd id h 0 true d) = some true := by rw [Rj, ok]
 have o := Xw k hk
 have cp := L6 k (A6 fr to kd id h 0 true d) (show d.length ≤ 1048576 by omega)
 have w15 : IntKind.i64.wrap (0 + 15) = 15 := by decide
 constructor
 ·obtain ⟨n, rfl⟩ : ∃ n, k = n + 1 := ⟨k - 1, by omega⟩
  unfold F62 Td; (try dsimp only)
  refine (bs o.1).trans ((cf rfl).trans ((bs k1).trans ((cf rfl).trans ((bs (Bp _ 0 0 999985)).trans ((cf rfl).trans ((ct rfl).trans ?_))))))
  rw [Ha]
  unfold Dn; (try dsimp only [A1, Bh])
  rw [w15]
  exact (cf rfl).trans ((cf rfl).trans ((ct rfl).trans ((bs cp).trans ((ct rfl).trans ((cf rfl).trans rfl)))))
 ·have p1 := Z2 k (T := [A6 fr to kd id h 0 true d]) (by simp) (fun z hz => by obtain rfl := List.mem_singleton.1 hz; show d.length ≤ 1048576; omega) hk
  unfold Qg M0; (try dsimp only)
  refine (bs o.2).trans ((cf rfl).trans ((bs k2).trans ((cf rfl).trans ((bs (Cp k 0 0 999985)).trans ((cf rfl).trans ((bs (Ub k hk)).trans ((bs (Xvg k hk)).trans ((ct rfl).trans ((cf rfl).trans ?_)))))))))
  unfold L0; (try dsimp only [A1, Bh])
  refine (bs (X20 k _ hk)).trans ((ct rfl).trans ((ct rfl).trans ?_))
  dsimp only
  rw [w15]
  have w2 : IntKind.i64.wrap (((([] ++ [([A6 fr to kd id h 0 true d], 15)] : prL)).length : Int) - 3) = -2 := by show IntKind.i64.wrap (1 - 3) = -2; decide
  rw [w2]
  exact (ct rfl).trans ((bs p1).trans rfl)
theorem X3a (k : Nat) {fr to kd id h : Int} (G : Gk fr to kd id h) {S : Cl} {c : A0} (hS : Ch (A6 fr to kd id h) 0 S c true) {m : Bool} {d : A0} (hd : m = true → d ≠ []) (hc : c.length + d.length ≤ 48) (hne : S ≠ []) (hk : 1048576 < k) :
  F62 k [(S, 15)] (A6 fr to kd id h (c.length : Int) m d) 0 = some (cond m [(S ++ [A6 fr to kd id h (c.length : Int) m d], 15)] [], (Z0 fr to kd id h m (c ++ d)).1, (Z0 fr to kd id h m (c ++ d)).2) ∧
  Qg k [(S, 15)] (A6 fr to kd id h (c.length : Int) m d) 0 = some (cond m [(S ++ [A6 fr to kd id h (c.length : Int) m d], 15)] [], (Z0 fr to kd id h m (c ++ d)).1, (Z0 fr to kd id h m (c ++ d)).2) := by
 have hl := E3 _ hS
 have hp := List.length_pos_iff.2 hne
 have hcp : 0 < c.length := by
  have := Mh hS
  cases S with
  | nil => exact absurd rfl hne
  | cons z S =>
   obtain ⟨m0, e0, c0, rfl, rfl, h | h⟩ := hS
   ·have := List.length_pos_iff.2 h.2.1
    rw [List.length_append]; omega
   ·exact absurd h.2.2.2 (by decide)
 have ok := G.ok (x := (c.length : Int)) (m := m) (d := d) (by omega) (by omega) hd
 have k1 : G2 k (A6 fr to kd id h (c.length : Int) m d) = some true := by rw [C3, ok]
 have k2 : F89 k (A6 fr to kd id h (c.length : Int) m d) = some true := by rw [Rj, ok]
 have o := Xjx k G hS (by omega) hne hk
 obtain ⟨y, m0, e0, hg⟩ := Vt (Wa hS) hp
 have pc := X1h k G hS hd hc hne hk
 have pi := X3e k G hS hd hc hne hk
 have wh := Xq7 k G hS hd hc hne hk
 have S' := Ij _ hS (by rw [Int.zero_add]; exact H5 (A6 fr to kd id h) (x := (c.length : Int)) hd)
 have hc' : (c ++ d).length ≤ 48 := by rw [List.length_append]; omega
 have p1 := Z2 k (T := S) (by omega) (Ln hS (by omega)) hk
 have p2 := Z2 k (T := S ++ [A6 fr to kd id h (c.length : Int) m d]) (by simp; omega) (Ln S' hc') hk
 have at0 : ((A6 fr to kd id h (c.length : Int) m d).2.2.2.2.2.1 == (0 : Int)) = false := beq_eq_false_iff_ne.2 (by show ¬ (c.length : Int) = 0; omega)
 have w1 : IntKind.i64.wrap (0 + 1) = 1 := by decide
 constructor
 ·obtain ⟨n, rfl⟩ : ∃ n, k = n + 1 + 1 := ⟨k - 2, by omega⟩
  unfold F62 Td; (try dsimp only)
  refine (bs o.1).trans ((cf rfl).trans ((bs k1).trans ((cf rfl).trans ((bs (Bp _ 0 0 999985)).trans ((cf rfl).trans ((cf at0).trans ?_))))))
  rw [Ha]
  unfold Dn; (try dsimp only [A1, Bh])
  rw [show Ap (t := Ax) [(S, 15)] 0 = (S, 15) from rfl, hg]
  refine (ct rfl).trans ((ct rfl).trans ((ct rfl).trans ((cf rfl).trans ((ct rfl).trans ((ct (decide_eq_true (by show (0 : Int) < (S.length : Int); omega))).trans ((bs (Xo _ fr to kd id h y (c.length : Int) m0 m e0 d)).trans ((ct rfl).trans ((bs pc).trans ((bs wh.1).trans ((ct rfl).trans ?_))))))))))
  rw [w1]
  cases m with
  | true =>
   refine (ct rfl).trans ((ct rfl).trans ?_)
   rw [Ha]
   unfold Dn; (try dsimp only [A1, Bh])
   exact (cf rfl).trans ((cf rfl).trans ((cf rfl).trans ((cf rfl).trans rfl)))
  | false =>
   refine (cf rfl).trans ?_
   rw [Ha]
   unfold Dn; (try dsimp only [A1, Bh])
   exact (cf rfl).trans ((cf rfl).trans ((cf rfl).trans ((cf rfl).trans rfl)))
 ·unfold Qg M0; (try dsimp only)
  refine (bs o.2).trans ((cf rfl).trans ((bs k2).trans ((cf rfl).trans ((bs (Cp k 0 0 999985)).trans ((cf rfl).trans ((bs p1).trans ((bs (X3g k S hk)).trans ((cf at0).trans ?_))))))))
  unfold L0; (try dsimp only [A1, Bh])
  refine (bs (X22 k (Wa hS) hp hk)).trans ((cf rfl).trans ((ct rfl).trans ((ct rfl).trans ?_)))
  refine (bs pi).trans ((cf rfl).trans ((bs wh.2).trans ?_))
  cases m with
  | true => exact (cf rfl).trans ((ct rfl).trans ((ct rfl).trans ((bs p2).trans rfl)))
  | false =>
   dsimp only
   rw [w1]
   exact (ct rfl).trans ((bs (show Xsb k [(S, 15)] 0 1 = some [] from rfl)).trans ((bs (Ub k hk)).trans rfl))
end Go.Proofs.YtdmepjjepogddaaGreat.Gn
end

section
namespace Go.Proofs.YtdmepjjepogddaaGreat.Gn
open Go.Rf Go.IntWalk
set_option linter.unusedVariables false
set_option linter.unusedSimpArgs false
theorem Xov (k : Nat) {fr to kd id h : Int} (G : Gk fr to kd id h) (v : Fh) (w p q o : Int) (cc : A0) (t : den Cy) (ht : t.1.length ≤ 1000) (hk : 1048576 < k) : ∀ (n : Nat) (S R : Cl) (c1 c2 : A0), t.1 = S ++ R → Ch (A6 fr to kd id h) 0 S c1 true → Ch (A6 fr to kd id h) (c1.length : Int) R c2 false → c1.length + c2.length ≤ 48 → R.length < n →
  Hb k v w p q o cc n (S.length : Int) t (if S = [] then [] else [(S, 15)]) = some (c1 ++ c2, true) ∧ Iy k v w p q o cc n (t.1.length : Int) (S.length : Int) t.1 (if S = [] then [] else [(S, 15)]) = some (c1 ++ c2, true)
 | 0, _, _, _, _, _, _, _, _, h => by omega
 | n + 1, S, [], c1, c2, _, _, hR, _, _ => absurd hR.2 (by decide)
 | n + 1, S, r :: R, c1, c2, hT, hS, hR, hc, hn => by
  obtain ⟨m, d, c3, rfl, rfl, hR⟩ := hR
  rw [List.length_append] at hc
  have hd : m = true → d ≠ [] := fun e => by
   rcases hR with h2 | h2
   ·exact h2.2.1
   ·rw [h2.1] at e; cases e
  have hj : S.length < t.1.length := by rw [hT]; simp
  have hg : Ap (t := Ac) t.1 (S.length : Int) = A6 fr to kd id h (c1.length : Int) m d := by rw [As t.1 S.length hj]; simp [hT]
  have d1 : decide ((S.length : Int) < (t.1.length : Int)) = true := decide_eq_true (by omega)
  have d0 : decide ((0 : Int) ≤ (S.length : Int)) = true := decide_eq_true (by omega)
  have one := H5 (A6 fr to kd id h) (x := 0 + (c1.length : Int)) hd
  have S' := Ij _ hS one
  rw [Int.zero_add] at S'
  have he : ∃ q1 : den Ac, q1.2.2.2.2.2.2.2.2 = c1 ++ d ∧ (F62 k (if S = [] then [] else [(S, 15)]) (A6 fr to kd id h (c1.length : Int) m d) 0 = some (cond m ([(S ++ [A6 fr to kd id h (c1.length : Int) m d], 15)], noP, false) ([], q1, true))) ∧
    (Qg k (if S = [] then [] else [(S, 15)]) (A6 fr to kd id h (c1.length : Int) m d) 0 = some (cond m ([(S ++ [A6 fr to kd id h (c1.length : Int) m d], 15)], noP, false) ([], q1, true))) := by
   by_cases hs : S = []
   ·subst hs
    obtain ⟨rfl, _⟩ := hS
    rw [if_pos rfl]
    cases m with
    | true =>
     obtain ⟨b1, b2⟩ := X3u k G (hd rfl) (by omega) hk
     exact ⟨(0, 0, 0, 0, 0, 0, false, false, [] ++ d), rfl, b1, b2⟩
    | false =>
     obtain ⟨b1, b2⟩ := X2u k G (c := d) (by omega) hk
     exact ⟨A6 fr to kd id h 0 false d, rfl, b1, b2⟩
   ·rw [if_neg hs]
    obtain ⟨b1, b2⟩ := X3a k G hS hd (by omega) hs hk
    refine ⟨(fr, to, kd, h, id, 0, false, false, c1 ++ d), rfl, ?_, ?_⟩
    ·rw [b1]; cases m <;> rfl
    ·rw [b2]; cases m <;> rfl
  obtain ⟨q1, hq, h1, h2⟩ := he
  rw [Hb, Iy]
  unfold F3 Ih; (try dsimp only [A1, Bh])
  rw [hg, h1, h2, Kr S.length (by omega)]
  rcases hR with ⟨rfl, _, h3⟩ | ⟨rfl, rfl, rfl, _⟩
  ·have ih := Xov k G v w p q o cc t ht hk n (S ++ [A6 fr to kd id h (c1.length : Int) true d]) R (c1 ++ d) c3 (by rw [hT]; simp) S' (by rw [List.length_append, Int.natCast_add]; exact h3) (by rw [List.length_append]; omega) (by simp at hn; omega)
   rw [if_neg (by simp), List.append_assoc, show (((S ++ [A6 fr to kd id h (c1.length : Int) true d]).length : Nat) : Int) = ((S.length + 1 : Nat) : Int) by simp] at ih
   exact ⟨(ct d1).trans ((ct d0).trans ((ct d1).trans ((bs rfl).trans ((cf rfl).trans ih.1)))), (ct d1).trans ((ct d0).trans ((ct d1).trans ((bs rfl).trans ((cf rfl).trans ih.2))))⟩
  ·have hl : q1.2.2.2.2.2.2.2.2.length ≤ 48 := by rw [hq, List.length_append]; simp at hc; omega
   refine ⟨(ct d1).trans ((ct d0).trans ((ct d1).trans ((bs rfl).trans ((ct rfl).trans ((ct (decide_eq_true (by show (0 + q1.2.2.2.2.2.2.2.2.length) * 1 ≤ _; omega))).trans ?_))))), (ct d1).trans ((ct d0).trans ((ct d1).trans ((bs rfl).trans ((ct rfl).trans ((bs (Pf k _ (show q1.2.2.2.2.2.2.2.2.length ≤ 4194304 by omega))).trans ?_)))))⟩
   ·rw [List.append_nil, ← hq]; rfl
   ·rw [List.append_nil, ← hq]
theorem sent (q : Nat) {v : Fh} {a : Nat} {s : den sta} (hs : v[a]? = some s) {to kd id : Int} {c : A0} (hv : ∀ s ∈ v, StaOk (q + 4) s) (hvl : v.length ≤ 5) (hto : 0 ≤ to ∧ to ≤ 65535) (hkd : 0 ≤ kd ∧ kd ≤ 255) (hid : 0 ≤ id ∧ id ≤ 255) (hc : c.length ≤ 48) (hb : BOk c) (hk : 1048576 < q + 4) (hN : F59 (q + 4) v = some true) :
  ∃ t : den Cy, F61 (q + 4) v (a : Int) (s.1, to, kd, 64, id, 0, false, false, c) = some t ∧ Xgk (q + 4) v (a : Int) (s.1, to, kd, 64, id, 0, false, false, c) = some t ∧ ((t.1 = [] ∧ P7 v to 64 a = false) ∨ (∃ h : Int, (0 ≤ h ∧ h ≤ 64) ∧ Ch (A6 s.1 to kd id h) 0 t.1 c false) ∧ P7 v to 64 a = true) := by
 obtain ⟨hi, hse⟩ := List.getElem?_eq_some_iff.1 hs
 have sk := hv _ (List.getElem_mem hi)
 rw [hse] at sk
 have hfr : 0 ≤ (s.1 : Int) ∧ (s.1 : Int) ≤ 65535 := Be sk.at1
 have ok : Kc (s.1, to, kd, 64, id, 0, false, false, c) = true := N8 hfr hto hkd (by omega) hid (by omega) hc (fun e => by cases e) (fun e => by cases e)
 obtain ⟨t, t1, t2, _⟩ := trav q v (a : Int) (s.1, to, kd, 64, id, 0, false, false, c) hv hvl hk 12288 (q + 4) (q + 4) 0 ([], [], 0) [(a : Int)] [(s.1, to, kd, 64, id, 0, false, false, c)] rfl (by simp) (fun x hx => by
   have e : x = (a : Int) := by simpa using hx
   rw [e]; show (0 : Int) ≤ (a : Int) ∧ (a : Int) < (v.length : Int); omega) (fun r hr => by
   have e := List.mem_singleton.1 (show r ∈ [((s.1, to, kd, 64, id, 0, false, false, c) : den Ac)] from hr)
   rw [e]; exact ⟨ok, hb⟩) (by
   have := X4a ok
   rw [List.drop_zero]
   simp only [Hr]
   omega) (by omega) (by omega) (by omega) (by simp) (by simp) (fun r h => by cases h) (fun r h => by cases h) (by show (0 : Int) ≤ 0 ∧ (0 : Int) + ((12288 : Nat) : Int) ≤ 20000; omega)
 have I : Inv v s.1 to kd id c (P7 v to 64 a) (([], [], 0) : den Cy).1 [((a : Int), s.1, to, kd, 64, id, 0, false, false, c)] :=
  Xfn (fr := s.1) (to := to) (kd := kd) (id := id) (c := c) (a := a) (h := 64) (A := [A6 s.1 to kd id 64 0 false c]) hi (by omega) (H5 _ (fun e => by cases e))
 refine ⟨t, ?_, ?_, Pj q (a : Int) (s.1, to, kd, 64, id, 0, false, false, c) hv hvl hk hfr hto hkd hid hc hb (q + 4) ([], [], 0) _ t _ I t2⟩
 ·unfold F61 Xz; (try dsimp only [Aw])
  have p1 := C3 (q + 4) (s.1, to, kd, 64, id, 0, false, false, c)
  rw [ok] at p1
  have wl1 : IntKind.i64.wrap ((v.length : Int) - 1) = (v.length : Int) - 1 := i64_in _ (by omega)
  have i1 := Bp (q + 4) (a : Int) 0 (IntKind.i64.wrap ((v.length : Int) - 1))
  rw [wl1, B3 (show (0 : Int) ≤ (a : Int) ∧ (a : Int) ≤ (v.length : Int) - 1 by omega)] at i1
  rw [wl1]
  exact (bs hN).trans ((cf rfl).trans ((bs p1).trans ((cf rfl).trans ((bs i1).trans ((cf rfl).trans t1)))))
 ·unfold Xgk Tv; (try dsimp only [Aw])
  exact t2
theorem Xas (q : Nat) {v : Fh} (w p kd id : Int) {c : A0} (hl : v.length ≤ 1048576) (hs : Rh v ≤ 1048576) (hb : BOk c) (hcl : c.length ≤ 1048576) (hk : 1048576 < q + 4) :
  ∃ r : A0 × Bool, F13 (q + 4) v w p kd id c = some r ∧ F16 (q + 4) v w p kd id c = some r ∧ (r = ([], false) ∨ r = (c, true)) ∧ r.1.length ≤ 48 ∧ (r.2 = true ↔ F59 (q + 4) v = some true ∧ c.length ≤ 48 ∧ inB p 0 65535 = true ∧ inB kd 0 255 = true ∧ inB id 0 255 = true ∧ ∃ a : Nat, w = (a : Int) ∧ a < v.length ∧ P7 v p 64 a = true) := by
 obtain ⟨b, n1, n2, n3⟩ := Xiw q v hl hs hk
 have i1 := Bp (q + 4) w 0 (IntKind.i64.wrap ((v.length : Int) - 1))
 have i2 := Cp (q + 4) w 0 (IntKind.i64.wrap ((v.length : Int) - 1))
 have wl1 : IntKind.i64.wrap ((v.length : Int) - 1) = (v.length : Int) - 1 := i64_in _ (by omega)
 have w1 := G7 (q + 4) p
 have w2 := Cp (q + 4) kd 0 255
 have w3 := Cp (q + 4) id 0 255
 have no : ∀ x : Option (A0 × Bool), x = some ([], false) → x = some ([], false) := fun _ h => h
 unfold F13 Xd5 F16 Xe3; (try dsimp only [A1])
 cases b with
 | false => exact ⟨_, (bs n1).trans ((ct rfl).trans rfl), (bs n2).trans ((ct rfl).trans rfl), .inl rfl, by simp, iff_of_false (by decide) (fun h => by have h1 := h.1; rw [n1] at h1; cases h1)⟩
 | true =>
  cases hw : inB w 0 (IntKind.i64.wrap ((v.length : Int) - 1)) with
  | false =>
   rw [hw] at i1 i2
   exact ⟨_, (bs n1).trans ((cf rfl).trans ((bs i1).trans ((ct rfl).trans rfl))), (bs n2).trans ((cf rfl).trans ((bs i2).trans ((ct rfl).trans rfl))), .inl rfl, by simp, iff_of_false (by decide) (fun h => by
    obtain ⟨_, _, _, _, _, a, e, ha, _⟩ := h
    rw [wl1, e, B3 (show (0 : Int) ≤ (a : Int) ∧ (a : Int) ≤ (v.length : Int) - 1 by omega)] at hw
    cases hw)⟩
  | true =>
   rw [hw] at i1 i2
   rw [wl1] at hw
   have hw := Be hw
   obtain ⟨a, rfl⟩ : ∃ i : Nat, w = (i : Int) := ⟨w.toNat, by omega⟩
   have ha : a < v.length := by omega
   have d1 : decide ((a : Int) < (v.length : Int)) = true := decide_eq_true (by omega)
   have d0 : decide ((0 : Int) ≤ (a : Int)) = true := decide_eq_true (by omega)
   by_cases hc : ¬ c.length ≤ 48
   ·have c1 : decide ((c.length : Int) > 48) = true := decide_eq_true (by omega)
    refine ⟨([], false), (bs n1).trans ((cf rfl).trans ((bs i1).trans ((cf rfl).trans ((ct c1).trans rfl)))), (bs n2).trans ((cf rfl).trans ((bs i2).trans ((cf rfl).trans ((bs w1).trans ?_)))), .inl rfl, by simp, iff_of_false (by decide) (fun h => hc h.2.1)⟩
    cases inB p 0 65535; · rfl
    refine (cf rfl).trans ((bs w2).trans ?_)
    cases inB kd 0 255; · rfl
    refine (cf rfl).trans ((bs w3).trans ?_)
    cases inB id 0 255; · rfl
    exact (cf rfl).trans ((ct c1).trans rfl)
   ·replace hc := Decidable.not_not.1 hc
    have c1 : decide ((c.length : Int) > 48) = false := decide_eq_false (by omega)
    have hg := As v a ha
    obtain ⟨h1, h2⟩ := n3 rfl
    have sk := h1 _ (List.getElem_mem ha)
    have hfr := Be sk.at1
    by_cases hok : inB p 0 65535 = true ∧ inB kd 0 255 = true ∧ inB id 0 255 = true
    ·obtain ⟨o1, o2, o3⟩ := hok
     rw [o1] at w1; rw [o2] at w2; rw [o3] at w3
     obtain ⟨t, t1, t2, t3⟩ := sent q (List.getElem?_eq_getElem ha) h1 h2 (Be o1) (Be o2) (Be o3) hc hb hk n1
     have Po : ∃ r : A0 × Bool, Hb (q + 4) v (a : Int) p kd id c (q + 4) 0 t [] = some r ∧ Iy (q + 4) v (a : Int) p kd id c (q + 4) (t.1.length : Int) 0 t.1 [] = some r ∧ ((r = ([], false) ∧ P7 v p 64 a = false) ∨ (r = (c, true) ∧ P7 v p 64 a = true)) := by
      rcases t3 with ⟨e, hβ⟩ | ⟨⟨h, hh, hC⟩, hβ⟩
      ·refine ⟨([], false), ?_, ?_, .inl ⟨rfl, hβ⟩⟩
       ·rw [Hb]
        unfold F3; (try dsimp only [A1, Bh])
        rw [e]
        exact (cf rfl).trans rfl
       ·rw [e, Iy]
        unfold Ih; (try dsimp only [A1])
        exact (cf rfl).trans rfl
      ·have hlen := E3 _ hC
       have G : Gk v[a].1 p kd id h := ⟨hfr, Be o1, Be o2, Be o3, hh⟩
       have := Xov (q + 4) G v (a : Int) p kd id c t (by omega) hk (q + 4) [] t.1 [] c rfl ⟨rfl, rfl⟩ hC (by simpa using hc) (by omega)
       exact ⟨(c, true), this.1, this.2, .inr ⟨rfl, hβ⟩⟩
     obtain ⟨r, r1, r2, r3⟩ := Po
     refine ⟨r, (bs n1).trans ((cf rfl).trans ((bs i1).trans ((cf rfl).trans ((cf c1).trans ((ct d0).trans ((ct d1).trans ?_)))))), (bs n2).trans ((cf rfl).trans ((bs i2).trans ((cf rfl).trans ((bs w1).trans ((cf rfl).trans ((bs w2).trans ((cf rfl).trans ((bs w3).trans ((cf rfl).trans ((cf c1).trans ((bs ?_).trans rfl))))))))))), r3.imp (·.1) (·.1), ?_, ?_⟩
     ·rw [hg]
      exact (bs t1).trans r1
     ·unfold F66 Xeq; (try dsimp only [A1])
      rw [hg]
      exact (ct d0).trans ((ct d1).trans ((bs t2).trans r2))
     ·rcases r3 with ⟨rfl, _⟩ | ⟨rfl, _⟩
      ·simp
      ·exact hc
     ·rcases r3 with ⟨rfl, hβ⟩ | ⟨rfl, hβ⟩
      ·refine iff_of_false (by decide) (fun h => ?_)
       obtain ⟨_, _, _, _, _, a', e, _, h7⟩ := h
       obtain rfl : a = a' := by omega
       rw [hβ] at h7
       cases h7
      ·exact iff_of_true rfl ⟨n1, hc, o1, o2, o3, a, rfl, ha, hβ⟩
    ·have po : Kc (v[a].1, p, kd, 64, id, 0, false, false, c) = false := by
      cases ho : Kc (v[a].1, p, kd, 64, id, 0, false, false, c) with
      | false => rfl
      | true =>
       obtain ⟨_, q1, q2, _, q4, _⟩ := Cm ho
       exact absurd ⟨B3 q1, B3 q2, B3 q4⟩ hok
     have p1 := C3 (q + 4) (v[a].1, p, kd, 64, id, 0, false, false, c)
     rw [po] at p1
     have tr : F61 (q + 4) v (a : Int) (v[a].1, p, kd, 64, id, 0, false, false, c) = some ([], [], 0) := by
      unfold F61 Xz; (try dsimp only [Aw])
      exact (bs n1).trans ((cf rfl).trans ((bs p1).trans ((ct rfl).trans rfl)))
     refine ⟨([], false), (bs n1).trans ((cf rfl).trans ((bs i1).trans ((cf rfl).trans ((cf c1).trans ((ct d0).trans ((ct d1).trans ?_)))))), (bs n2).trans ((cf rfl).trans ((bs i2).trans ((cf rfl).trans ((bs w1).trans ?_)))), .inl rfl, by simp, iff_of_false (by decide) (fun h => hok ⟨h.2.2.1, h.2.2.2.1, h.2.2.2.2.1⟩)⟩
     ·rw [hg]
      refine (bs tr).trans ?_
      rw [Hb]
      unfold F3; (try dsimp only [A1, Bh])
      exact (cf rfl).trans rfl
     ·cases o1 : inB p 0 65535; · rfl
      refine (cf rfl).trans ((bs w2).trans ?_)
      cases o2 : inB kd 0 255; · rfl
      refine (cf rfl).trans ((bs w3).trans ?_)
      cases o3 : inB id 0 255; · rfl
      exact absurd ⟨o1, o2, o3⟩ hok
end Go.Proofs.YtdmepjjepogddaaGreat.Gn
end

section
namespace Go.Proofs.YtdmepjjepogddaaGreat.Gn
open Go.Rf Go.IntWalk
set_option linter.unusedVariables false
set_option linter.unusedSimpArgs false
def N5 (v : Fh) (to : Int) : Nat → Nat → Bool
 | 0, _ => false
 | n + 1, a => (v[a]?).any fun s => @BEq.beq Int _ s.1 to || ((Dv v s to 2).any fun z => N5 v to n z.1.toNat)
theorem Xtq {v : Fh} {s : den sta} {to h : Int} (hh : 2 ≤ h) : Dv v s to h = Dv v s to 2 := by
 unfold Dv
 rw [decide_eq_false (by omega : ¬ h < 2)]
 rfl
theorem U7 (v : Fh) (to : Int) : ∀ (n a : Nat), P7 v to (n + 1) a = N5 v to (n + 1) a
 | 0, a => by
  rw [P7, N5]
  cases v[a]? with
  | none => rfl
  | some s =>
   rw [Option.any_some, Option.any_some]
   have e1 : Dv v s to ((0 + 1 : Nat) : Int) = none := rfl
   rw [e1]
   cases Dv v s to 2 with
   | none => rfl
   | some z => rfl
 | n + 1, a => by
  rw [P7, N5]
  cases v[a]? with
  | none => rfl
  | some s =>
   rw [Option.any_some, Option.any_some, Xtq (by omega)]
   cases Dv v s to 2 with
   | none => rfl
   | some z => rw [Option.any_some, Option.any_some, U7 v to n]
theorem Qx (v : Fh) (to : Int) : ∀ (n a : Nat), N5 v to n a = true → N5 v to (n + 1) a = true
 | 0, a, h => by cases h
 | n + 1, a, h => by
  rw [N5] at h ⊢
  cases hv : v[a]? with
  | none => rw [hv] at h; cases h
  | some s =>
   rw [hv, Option.any_some] at h
   rw [Option.any_some]
   cases hb : @BEq.beq Int _ s.1 to with
   | true => rfl
   | false =>
    rw [hb, Bool.false_or] at h
    rw [Bool.false_or]
    cases hz : Dv v s to 2 with
    | none => rw [hz] at h; cases h
    | some z =>
     rw [hz, Option.any_some] at h
     rw [Option.any_some]
     exact Qx v to n _ h
theorem Xph {α : Type} (P Q : α → Bool) (h : ∀ a, P a = true → Q a = true) : ∀ l : List α, l.countP P ≤ l.countP Q ∧ (l.countP P = l.countP Q → ∀ a ∈ l, Q a = true → P a = true)
 | [] => ⟨Nat.le_refl _, fun _ a ha => by cases ha⟩
 | x :: l => by
  obtain ⟨h1, h2⟩ := Xph P Q h l
  rw [List.countP_cons, List.countP_cons]
  cases hp : P x with
  | true =>
   rw [h x hp]
   refine ⟨by simp; omega, fun e a ha hq => ?_⟩
   rcases List.mem_cons.1 ha with rfl | ha
   ·exact hp
   ·exact h2 (by simpa using e) a ha hq
  | false =>
   cases hq : Q x with
   | true => exact ⟨by simp; omega, fun e => by simp at e; omega⟩
   | false =>
    refine ⟨by simpa using h1, fun e a ha hqa => ?_⟩
    rcases List.mem_cons.1 ha with rfl | ha
    ·rw [hq] at hqa; cases hqa
    ·exact h2 (by simpa using e) a ha hqa
def Xfk (v : Fh) (to : Int) (n : Nat) : Prop := ∀ a, a < v.length → N5 v to (n + 1) a = N5 v to n a
theorem X1b {v : Fh} {s : den sta} {to h : Int} {z : Int × Nat} (e : Dv v s to h = some z) : z.1.toNat < v.length := by
 obtain ⟨b, N⟩ := z
 obtain ⟨_, h2, h3⟩ := Yw e
 show b.toNat < _
 omega
theorem Xu {v : Fh} {to : Int} {n : Nat} (h : Xfk v to n) : ∀ m, n ≤ m → Xfk v to m
 | 0, hm => by
  obtain rfl : n = 0 := by omega
  exact h
 | m + 1, hm => by
  rcases Nat.eq_or_lt_of_le hm with rfl | hlt
  ·exact h
  ·have ih := Xu h m (by omega)
   intro a ha
   rw [N5, N5]
   cases v[a]? with
   | none => rfl
   | some s =>
    rw [Option.any_some, Option.any_some]
    cases hz : Dv v s to 2 with
    | none => rfl
    | some z => rw [Option.any_some, Option.any_some, ih _ (X1b hz)]
theorem Pw {v : Fh} {to : Int} {n : Nat} (h : Xfk v to n) {a : Nat} (ha : a < v.length) : ∀ d, N5 v to (n + d) a = N5 v to n a
 | 0 => rfl
 | d + 1 => by rw [← Nat.add_assoc, Xu h (n + d) (by omega) a ha]; exact Pw h ha d
theorem Yc (v : Fh) (to : Int) : ∀ n, n ≤ (List.range v.length).countP (N5 v to n) ∨ ∃ i, i < n ∧ Xfk v to i
 | 0 => .inl (Nat.zero_le _)
 | n + 1 => by
  rcases Yc v to n with h | ⟨i, h1, h2⟩
  ·obtain ⟨c1, c2⟩ := Xph (N5 v to n) (N5 v to (n + 1)) (fun a => Qx v to n a) (List.range v.length)
   by_cases e : (List.range v.length).countP (N5 v to n) = (List.range v.length).countP (N5 v to (n + 1))
   ·refine .inr ⟨n, by omega, fun a ha => ?_⟩
    have := c2 e a (List.mem_range.2 ha)
    cases h1 : N5 v to (n + 1) a with
    | true => exact (this h1).symm
    | false =>
     cases h2 : N5 v to n a with
     | false => rfl
     | true => rw [Qx v to n a h2] at h1; cases h1
   ·exact .inl (by omega)
  ·exact .inr ⟨i, by omega, h2⟩
theorem Xoq {v : Fh} {to : Int} (hl : v.length ≤ 5) {a : Nat} (ha : a < v.length) : N5 v to 64 a = N5 v to (v.length + 1) a := by
 rcases Yc v to (v.length + 1) with h | ⟨i, h1, h2⟩
 ·have := List.countP_le_length (p := N5 v to (v.length + 1)) (l := List.range v.length)
  rw [List.length_range] at this
  omega
 ·have e1 := Pw h2 ha (64 - i)
  have e2 := Pw h2 ha (v.length + 1 - i)
  rw [show i + (64 - i) = 64 by omega] at e1
  rw [show i + (v.length + 1 - i) = v.length + 1 by omega] at e2
  rw [e1, e2]
theorem Xl8 (q : Nat) (v : Fh) (w p : Int) (hv : ∀ s ∈ v, StaOk (q + 4) s) (hvl : v.length ≤ 5) (hp : inB p 0 65535 = true) (hk : 1048576 < q + 4) : ∀ (j n i a : Nat) (room : Int), i + j = v.length + 1 → j < n → a < v.length → 1 ≤ room → ∃ r : Int, G5 (q + 4) v w p n room (a : Int) (i : Int) = some r ∧ (r > 0 ↔ N5 v p j a = true)
 | _, 0, _, _, _, _, h, _, _ => by omega
 | 0, n + 1, i, a, room, hi, _, ha, hr => by
  rw [G5]
  unfold Ga; (try dsimp only [A1])
  rw [i64_in ((v.length : Int) + 1) (by omega)]
  exact ⟨0, (cf (decide_eq_false (by omega))).trans rfl, iff_of_false (by omega) (by rw [N5]; decide)⟩
 | j + 1, n + 1, i, a, room, hi, hn, ha, hr => by
  have sk := hv _ (List.getElem_mem ha)
  have d0 : decide ((0 : Int) ≤ (a : Int)) = true := decide_eq_true (by omega)
  have d1 : decide ((a : Int) < (v.length : Int)) = true := decide_eq_true (by omega)
  have n0 : decide ((a : Int) < 0) = false := decide_eq_false (by omega)
  rw [G5]
  unfold Ga; (try dsimp only [A1])
  rw [i64_in ((v.length : Int) + 1) (by omega), As v a ha, Kr i (by omega), N5, List.getElem?_eq_getElem ha, Option.any_some]
  have di : decide ((i : Int) < (v.length : Int) + 1) = true := decide_eq_true (by omega)
  cases hb : @BEq.beq Int _ v[a].1 p with
  | true => exact ⟨room, (ct di).trans ((cf n0).trans ((ct d0).trans ((ct d1).trans ((ct rfl).trans rfl)))), iff_of_true (by omega) rfl⟩
  | false =>
   rw [Bool.false_or]
   have fi' := Xbk (q + 4) v[a].2 p sk.len sk.ok
   have fm := L4 p 17 (l := v[a].2.reverse)
   have hh : Dv v v[a] p 2 = cond (Rt.Bq p 17 v[a].2.reverse).2 (cond (decide (fi (Rt.Bq p 17 v[a].2.reverse).1.2.2.1 v 0 ≥ 0)) (some (fi (Rt.Bq p 17 v[a].2.reverse).1.2.2.1 v 0, Int.toNat (Rt.Bq p 17 v[a].2.reverse).1.2.2.2)) none) none := rfl
   rw [hh]
   generalize Rt.Bq p 17 v[a].2.reverse = r at fi' fm
   obtain ⟨r, fd⟩ := r
   cases fd with
   | false => exact ⟨0, (ct di).trans ((cf n0).trans ((ct d0).trans ((ct d1).trans ((cf rfl).trans ((ct d0).trans ((ct d1).trans ((bs fi').trans ((ct rfl).trans rfl)))))))), iff_of_false (by omega) (by show ¬ (false = true); decide)⟩
   | true =>
    have hm := List.mem_reverse.1 (fm rfl)
    obtain ⟨r0, r1, gw, mtu⟩ := r
    have hmtu : @LE.le Int _ 1 mtu ∧ @LE.le Int _ mtu 48 := Be (J4 (sk.ok _ hm)).2.2.2
    have f4 := Uj (q + 4) v gw (by omega) hk
    have f5 := Yj gw v 0
    show ∃ r : Int, _ ∧ (r > 0 ↔ (cond (decide (fi gw v 0 ≥ 0)) (some (fi gw v 0, Int.toNat mtu)) none).any (fun z => N5 v p j z.1.toNat) = true)
    generalize fi gw v 0 = b at f4 f5 ⊢
    by_cases cb : b ≥ 0
    ·obtain ⟨b, rfl⟩ : ∃ i : Nat, b = (i : Int) := ⟨b.toNat, by omega⟩
     obtain ⟨z, z1, z2⟩ := Xl8 q v w p hv hvl hp hk j n (i + 1) b (if mtu < room then mtu else room) (by omega) (by omega) (by omega) (by split <;> omega)
     rw [decide_eq_true cb, cond_true, Option.any_some]
     exact ⟨z, (ct di).trans ((cf n0).trans ((ct d0).trans ((ct d1).trans ((cf rfl).trans ((ct d0).trans ((ct d1).trans ((bs fi').trans ((cf rfl).trans ((bs f4).trans z1))))))))), z2⟩
    ·rw [decide_eq_false cb]
     refine ⟨0, (ct di).trans ((cf n0).trans ((ct d0).trans ((ct d1).trans ((cf rfl).trans ((ct d0).trans ((ct d1).trans ((bs fi').trans ((cf rfl).trans ((bs f4).trans ?_))))))))), iff_of_false (by omega) (by show ¬ (false = true); decide)⟩
     obtain ⟨n, rfl⟩ : ∃ n', n = n' + 1 := ⟨n - 1, by omega⟩
     show G5 (q + 4) v w p (n + 1) _ b ((i + 1 : Nat) : Int) = some 0
     rw [G5]
     unfold Ga; (try dsimp only [A1])
     rw [i64_in ((v.length : Int) + 1) (by omega)]
     by_cases c : ((i + 1 : Nat) : Int) < (v.length : Int) + 1
     ·exact (ct (decide_eq_true c)).trans ((ct (decide_eq_true (by omega))).trans rfl)
     ·exact (cf (decide_eq_false c)).trans rfl
theorem Xt3 (q : Nat) (v : Fh) (w p : Int) (hl : v.length ≤ 1048576) (hs : Rh v ≤ 1048576) (hk : 1048576 < q + 4) : ∃ r : Int, F25 (q + 4) v w p = some r ∧ (r > 0 ↔ F59 (q + 4) v = some true ∧ inB p 0 65535 = true ∧ ∃ a : Nat, w = (a : Int) ∧ a < v.length ∧ P7 v p 64 a = true) := by
 obtain ⟨b, n1, n2, n3⟩ := Xiw q v hl hs hk
 have i2 := Cp (q + 4) w 0 (IntKind.i64.wrap ((v.length : Int) - 1))
 have wl1 : IntKind.i64.wrap ((v.length : Int) - 1) = (v.length : Int) - 1 := i64_in _ (by omega)
 have w1 := G7 (q + 4) p
 unfold F25 Xee; (try dsimp only)
 cases b with
 | false => exact ⟨0, (bs n2).trans ((ct rfl).trans rfl), iff_of_false (by omega) (fun h => by have h1 := h.1; rw [n1] at h1; cases h1)⟩
 | true =>
  cases hw : inB w 0 (IntKind.i64.wrap ((v.length : Int) - 1)) with
  | false =>
   rw [hw] at i2
   refine ⟨0, (bs n2).trans ((cf rfl).trans ((bs i2).trans ((ct rfl).trans rfl))), iff_of_false (by omega) (fun h => ?_)⟩
   obtain ⟨_, _, a, e, ha, _⟩ := h
   rw [wl1, e, B3 (show (0 : Int) ≤ (a : Int) ∧ (a : Int) ≤ (v.length : Int) - 1 by omega)] at hw
   cases hw
  | true =>
   rw [hw] at i2
   rw [wl1] at hw
   have hw := Be hw
   obtain ⟨a, rfl⟩ : ∃ i : Nat, w = (i : Int) := ⟨w.toNat, by omega⟩
   have ha : a < v.length := by omega
   cases hp : inB p 0 65535 with
   | false =>
    rw [hp] at w1
    exact ⟨0, (bs n2).trans ((cf rfl).trans ((bs i2).trans ((cf rfl).trans ((bs w1).trans ((ct rfl).trans rfl))))), iff_of_false (by omega) (fun h => by have h1 := h.2.1; cases h1)⟩
   | true =>
    rw [hp] at w1
    obtain ⟨h1, h2⟩ := n3 rfl
    obtain ⟨r, r1, r2⟩ := Xl8 q v (a : Int) p h1 h2 hp hk (v.length + 1) (q + 4) 0 a 48 (by omega) (by omega) ha (by omega)
    refine ⟨r, (bs n2).trans ((cf rfl).trans ((bs i2).trans ((cf rfl).trans ((bs w1).trans ((cf rfl).trans r1))))), r2.trans ⟨fun h => ⟨n1, rfl, a, rfl, ha, ?_⟩, fun h => ?_⟩⟩
    ·rw [U7 v p 63, Xoq h2 ha]; exact h
    ·obtain ⟨_, _, a', e, _, h7⟩ := h
     obtain rfl : a = a' := by omega
     rw [U7 v p 63, Xoq h2 ha] at h7
     exact h7
end Go.Proofs.YtdmepjjepogddaaGreat.Gn
end

section
namespace Go.Proofs.YtdmepjjepogddaaGreat.Gn
open Go.Rf Go.IntWalk
set_option linter.unusedVariables false
set_option linter.unusedSimpArgs false
def Sm {β : Type} (o : Option β) (P : β → Prop) : Prop := ∃ r, o = some r ∧ P r
theorem Sm.bind {α β : Type} {o : Option α} {f : α → Option β} {P : α → Prop} {Q : β → Prop} (h : Sm o P) (g : ∀ r, P r → Sm (f r) Q) : Sm (o.bind f) Q := by
 obtain ⟨r, e, p⟩ := h
 rw [e]
 exact g r p
theorem Sm.cond {β : Type} {c : Bool} {a b : Option β} {Q : β → Prop} (h1 : c = true → Sm a Q) (h2 : c = false → Sm b Q) : Sm (cond c a b) Q := by
 cases c
 ·exact h2 rfl
 ·exact h1 rfl
theorem Sm.ct {β : Type} {c : Bool} {a b : Option β} {Q : β → Prop} (hc : c = true) (h : Sm a Q) : Sm (_root_.cond c a b) Q := by rw [hc]; exact h
theorem Sm.cf {β : Type} {c : Bool} {a b : Option β} {Q : β → Prop} (hc : c = false) (h : Sm b Q) : Sm (_root_.cond c a b) Q := by rw [hc]; exact h
theorem Vj {t : Ty} {l : List (den t)} {i : Int} (h0 : 0 ≤ i) (h1 : i < (l.length : Nat)) : Ap l i ∈ l := by
 obtain ⟨j, rfl⟩ := Int.eq_ofNat_of_zero_le h0
 rw [As l j (by omega)]
 exact List.getElem_mem _
theorem Xgg (x y : Int) (hx : 0 ≤ x ∧ x < 2 ^ 50) (hy : 0 ≤ y ∧ y < 2 ^ 50) : 0 ≤ Ca .xor .i64 x y ∧ Ca .xor .i64 x y < 2 ^ 50 := by
 obtain ⟨a, rfl⟩ := Int.eq_ofNat_of_zero_le hx.1
 obtain ⟨b, rfl⟩ := Int.eq_ofNat_of_zero_le hy.1
 have ha : a < 2 ^ 50 := by omega
 have hb : b < 2 ^ 50 := by omega
 have h1 : (BitVec.ofInt 64 (a : Int) ^^^ BitVec.ofInt 64 (b : Int)).toNat = a ^^^ b := by
  rw [BitVec.toNat_xor]
  simp only [BitVec.ofInt_natCast, BitVec.toNat_ofNat]
  rw [Nat.mod_eq_of_lt (by omega), Nat.mod_eq_of_lt (by omega)]
 have h2 : a ^^^ b < 2 ^ 50 := Nat.xor_lt_two_pow ha hb
 have h3 : Ca .xor .i64 (a : Int) (b : Int) = ((a ^^^ b : Nat) : Int) := by
  show IntKind.i64.wrap (((BitVec.ofInt 64 (a : Int) ^^^ BitVec.ofInt 64 (b : Int)).toNat : Nat) : Int) = _
  rw [h1, i64_in _ (by omega)]
 rw [h3]
 omega
theorem Xev (k : Nat) (b : A0) (hb : BOk b) (hl : b.length ≤ 2000) (p n : Int) (hp : 0 ≤ p) (hp2 : p < 2 ^ 30) : ∃ r, K6 k (b, p) n = some (r, (b, p + 1)) ∧ 0 ≤ r ∧ (1 ≤ n → r < n) ∧ (n < 1 → r = 0) := by
 unfold K6 Xed; (try dsimp only [A1, u_0])
 rw [i64_in (p + 1) (by omega), show p + 1 - 1 = p by omega, i64_in p (by omega)]
 by_cases hn : n < 1
 ·rw [decide_eq_true hn]; exact ⟨0, rfl, by omega, by omega, fun _ => rfl⟩
 ·rw [decide_eq_false hn, cond_false]
  by_cases h0 : b.length = 0
  ·have : (((b.length : Nat) : Int) == 0) = true := by simp [h0]
   rw [this]; exact ⟨0, rfl, by omega, by omega, fun _ => rfl⟩
  ·have : (((b.length : Nat) : Int) == 0) = false := by simp [h0]
   rw [this, cond_false]
   have hpos : 0 < ((b.length : Nat) : Int) := by omega
   by_cases hlt : p < ((b.length : Nat) : Int)
   ·rw [decide_eq_true hlt, decide_eq_true hp, decide_eq_false (by omega : ¬ n = 0)]
    simp only [cond_true, cond_false]
    have hm := hb _ (Vj hp hlt)
    rw [i64_in (Ap b p) ⟨Int.le_trans (by decide) hm.1, Int.le_trans hm.2 (by decide)⟩]
    exact ⟨_, rfl, Int.tmod_nonneg _ hm.1, fun h => Int.tmod_lt_of_pos _ (by omega), by omega⟩
   ·rw [decide_eq_false hlt, decide_eq_false (by omega : ¬ ((b.length : Nat) : Int) = 0)]
    simp only [cond_false]
    rw [i64_in (p * 7) (by omega), i64_in (p * 7 + 3) (by omega)]
    have m1 : 0 ≤ p.tmod ((b.length : Nat) : Int) := Int.tmod_nonneg _ hp
    have m2 : p.tmod ((b.length : Nat) : Int) < ((b.length : Nat) : Int) := Int.tmod_lt_of_pos _ hpos
    have m3 : 0 ≤ (p * 7 + 3).tmod ((b.length : Nat) : Int) := Int.tmod_nonneg _ (by omega)
    have m4 : (p * 7 + 3).tmod ((b.length : Nat) : Int) < ((b.length : Nat) : Int) := Int.tmod_lt_of_pos _ hpos
    have m5 : 0 ≤ p.tdiv ((b.length : Nat) : Int) := Int.tdiv_nonneg hp (by omega)
    have m6 : p.tdiv ((b.length : Nat) : Int) ≤ p := Int.tdiv_le_self _ hp
    rw [decide_eq_true m1, decide_eq_true m2, decide_eq_true m3, decide_eq_true m4, decide_eq_false (by omega : ¬ n = 0)]
    simp only [cond_true, cond_false]
    have g1 := hb _ (Vj m1 m2)
    have g2 := hb _ (Vj m3 m4)
    obtain ⟨x1, hx1⟩ : ∃ x : Int, x = Ap b (p.tmod ((b.length : Nat) : Int)) := ⟨_, rfl⟩
    obtain ⟨x2, hx2⟩ : ∃ x : Int, x = Ap b ((p * 7 + 3).tmod ((b.length : Nat) : Int)) := ⟨_, rfl⟩
    rw [← hx1] at g1 ⊢
    rw [← hx2] at g2 ⊢
    generalize p.tdiv ((b.length : Nat) : Int) = q at *
    have g1 : 0 ≤ x1 ∧ x1 ≤ 255 := g1
    have g2 : 0 ≤ x2 ∧ x2 ≤ 255 := g2
    rw [i64_in x1 (by omega), i64_in x2 (by omega), i64_in (x1 * 131) (by omega), i64_in (x2 * 1117) (by omega), i64_in (x1 * 131 + x2 * 1117) (by omega), i64_in (p * 29) (by omega), i64_in (x1 * 131 + x2 * 1117 + p * 29) (by omega),
     i64_in q (by omega), i64_in (q * 53) (by omega), i64_in (x1 * 131 + x2 * 1117 + p * 29 + q * 53) (by omega)]
    generalize hX : x1 * 131 + x2 * 1117 + p * 29 + q * 53 = X
    have hX1 : 0 ≤ X ∧ X < 2 ^ 50 := by omega
    have d1 : 0 ≤ X.tdiv 64 := Int.tdiv_nonneg hX1.1 (by omega)
    have d2 : X.tdiv 64 ≤ X := Int.tdiv_le_self _ hX1.1
    rw [i64_in (X.tdiv 64) (by omega)]
    have hxo := Xgg X (X.tdiv 64) hX1 (by omega)
    exact ⟨_, rfl, Int.tmod_nonneg _ hxo.1, fun h => Int.tmod_lt_of_pos _ (by omega), by omega⟩
theorem pk {β : Type} (k : Nat) {b : A0} (hb : BOk b) (hl : b.length ≤ 2000) {p n : Int} (hp : 0 ≤ p) (hp2 : p < 1000000) (hn : 1 ≤ n) {f : Int × A0 × Int → Option β} {Q : β → Prop}
  (h : ∀ x : Int, 0 ≤ x → x < n → Sm (f (x, b, p + 1)) Q) : Sm ((K6 k (b, p) n).bind f) Q := by
 obtain ⟨r, e, h0, h1, _⟩ := Xev k b hb hl p n hp (by omega)
 rw [e]
 exact h r h0 (h1 hn)
theorem Xsj (k : Nat) (b : A0) (hb : BOk b) : ∃ b', F69 k b = some (b', 0) ∧ BOk b' ∧ b'.length ≤ 2000 := by
 unfold F69 Xea; (try dsimp only)
 by_cases h : ((b.length : Nat) : Int) > 2000
 ·rw [decide_eq_true h, cond_true]
  rw [decide_eq_true (by omega : (2000 : Int) ≤ ((b.length : Nat) : Int))]
  exact ⟨_, rfl, fun x hx => hb x (List.mem_of_mem_take hx), by simp; omega⟩
 ·rw [decide_eq_false h, cond_false]
  exact ⟨_, rfl, hb, by omega⟩
theorem Xfv (k : Nat) (a0 : A0) (a1 a2 : Int) {b : A0} (hb : BOk b) (hl : b.length ≤ 2000) : ∀ (n c : Nat) (p : Int) (m : A0), c < n → c ≤ 100 → 0 ≤ p → p + 2 * c < 999900 → m.length + c ≤ 1000 →
  Sm (E5 k (a0, a1) a2 n (c : Int) (b, p) m) fun r => r.1.length = m.length + c ∧ r.2 = (b, p + 2 * c)
 | 0, c, p, m, h, _, _, _, _ => by omega
 | n + 1, 0, p, m, h, hc, hp, hp2, hm => by
  rw [E5]
  unfold Gi; (try dsimp only [Bh])
  refine Sm.cf (decide_eq_false (by omega)) ⟨_, rfl, by simp, ?_⟩
  simp
 | n + 1, c + 1, p, m, h, hc, hp, hp2, hm => by
  rw [E5]
  unfold Gi; (try dsimp only [Bh])
  have e : IntKind.i64.wrap (((c + 1 : Nat) : Int) - 1) = (c : Int) := by rw [i64_in _ (by omega)]; omega
  rw [e]
  have Po : ∀ y : den (.int .u8), Sm (E5 k (a0, a1) a2 n (c : Int) (b, p + 1 + 1) (m ++ [y])) fun r => r.1.length = m.length + (c + 1) ∧ r.2 = (b, p + 2 * ((c + 1 : Nat) : Int)) := fun y => by
   obtain ⟨r, e1, e2, e3⟩ := Xfv k a0 a1 a2 hb hl n c (p + 1 + 1) (m ++ [y]) (by omega) (by omega) (by omega) (by omega) (by
    simp only [List.length_append, List.length_singleton]
    omega)
   refine ⟨r, e1, by rw [e2]; simp only [List.length_append, List.length_singleton]; omega, ?_⟩
   rw [e3]
   simp only [Prod.mk.injEq, true_and]
   omega
  refine Sm.ct (decide_eq_true (by omega)) ?_
  refine pk k hb hl (by omega) (by omega) (by omega) fun x1 _ _ => ?_
  dsimp only
  refine Sm.cond (fun _ => ?_) (fun _ => ?_)
  ·refine pk k hb hl (by omega) (by omega) (by omega) fun x2 _ _ => ?_
   dsimp only
   exact Sm.ct (decide_eq_true (by simp only [List.length_singleton]; omega)) (Po _)
  ·refine pk k hb hl (by omega) (by omega) (by omega) fun x2 _ _ => ?_
   dsimp only
   exact Sm.ct (decide_eq_true (by simp only [List.length_singleton]; omega)) (Po _)
theorem odk {β : Type} (k : Nat) {b : A0} (hb : BOk b) (hl : b.length ≤ 2000) {p n : Int} (hp : 0 ≤ p) (hp2 : p < 1000000) {f : Bool × A0 × Int → Option β} {Q : β → Prop}
  (h : ∀ (x : Bool) (p' : Int), p ≤ p' → p' ≤ p + 1 → Sm (f (x, b, p')) Q) : Sm ((Xau k (b, p) n).bind f) Q := by
 unfold Xau U5; (try dsimp only)
 by_cases hn : n > 0
 ·rw [decide_eq_true hn, cond_true]
  obtain ⟨r, e, _⟩ := Xev k b hb hl p n hp (by omega)
  rw [e]
  exact h _ (p + 1) (by omega) (by omega)
 ·rw [decide_eq_false hn]
  exact h _ _ (by omega) (by omega)
end Go.Proofs.YtdmepjjepogddaaGreat.Gn
end

section
namespace Go.Proofs.YtdmepjjepogddaaGreat.Gn
open Go.Rf Go.IntWalk
set_option linter.unusedVariables false
set_option linter.unusedSimpArgs false
theorem Xo3 (q : Nat) (v : rtL) (r : den B6) (hl : v.length ≤ 1000) (hk : 1048576 < q + 4) : ∀ (n j : Nat) (b : Bool) (m : rtL), j ≤ v.length → v.length - j < n → m.length ≤ 2 * j → Sm (D5 (q + 4) v r n b (j : Int) m) fun z => z.1.length ≤ 8
 | 0, j, b, m, _, h, _ => by omega
 | n + 1, j, b, m, hj, h, hm => by
  rw [D5]
  unfold Jg; (try dsimp only [A1, Bh, Cv])
  obtain ⟨ok, o1, _, _⟩ := Xu5 q v (by omega) hk
  have o2 := V4 (q + 4) r
  rcases Nat.lt_or_ge j v.length with hlt | hge
  ·have d1 : decide ((j : Int) < (v.length : Int)) = true := decide_eq_true (by omega)
   have d0 : decide ((0 : Int) ≤ (j : Int)) = true := decide_eq_true (by omega)
   have nx := fun (b : Bool) (m : rtL) (hm : m.length ≤ 2 * (j + 1)) => Xo3 q v r hl hk n (j + 1) b m hlt (by omega) hm
   have j2 : Sm (E2 (q + 4) v r (D5 (q + 4) v r n) some m (j : Int)) fun z => z.1.length ≤ 8 := by
    unfold E2; (try dsimp only [Bh, Cv])
    rw [Kr j (by omega)]
    exact Sm.ct (decide_eq_true (by simp; omega)) (nx _ _ (by simp; omega))
   have j1 : Sm (Ew (q + 4) v r (D5 (q + 4) v r n) some m (j : Int)) fun z => z.1.length ≤ 8 := by
    unfold Ew; (try dsimp only [Bh, Cv])
    rw [Kr j (by omega)]
    refine Sm.ct (decide_eq_true (by simp; omega)) (Sm.cond (fun _ => j2) (fun _ => Sm.cond (fun _ => j2) (fun _ => nx _ _ (by simp; omega))))
   have j3 : ∀ b : Bool, Sm (Dh (q + 4) v r (D5 (q + 4) v r n) some (j : Int) m b) fun z => z.1.length ≤ 8 := fun b => by
    unfold Dh; (try dsimp only [Bh])
    rw [Kr j (by omega)]
    refine Sm.cond (fun _ => Sm.ct (decide_eq_true (by simp; omega)) (nx _ _ (by simp; omega))) (fun _ => Sm.cond (fun _ => Sm.ct (decide_eq_true (by simp; omega)) (nx _ _ (by simp; omega))) (fun _ => nx _ _ (by omega)))
   exact Sm.ct d1 (Sm.ct d0 (Sm.ct d1 (Sm.cond (fun _ => Sm.cond (fun _ => j1) (fun _ => Sm.cond (fun _ => Sm.cond (fun _ => j1) (fun _ => j3 _)) (fun _ => j3 _))) (fun _ => j3 _))))
  ·refine Sm.cf (decide_eq_false (by omega)) (Sm.cond (fun _ => Sm.ct (decide_eq_true (by simp; omega)) ?_) (fun _ => ?_))
   ·rw [o1, Option.bind_some]
    refine Sm.cond (fun _ => ⟨_, rfl, by simp⟩) (fun _ => ?_)
    rw [o2, Option.bind_some]
    exact Sm.cond (fun _ => ⟨_, rfl, by simp⟩) (fun _ => Sm.cond (fun _ => ⟨_, rfl, by simp⟩) (fun c => ⟨_, rfl, by have := of_decide_eq_false c; dsimp only; omega⟩))
   ·rw [o1, Option.bind_some]
    refine Sm.cond (fun _ => ⟨_, rfl, by simp⟩) (fun _ => ?_)
    rw [o2, Option.bind_some]
    exact Sm.cond (fun _ => ⟨_, rfl, by simp⟩) (fun _ => Sm.cond (fun _ => ⟨_, rfl, by simp⟩) (fun c => ⟨_, rfl, by have := of_decide_eq_false c; dsimp only; omega⟩))
theorem Xeg (q : Nat) (v : rtL) (r : den B6) (hl : v.length ≤ 1000) (hk : 1048576 < q + 4) : Sm (Vk (q + 4) v r) fun z => z.1.length ≤ 8 :=
 Xo3 q v r hl hk (q + 4) 0 false [] (Nat.zero_le _) (by omega) (by simp)
theorem Ti (q : Nat) (v : A0 × Int) (w : Int) {b : A0} (hb : BOk b) (hl : b.length ≤ 2000) (hk : 1048576 < q + 4) (many kk : Nat) (hm : many ≤ 5) (hkk : kk ≤ 5) (out : Fh) : ∀ (n j : Nat) (p : Int) (s : den sta), j ≤ many → many - j < n → 0 ≤ p → p + 4 * (many - j : Nat) ≤ 900000 → s.2.length ≤ 8 →
  Sm (Ip (q + 4) v w n (many : Int) (kk : Int) (j : Int) (b, p) out s) fun y => y.1 = (many : Int) ∧ y.2.1 = (kk : Int) ∧ (∃ p' : Int, y.2.2.2.1 = (b, p') ∧ p ≤ p' ∧ p' ≤ p + 4 * (many - j : Nat)) ∧ y.2.2.2.2.1 = out ∧ y.2.2.2.2.2.2.length ≤ 8
 | 0, j, p, s, _, h, _, _, _ => by omega
 | n + 1, j, p, s, hj, h, h0, hp, hs => by
  rw [Ip]
  unfold Lk; (try dsimp only)
  rcases Nat.lt_or_ge j many with hlt | hge
  ·have nx := fun (p' : Int) (s' : den sta) (h1 : p ≤ p') (h2 : p' ≤ p + 4) (hs : s'.2.length ≤ 8) => Ti q v w hb hl hk many kk hm hkk out n (j + 1) p' s' hlt (by omega) (by omega) (by omega) hs
   have Po := fun (p' : Int) (s' : den sta) (h1 : p ≤ p') (h2 : p' ≤ p + 4) (hs : s'.2.length ≤ 8) => (show Sm (Ip (q + 4) v w n (many : Int) (kk : Int) ((j + 1 : Nat) : Int) (b, p') out s') fun y => y.1 = (many : Int) ∧ y.2.1 = (kk : Int) ∧ (∃ p' : Int, y.2.2.2.1 = (b, p') ∧ p ≤ p' ∧ p' ≤ p + 4 * (many - j : Nat)) ∧ y.2.2.2.2.1 = out ∧ y.2.2.2.2.2.2.length ≤ 8 from by
    obtain ⟨y, e, e1, e2, ⟨p2, e3, e4, e5⟩, e6, e7⟩ := nx p' s' h1 h2 hs
    exact ⟨y, e, e1, e2, ⟨p2, e3, by omega, by omega⟩, e6, e7⟩)
   have rp := fun (r : den B6) => Xeg q s.2 r (by omega) hk
   have w1 : IntKind.i64.wrap ((many : Int) + 1) = (many : Int) + 1 := i64_in _ (by omega)
   rw [Kr j (by omega)]
   have j1 : ∀ (x : Int), Sm (F8 (q + 4) v w (Ip (q + 4) v w n) (fun y2 => some y2) (x, (b, p + 1 + 1)) (many : Int) s (j : Int) (kk : Int) out) fun y => y.1 = (many : Int) ∧ y.2.1 = (kk : Int) ∧ (∃ p' : Int, y.2.2.2.1 = (b, p') ∧ p ≤ p' ∧ p' ≤ p + 4 * (many - j : Nat)) ∧ y.2.2.2.2.1 = out ∧ y.2.2.2.2.2.2.length ≤ 8 := fun x => by
    unfold F8; (try dsimp only)
    rw [w1, Kr j (by omega)]
    exact pk _ hb hl (by omega) (by omega) (by omega) fun _ _ _ => pk _ hb hl (by omega) (by omega) (by omega) fun _ _ _ => (rp _).bind fun z hz => Po _ _ (by omega) (by omega) hz
   refine Sm.ct (decide_eq_true (by omega)) (Sm.cond (fun _ => ?_) (fun _ => Po p s (by omega) (by omega) hs))
   refine pk _ hb hl (by omega) (by omega) (by omega) fun x _ _ => ?_
   refine Sm.cond (fun _ => Sm.cond (fun _ => ?_) (fun _ => ?_)) (fun _ => Po _ s (by omega) (by omega) hs)
   ·refine pk _ hb hl (by omega) (by omega) (by omega) fun y _ _ => Sm.cond (fun _ => j1 y) (fun _ => ?_)
    exact pk _ hb hl (by omega) (by omega) (by omega) fun _ _ _ => (rp _).bind fun z hz => Po _ _ (by omega) (by omega) hz
   ·refine pk _ hb hl (by omega) (by omega) (by omega) fun y _ _ => Sm.cond (fun _ => j1 y) (fun _ => ?_)
    exact pk _ hb hl (by omega) (by omega) (by omega) fun _ _ _ => (rp _).bind fun z hz => Po _ _ (by omega) (by omega) hz
  ·exact Sm.cf (decide_eq_false (by omega)) ⟨_, rfl, rfl, rfl, ⟨p, rfl, by omega, by omega⟩, rfl, hs⟩
def Xoy (l : Fh) : Prop := l.length ≤ 6 ∧ ∀ s ∈ l, s.2.length ≤ 8
theorem Tp (q : Nat) (v : A0 × Int) (w : Int) {b : A0} (hb : BOk b) (hl : b.length ≤ 2000) (hk : 1048576 < q + 4) (many : Nat) (h1 : 1 ≤ many) (hm : many ≤ 5) : ∀ (n kk : Nat) (p : Int) (out : Fh), kk ≤ many → many - kk < n → 0 ≤ p → p + 30 * (many - kk : Nat) ≤ 800000 → out.length = kk → (∀ s ∈ out, s.2.length ≤ 8) →
  Sm (I0 (q + 4) v w n (many : Int) (kk : Int) (b, p) out) fun z => Xoy z.1 ∧ ∃ p' : Int, z.2 = (b, p') ∧ 0 ≤ p' ∧ p' ≤ p + 30 * (many - kk : Nat) + 1
 | 0, kk, p, out, _, h, _, _, _, _ => by omega
 | n + 1, kk, p, out, hj, h, h0, hp, ho, hs => by
  rw [I0]
  rcases Nat.lt_or_ge kk many with hlt | hge
  ·refine Sm.ct (decide_eq_true (by omega)) ?_
   refine (Ti q v w hb hl hk many kk hm (by omega) out (q + 4) 0 p (IntKind.i64.wrap (10 + (kk : Int)), []) (Nat.zero_le _) (by omega) h0 (by omega) (by simp)).bind fun y hy => ?_
   obtain ⟨y1, y2, y3, y4, y5, y6⟩ := y
   obtain ⟨e1, e2, ⟨p1, e3, e4, e5⟩, e6, e7⟩ := hy
   dsimp only at e1 e2 e3 e6 e7
   subst e1 e2 e3 e6
   dsimp only
   rw [Kr kk (by omega)]
   have nx := fun (p' : Int) (s : den sta) (h1' : p ≤ p') (h2 : p' ≤ p + 22) (hs' : s.2.length ≤ 8) => (show Sm (I0 (q + 4) v w n (many : Int) ((kk + 1 : Nat) : Int) (b, p') (y5 ++ [s])) fun z => Xoy z.1 ∧ ∃ p'' : Int, z.2 = (b, p'') ∧ 0 ≤ p'' ∧ p'' ≤ p + 30 * (many - kk : Nat) + 1 from by
    obtain ⟨z, a1, a2, p2, a3, a4, a5⟩ := Tp q v w hb hl hk many h1 hm n (kk + 1) p' (y5 ++ [s]) hlt (by omega) (by omega) (by omega) (by simp [ho]) (fun x hx => (List.mem_append.1 hx).elim (hs x) (fun hx => by rw [List.mem_singleton.1 hx]; exact hs'))
    exact ⟨z, a1, a2, p2, a3, a4, by omega⟩)
   refine pk _ hb hl (by omega) (by omega) (by omega) fun x _ _ => Sm.cond (fun _ => ?_) (fun _ => ?_)
   ·refine pk _ hb hl (by omega) (by omega) (by omega) fun x2 _ _ => (Xeg q y6.2 _ (by omega) hk).bind fun z hz => ?_
    exact Sm.ct (decide_eq_true (by rw [List.length_singleton]; omega)) (nx _ (y6.1, z.1) (by omega) (by omega) hz)
   ·exact Sm.ct (decide_eq_true (by rw [List.length_singleton]; omega)) (nx _ y6 (by omega) (by omega) e7)
  ·refine Sm.cf (decide_eq_false (by omega)) ?_
   refine odk _ hb hl h0 (by omega) fun x p' e1 e2 => ?_
   have h00 : 0 < out.length := by omega
   have g0 : Ap out 0 = out[0] := As out 0 h00
   dsimp only
   refine Sm.cond (fun _ => Sm.ct (decide_eq_true (by omega)) (Sm.ct (decide_eq_true (by rw [List.length_singleton]; omega)) ⟨_, rfl, ⟨by simp; omega, fun s hs' => ?_⟩, p', rfl, by omega, by omega⟩)) (fun _ => ⟨_, rfl, ⟨by dsimp only; omega, hs⟩, p', rfl, by omega, by omega⟩)
   rcases List.mem_append.1 hs' with h' | h'
   ·exact hs s h'
   ·rw [List.mem_singleton.1 h', g0]; exact hs _ (List.getElem_mem h00)
theorem Y0 : ∀ {l : Fh} {n : Nat}, l.length ≤ n → (∀ s ∈ l, s.2.length ≤ 8) → Rh l ≤ 8 * n
 | [], n, _, _ => by simp [Rh]
 | a :: l, n, h, hs => by
  rw [List.length_cons] at h
  have h1 := hs a (by simp)
  have h2 := Y0 (l := l) (n := n - 1) (by omega) (fun s hs' => hs s (by simp [hs']))
  simp only [Rh]
  omega
theorem X0e (q : Nat) (w : Int) {b : A0} (hb : BOk b) (hl : b.length ≤ 2000) (hk : 1048576 < q + 4) {p : Int} (hp : 0 ≤ p ∧ p ≤ 1000) : Sm (F70 (q + 4) (b, p) w) fun z => Xoy z.1 ∧ ∃ p' : Int, z.2 = (b, p') ∧ 0 ≤ p' ∧ p' ≤ p + 200 := by
 unfold F70 Xfh; (try dsimp only)
 refine pk _ hb hl (by omega) (by omega) (by omega) fun x hx1 hx2 => ?_
 obtain ⟨c, rfl⟩ := Int.eq_ofNat_of_zero_le hx1
 rw [show IntKind.i64.wrap (1 + (c : Int)) = ((c + 1 : Nat) : Int) by rw [i64_in _ (by omega)]; omega]
 obtain ⟨z, a1, a2, p2, a3, a4, a5⟩ := Tp q (b, p) w hb hl hk (c + 1) (by omega) (by omega) (q + 4) 0 (p + 1) [] (Nat.zero_le _) (by omega) (by omega) (by omega) rfl (fun s hs => by cases hs)
 exact ⟨z, a1, a2, p2, a3, a4, by omega⟩
end Go.Proofs.YtdmepjjepogddaaGreat.Gn
end

section
namespace Go.Proofs.YtdmepjjepogddaaGreat.Gn
open Go.Rf Go.IntWalk
set_option linter.unusedVariables false
set_option linter.unusedSimpArgs false
theorem Ww (k : Nat) (v : A0 × Int) (w : Int) : ∀ (n : Nat) (c : Int) (z : A0 × Int) (m : A0) (r : A0 × (A0 × Int)), BOk m → E5 k v w n c z m = some r → BOk r.1
 | 0, _, _, _, _, _, h => by rw [E5] at h; cases h
 | n + 1, c, z, m, r, hm, h => by
  rw [E5] at h
  unfold Gi at h; (try dsimp only [Bh])
  cases hc : decide (c > 0) with
  | false =>
   rw [hc, cond_false, Option.some.injEq] at h
   rw [← h]
   exact hm
  | true =>
   rw [hc, cond_true] at h
   cases h1 : K6 k z 3 with
   | none => rw [h1] at h; cases h
   | some b1 =>
    rw [h1, Option.bind_some] at h
    have app : ∀ x : Int, BOk (m ++ [IntKind.u8.wrap x]) := fun x => hm.app (BOk.nil.cons (v := x))
    cases hb : (b1.1 == (0 : Int)) with
    | true =>
     rw [show (b1.1 == 0) = true from hb, cond_true] at h
     cases h2 : K6 k b1.2 256 with
     | none => rw [h2] at h; cases h
     | some b2 =>
      rw [h2, Option.bind_some] at h
      exact Ww k v w n _ _ _ r (app _) (Mb h).2
    | false =>
     rw [show (b1.1 == 0) = false from hb, cond_false] at h
     cases h2 : K6 k b1.2 3 with
     | none => rw [h2] at h; cases h
     | some b2 =>
      rw [h2, Option.bind_some] at h
      exact Ww k v w n _ _ _ r (app _) (Mb h).2
theorem btb {β : Type} (k : Nat) (hk : 100 < k) {b : A0} (hb : BOk b) (hl : b.length ≤ 2000) {p n : Int} (hp : 0 ≤ p) (hp2 : p < 999000) (hn : 0 ≤ n ∧ n ≤ 100) {f : A0 × A0 × Int → Option β} {Q : β → Prop}
  (h : ∀ x : A0, (x.length : Int) = n → BOk x → Sm (f (x, b, p + 2 * n)) Q) : Sm ((F72 k (b, p) n).bind f) Q := by
 obtain ⟨c, rfl⟩ := Int.eq_ofNat_of_zero_le hn.1
 obtain ⟨⟨x, y⟩, e, e1, e2⟩ := Xfv k b p (c : Int) hb hl k c p [] (by omega) (by omega) (by omega) (by omega) (by simp; omega)
 have bo := Ww k (b, p) (c : Int) k (c : Int) (b, p) [] (x, y) BOk.nil e
 dsimp only at e1 e2 bo
 subst e2
 rw [show F72 k (b, p) (c : Int) = some (x, (b, p + 2 * (c : Int))) from e]
 exact h x (by rw [e1]; simp) bo
theorem Xti (q : Nat) {b : A0} (hb : BOk b) (hk : 1048576 < q + 4) : ∃ (v : Fh) (w p kd id : Int) (c : A0), F22 (q + 4) b = some (v, w, p, kd, id, c) ∧ Xoy v ∧ (0 ≤ kd ∧ kd ≤ 255) ∧ (0 ≤ id ∧ id ≤ 255) ∧ c.length ≤ 60 ∧ BOk c := by
 have main : Sm (F22 (q + 4) b) fun z => Xoy z.1 ∧ (0 ≤ z.2.2.2.1 ∧ z.2.2.2.1 ≤ 255) ∧ (0 ≤ z.2.2.2.2.1 ∧ z.2.2.2.2.1 ≤ 255) ∧ z.2.2.2.2.2.length ≤ 60 ∧ BOk z.2.2.2.2.2 := by
  obtain ⟨b', e, hb', hl⟩ := Xsj (q + 4) b hb
  unfold F22 Xet; (try dsimp only)
  rw [e, Option.bind_some]
  refine (X0e q 20 hb' hl hk (p := 0) (by omega)).bind fun z hz => ?_
  obtain ⟨v, m⟩ := z
  obtain ⟨hv, p', e2, h0, h1⟩ := hz
  dsimp only at hv e2
  subst e2
  dsimp only
  have hvl := hv.1
  rw [i64_in ((v.length : Int) + 1) (by omega)]
  refine pk _ hb' hl (by omega) (by omega) (by omega) fun x1 _ _ => pk _ hb' hl (by omega) (by omega) (by omega) fun x2 _ _ => pk _ hb' hl (by omega) (by omega) (by omega) fun x3 _ _ => pk _ hb' hl (by omega) (by omega) (by omega) fun x4 a4 b4 => pk _ hb' hl (by omega) (by omega) (by omega) fun x5 a5 b5 => pk _ hb' hl (by omega) (by omega) (by omega) fun x6 a6 b6 => ?_
  exact btb _ (by omega) hb' hl (by omega) (by omega) ⟨a6, by omega⟩ fun c hc hbc => ⟨_, rfl, hv, ⟨a4, by dsimp only; omega⟩, ⟨a5, by dsimp only; omega⟩, by dsimp only; omega, hbc⟩
 obtain ⟨⟨v, w, p, kd, id, c⟩, e, h1, h2, h3, h4, h5⟩ := main
 exact ⟨v, w, p, kd, id, c, e, h1, h2, h3, h4, h5⟩
theorem Xs5 (k : Nat) (hk : 100 ≤ k) : F24 k = some true := by
 obtain ⟨n, rfl⟩ : ∃ n, k = n + 2 := ⟨k - 2, by omega⟩
 unfold F24 Xd0 F73 Xfc; (try dsimp only)
 have h1 : inB 1 1 4 = true := by decide
 have h2 : inB 5 0 (IntKind.i64.wrap ((IntKind.i64.wrap (1 * 2 ^ (min (IntKind.i64.wrap (8 * 1)).toNat 64))) - 1)) = true := by decide
 have h3 : inB 256 0 (IntKind.i64.wrap ((IntKind.i64.wrap (1 * 2 ^ (min (IntKind.i64.wrap (8 * 1)).toNat 64))) - 1)) = false := by decide
 simp only [Cp, Option.bind_some, h1, h2, h3]
 rfl
theorem Yz (q : Nat) {b : A0} (hb : BOk b) (hk : 1048576 < q + 4) : F4 (q + 4) b = some true := by
 unfold F4 Xq5; (try dsimp only)
 by_cases c0 : (b.length : Int) > 1048576
 ·exact (ct (decide_eq_true c0)).trans rfl
 refine (cf (decide_eq_false c0)).trans ?_
 obtain ⟨v, w, p, kd, id, c, e, hv, hkd, hid, hcl, hbc⟩ := Xti q hb hk
 have hs := Y0 (n := 6) hv.1 hv.2
 obtain ⟨r, t1, t2, t3, t4, t5⟩ := Xas q (v := v) w p kd id (c := c) (by have := hv.1; omega) (by omega) hbc (by omega) hk
 obtain ⟨m, m1, m2⟩ := Xt3 q v w p (by have := hv.1; omega) (by omega) hk
 have al := Xs5 (q + 4) (by omega)
 have sb : ∀ x : A0, F23 (q + 4) x x = some true := fun x => by unfold F23; (try dsimp only); simp
 have z0 : (!(r.2 == r.2)) = false := by simp
 refine (bs e).trans ((bs t2).trans ((bs t1).trans ((cf z0).trans ((bs (sb _)).trans ((cf rfl).trans ?_)))))
 by_cases hc : (c.length : Int) > 48
 ·have r2 : r.2 = false := by
   cases hr : r.2 with
   | false => rfl
   | true => have := (t5.1 hr).2.1; omega
  refine (ct (decide_eq_true hc)).trans ?_
  rw [r2]
  exact (ct rfl).trans ((bs al).trans rfl)
 ·refine (cf (decide_eq_false hc)).trans ((bs m1).trans ?_)
  have key : r.2 = decide (m > 0) := by
   cases hr : r.2 with
   | true =>
    obtain ⟨h1, _, h3, _, _, h6⟩ := t5.1 hr
    exact (decide_eq_true (m2.2 ⟨h1, h3, h6⟩)).symm
   | false =>
    refine (decide_eq_false fun h => ?_).symm
    obtain ⟨h1, h3, h6⟩ := m2.1 h
    have := t5.2 ⟨h1, by omega, h3, B3 hkd, B3 hid, h6⟩
    rw [hr] at this
    cases this
  refine (ct (by rw [key]; simp)).trans ?_
  rcases t3 with rfl | rfl
  ·exact (ct rfl).trans ((bs al).trans rfl)
  ·exact (cf rfl).trans ((bs (sb c)).trans ((ct rfl).trans ((bs al).trans rfl)))
theorem Xzt (b : A0) (hb : Wf (.sl (.int .u8)) b) (hy : b.length * 1 ≤ 140737488351232) :
  ∃ k, (∀ b : A0, Contract Tryz.prog 4 [.one (.l (.s .ro (.int .u8) b))] ⟨F4 k b, fun r => (.one (.v (.bool r)), [])⟩) ∧ F4 k b = some true :=
 ⟨1048600 + 4, fun b => (F4_q (1048600 + 4)).con (b, ()), Yz 1048600 (BOk.of hb) (by omega)⟩
end Go.Proofs.YtdmepjjepogddaaGreat.Gn
end

section
namespace Go.Proofs.YtdmepjjepogddaaGreat.fnCarried
open Go Go.Proofs.YtdmepjjepogddaaGreat
noncomputable abbrev jP : Program := Tryz.pinned.checked.prog
noncomputable abbrev jn : Func := Tryz.f4
noncomputable abbrev js : ChangeSpec := Rows.fnCarriedSpec
noncomputable abbrev jc : OpenClaim := Rows.fnCarriedRow
theorem Bm {a b : Bool} (h : a = true) (g : b = true) : (a && b) = true := by rw [h, g]; rfl
theorem j0 : (jc.wf (OpenSpec.ofChange js)) = true := by kernel_rfl
theorem j1 : (laidOutB jP) = true := by kernel_rfl
theorem j2 : (mapsRowed jP) = true := by kernel_rfl
theorem j3 : (jn.params.all (jP.readableRec ·)) = true := by kernel_rfl
theorem j4 : (namedTie jP jc.named js.vars) = true := by kernel_rfl
theorem j5 : ((jc.stops == [])) = true := by kernel_rfl
theorem j6 : ((jP.stops == [])) = true := by kernel_rfl
theorem j7 : ((jc.knobs == [])) = true := by kernel_rfl
theorem j8 : ((jP.stopKnobs == [])) = true := by kernel_rfl
theorem j9 : ((jc.inPlace == jP.inPlace 4)) = true := by kernel_rfl
theorem j10 : ((jc.unfollowed == jP.unfollowed 4)) = true := by kernel_rfl
theorem j11 : ((jc.recurses == jP.recurses 4)) = true := by kernel_rfl
theorem j12 : ((jc.named == jP.varsNamed 4)) = true := by kernel_rfl
theorem j13 : ((jc.maps == (jn.params.toList ++ js.plain.varTypes jP).any (jP.mapsRec ·))) = true := by kernel_rfl
theorem j14 : ((jc.ifaces == (jn.params.toList ++ js.plain.varTypes jP).any (jP.ifacesRec ·))) = true := by kernel_rfl
theorem j15 : ((jc.mapsOut == jP.mapsAmong jn.resultTypes.toList)) = true := by kernel_rfl
theorem j16 : ((jc.loops == (jn.params.toList ++ js.plain.varTypes jP).any (jP.loopsFrom ·))) = true := by kernel_rfl
theorem j17 : ((jc.wideKeys == (jn.params.toList ++ js.plain.varTypes jP ++ jn.resultTypes.toList).any (jP.wideKeysFrom ·))) = true := by kernel_rfl
theorem j18 : (js.vars.all (jP.varReadable ·)) = true := by kernel_rfl
theorem j19 : (jn.resultTypes.all (fun t => jP.readableRec t && decide (t < jP.types.size))) = true := by kernel_rfl
theorem j20 : ((jc.ifacesOut == jn.resultTypes.toList.any (jP.ifacesRec ·))) = true := by kernel_rfl
theorem j21 : ((jc.loopsOut == jn.resultTypes.toList.any (jP.loopsFrom ·))) = true := by kernel_rfl
theorem j22 : ((jc.plainKeys == jP.plainKeys)) = true := by kernel_rfl
theorem j23 : (jc.shortTexts.isNone) = true := by kernel_rfl
theorem j24 : (jP.stopsHeard) = true := by kernel_rfl
theorem j25 : (jP.mayEnter) = true := by kernel_rfl
theorem j26 : ((jc.lifted == jP.liftsFinal)) = true := by kernel_rfl
theorem j27 : ((jP.make == some jc.make)) = true := by kernel_rfl
theorem j28 : ((jc.kinds == (if jc.domain.isEmpty then [] else jn.params.toList.map fun t => match jP.underlying t with | some (.int k) => some k | _ => none))) = true := by kernel_rfl
theorem j29 : ((jc.pinned == jc.pinnedBy)) = true := by kernel_rfl
theorem j30 : ((jc.veiled == (jn.params.toList ++ js.plain.varTypes jP ++ jn.resultTypes.toList).any (jP.veiledRec ·))) = true := by kernel_rfl
theorem j31 : (jc.veiledFits jP jn.params.toList (jn.params.toList ++ js.plain.varTypes jP ++ jn.resultTypes.toList)) = true := by kernel_rfl
end Go.Proofs.YtdmepjjepogddaaGreat.fnCarried
end
