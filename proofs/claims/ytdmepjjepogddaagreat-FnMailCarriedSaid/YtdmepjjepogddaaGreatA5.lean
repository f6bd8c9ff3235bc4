/-
  What the proof of this row needs, part 5: the typed evaluator of the translated code, the functions that the law reaches as plain functions, and what they answer.
-/
import Derived.KernelRfl
import Derived.Test.YtdmepjjepogddaaGreatA4
section
set_option linter.unusedVariables false
set_option linter.unusedSimpArgs false
namespace Go.Proofs.YtdmepjjepogddaaGreat.Gn
open Go.Rf IntKind
noncomputable section
abbrev X67 (k : Nat) : Env := Bc Bx Ao .own [] k
abbrev Xwm : List PA := [.one (.sl .own Ay)]
abbrev F151_O : RO := ⟨[.v], [.sl .own Ay]⟩
def Ya {β : Type} (RET : Ab → Option β) (k : Nat) (v : Ab) : Option β := cond (decide (0 ≤ (v.length : Int)) && decide ((v.length : Int) ≤ (v.length : Int))) (cond (decide ((v.length : Int) = (v.length : Int))) (RET ((v.take ((v.length : Int).toNat)).drop 0)) none) none
def Xee := Ya (β := Ab) some
theorem Xzx {β : Type} (k : Nat) (v : Ab) (K : KT β) : Aj (X67 k) Tryz.f151 (PsT.put Xwm (v, ())) K = (Xee k v).bind fun r => K (F151_O.put r) :=
 Eq.trans (b := Ya (fun r => K (F151_O.put r)) k v) (by kernel_rfl) (by simp only [Xee, Ya, z1, z2, z3, z4, z5, z6, z7, z8])
def Xsf (k : Nat) : FD := ⟨151, Xwm, F151_O, Xee k⟩
theorem X6k (k : Nat) : (Xsf k).Ok Tryz.prog := ⟨fun x => Ac (Am .none _ _ _ _) Ak Tryz.func151 rfl rfl (Xzx k _ some), .of (by kernel_rfl)⟩
def Yda : Nat → Hint
 | 0 => ⟨(3, .own .own Ay []) :: (pl 9 3 []), []⟩
 | 2 => ⟨pl 3 1 (pl 6 1 (pl 9 3 (pl 19 3 []))), pl 3900 1 (pl 6000 1 ((6001, .own .own Bd []) :: []))⟩
 | _ => ⟨[], []⟩
abbrev Jg (k : Nat) : Env := Bc (A0 [M6 k, Xoh k, Xsf k]) Yda .own [] k
abbrev Xte : List PA := [.one (.sl .ro Ay)]
abbrev F78_O : RO := ⟨[.v], [.sl .own Ay]⟩
noncomputable def Xwj {β : Type} (k : Nat) (v : Ab) (K : KT β) : Ex → St → Option β := Br (Jg k) Tryz.f78 (PsT.put Xte (v, ())) K
def X9p (v : Ab) (x11_2 : Int) (x19_2 : Cm) (x20_2 x21_2 : Int) (m3900_2 : Ab) (m6000_2 : (den Ay)) : St := ⟨dz 3 ((.one (.a (.cell 3900) 0 0 none)) :: (.one .d) :: (.one .d) :: (.one (.ptr (.cell 6000) 2 0)) :: (.one .d) :: (.one .d) :: (.one (.s .ro Ay v)) :: (.one (vI (v.length : Int))) :: (.one (vI x11_2)) :: dz 7 ((.one (.s .ro Bd x19_2)) :: (.one (vI x20_2)) :: (.one (vI x21_2)) :: dz 25 [])), (eM 3900 (.s .own Ay m3900_2)) :: (A9 6000 (B0 (.pair mI (.sl .own Bd)) m6000_2) [])⟩
noncomputable def U5 {β : Type} (k : Nat) (v : Ab) (KK : Ex → St → Option β) (n : Nat) (x11_2 : Int) (x19_2 : Cm) (x20_2 x21_2 : Int) (m3900_2 : Ab) (m6000_2 : (den Ay)) : Option β := A2 (Jg k) Tryz.f78 [1, 1, 0, 1, 0, 0, 1, 1, 0, 0, 1, 1, 0, 1, 0] 2 KK n (X9p v x11_2 x19_2 x20_2 x21_2 m3900_2 m6000_2)
def N5 {β : Type} (NX : Int → Cm → Int → Int → Ab → (den Ay) → Option β) (EX0 : (Int × Cm × Int × Int × Ab × (den Ay)) → Option β) (k : Nat) (v : Ab) (x11_2 : Int) (x19_2 : Cm) (x20_2 x21_2 : Int) (m3900_2 : Ab) (m6000_2 : (den Ay)) : Option β := cond (decide (x21_2 < x20_2)) (Ax x21_2 x19_2 ((Qm k (Ad x19_2 x21_2).2.2.2).bind fun b1 => Be (m6000_2.2.length) ([((Ad x19_2 x21_2).1, (Ad x19_2 x21_2).2.1, (Ad x19_2 x21_2).2.2.1, b1)].length) 48 (NX x11_2 x19_2 x20_2 (i64.wrap (x21_2 + 1)) m3900_2 (m6000_2.1, m6000_2.2 ++ [((Ad x19_2 x21_2).1, (Ad x19_2 x21_2).2.1, (Ad x19_2 x21_2).2.2.1, b1)])))) (EX0 (x11_2, x19_2, x20_2, x21_2, m3900_2, m6000_2))
def Qs (k : Nat) (v : Ab) : Nat → Int → Cm → Int → Int → Ab → (den Ay) → Option ((Int × Cm × Int × Int × Ab × (den Ay)))
 | 0, _, _, _, _, _, _ => none
 | n + 1, x11_2, x19_2, x20_2, x21_2, m3900_2, m6000_2 => N5 (Qs k v n) (fun y2 => some y2) k v x11_2 x19_2 x20_2 x21_2 m3900_2 m6000_2
theorem Xmo {β : Type} (k : Nat) (v : Ab) (KK : Ex → St → Option β) (n : Nat) : ∀ (x11_2 : Int) (x19_2 : Cm) (x20_2 x21_2 : Int) (m3900_2 : Ab) (m6000_2 : (den Ay)), U5 k v KK n x11_2 x19_2 x20_2 x21_2 m3900_2 m6000_2 =
  (Qs k v n x11_2 x19_2 x20_2 x21_2 m3900_2 m6000_2).bind fun y2 => KK (.exit 2) ⟨dz 3 ((.one (.a (.cell 3900) 0 0 none)) :: (.one .d) :: (.one .d) :: (.one (.ptr (.cell 6000) 2 0)) :: (.one .d) :: (.one .d) :: (.one (.s .ro Ay v)) :: (.one (vI (v.length : Int))) :: (.one (vI y2.1)) :: dz 7 ((.one (.s .ro Bd y2.2.1)) :: (.one (vI y2.2.2.1)) :: (.one (vI y2.2.2.2.1)) :: (.one (vB false)) :: dz 24 [])), (eM 3900 (.s .own Ay y2.2.2.2.2.1)) :: (A9 6000 (B0 (.pair mI (.sl .own Bd)) y2.2.2.2.2.2) [])⟩ := by
 induction n with
 | zero => intros; rfl
 | succ n ih =>
  intro x11_2 x19_2 x20_2 x21_2 m3900_2 m6000_2
  refine Eq.trans (b := N5 (U5 k v KK n) (fun y2 => KK (.exit 2) ⟨dz 3 ((.one (.a (.cell 3900) 0 0 none)) :: (.one .d) :: (.one .d) :: (.one (.ptr (.cell 6000) 2 0)) :: (.one .d) :: (.one .d) :: (.one (.s .ro Ay v)) :: (.one (vI (v.length : Int))) :: (.one (vI y2.1)) :: dz 7 ((.one (.s .ro Bd y2.2.1)) :: (.one (vI y2.2.2.1)) :: (.one (vI y2.2.2.2.1)) :: (.one (vB false)) :: dz 24 [])), (eM 3900 (.s .own Ay y2.2.2.2.2.1)) :: (A9 6000 (B0 (.pair mI (.sl .own Bd)) y2.2.2.2.2.2) [])⟩) k v x11_2 x19_2 x20_2 x21_2 m3900_2 m6000_2) (by kernel_rfl) ?_
  rw [Qs]
  simp only [N5, z1, z2, z3, z4, z5, z6, z7, z8, ih]
def X8a (v : Ab) (x11_0 : Int) (m3900_0 : Ab) : St := ⟨dz 3 ((.one (.a (.cell 3900) 0 0 none)) :: dz 5 ((.one (.s .ro Ay v)) :: (.one (vI (v.length : Int))) :: (.one (vI x11_0)) :: dz 35 [])), [eM 3900 (.s .own Ay m3900_0)]⟩
noncomputable def U7 {β : Type} (k : Nat) (v : Ab) (K : KT β) (n : Nat) (x11_0 : Int) (m3900_0 : Ab) : Option β := A2 (Jg k) Tryz.f78 [1, 1, 0, 1, 0] 0 (Ae (Jg k) [1, 1, 0, 1, 0] (Af Tryz.f78) 0 (Xwj k v K)) n (X8a v x11_0 m3900_0)
def Pq (k : Nat) (v : Ab) : Nat → Int → Ab → Option (Ab)
 | 0, _, _ => none
 | n + 1, x11_0, m3900_0 => cond (decide (x11_0 < (v.length : Int))) (Ax x11_0 v ((Qs k v k x11_0 (Ad v x11_0).2 ((Ad v x11_0).2.length : Int) 0 m3900_0 ((Ad v x11_0).1, [])).bind fun y2 => (Xig k y2.2.2.2.2.2.2).bind fun b2 => Be (y2.2.2.2.2.1.length) ([(y2.2.2.2.2.2.1, b2)].length) 32 (Pq k v n (i64.wrap (y2.1 + 1)) (y2.2.2.2.2.1 ++ [(y2.2.2.2.2.2.1, b2)])))) ((Xee k m3900_0).bind fun b3 => some b3)
theorem Xbt {β : Type} (k n : Nat) (v : Ab) (y2 : Int × Cm × Int × Int × Ab × (den Ay)) (K : KT β) :
  (Ae (Jg k) [1, 1, 0, 0, 1, 1, 0, 1, 0] (Ba [1, 1, 0, 1, 0, 0] (Af Tryz.f78)) 0 (Bt (Jg k) Tryz.f78 [1, 1, 0, 1, 0] 0 (Ae (Jg k) [1, 1, 0, 1, 0] (Af Tryz.f78) 0 (Xwj k v K)) n)) (.exit 2) ⟨dz 3 ((.one (.a (.cell 3900) 0 0 none)) :: (.one .d) :: (.one .d) :: (.one (.ptr (.cell 6000) 2 0)) :: (.one .d) :: (.one .d) :: (.one (.s .ro Ay v)) :: (.one (vI (v.length : Int))) :: (.one (vI y2.1)) :: dz 7 ((.one (.s .ro Bd y2.2.1)) :: (.one (vI y2.2.2.1)) :: (.one (vI y2.2.2.2.1)) :: (.one (vB false)) :: dz 24 [])), (eM 3900 (.s .own Ay y2.2.2.2.2.1)) :: (A9 6000 (B0 (.pair mI (.sl .own Bd)) y2.2.2.2.2.2) [])⟩ =
  (Xig k y2.2.2.2.2.2.2).bind fun b2 => Be (y2.2.2.2.2.1.length) ([(y2.2.2.2.2.2.1, b2)].length) 32 (U7 k v K n (i64.wrap (y2.1 + 1)) (y2.2.2.2.2.1 ++ [(y2.2.2.2.2.2.1, b2)])) := by kernel_rfl
theorem Xls {β : Type} (k : Nat) (v : Ab) (K : KT β) (n : Nat) : ∀ (x11_0 : Int) (m3900_0 : Ab), U7 k v K n x11_0 m3900_0 =
  (Pq k v n x11_0 m3900_0).bind fun r => K (F78_O.put r) := by
 induction n with
 | zero => intros; rfl
 | succ n ih =>
  intro x11_0 m3900_0
  refine Eq.trans (b := cond (decide (x11_0 < (v.length : Int))) (Ax x11_0 v (U5 k v (Ae (Jg k) [1, 1, 0, 0, 1, 1, 0, 1, 0] (Ba [1, 1, 0, 1, 0, 0] (Af Tryz.f78)) 0 (Bt (Jg k) Tryz.f78 [1, 1, 0, 1, 0] 0 (Ae (Jg k) [1, 1, 0, 1, 0] (Af Tryz.f78) 0 (Xwj k v K)) n)) k x11_0 (Ad v x11_0).2 ((Ad v x11_0).2.length : Int) 0 m3900_0 ((Ad v x11_0).1, []))) ((Xee k m3900_0).bind fun b3 => K (F78_O.put b3))) (by kernel_rfl) ?_
  rw [Pq]
  simp only [z1, z2, z3, z4, z5, z6, z7, z8, Xmo, Xbt k n v _ K, ih, Ax, Be]
def Xwo {β : Type} (LP0 : Int → Ab → Option β) (k : Nat) (v : Ab) : Option β := LP0 0 []
def F78 (k : Nat) (v : Ab) : Option (Ab) := Xwo (Pq k v k) k v
theorem Yae {β : Type} (k : Nat) (v : Ab) (K : KT β) : Aj (Jg k) Tryz.f78 (PsT.put Xte (v, ())) K = (F78 k v).bind fun r => K (F78_O.put r) :=
 Eq.trans (b := Xwo (U7 k v K k) k v) (by kernel_rfl) (by simp only [F78, Xwo, z1, z2, z3, z4, z5, z6, z7, z8, Xls])
def Xrw (k : Nat) : FD := ⟨78, Xte, F78_O, F78 k⟩
theorem X3t (k : Nat) : (Xrw k).Ok Tryz.prog := ⟨fun x => Ac (Am (Ah (.c (Q5 k) (.c (Ybv k) (.c (X6k k) .n)))) _ _ _ _) Ak Tryz.func78 rfl rfl (Yae k _ some), .of (by kernel_rfl)⟩
def Yfh : Nat → Hint
 | 0 => ⟨pl 0 1 (pl 5 2 []), pl 8000 1 []⟩
 | _ => ⟨[], []⟩
abbrev Xk1 (k : Nat) : Env := Bc Bx Yfh .own [] k
abbrev Xvp : List PA := [.one mI, .one mI]
abbrev F93_O : RO := ⟨[.v], [.sl .own (.int .u8)]⟩
noncomputable def Yd5 {β : Type} (k : Nat) (v w : Int) (K : KT β) : Ex → St → Option β := Br (Xk1 k) Tryz.f93 (PsT.put Xvp (v, w, ())) K
def Yao (v w : Int) (x0_0 x6_0 : Int) (m8000_0 : Aa) : St := ⟨(.one (vI x0_0)) :: dz 4 ((.one (.a (.cell 8000) 0 0 none)) :: (.one (vI x6_0)) :: dz 16 []), [eM 8000 (.s .own (.int .u8) m8000_0)]⟩
noncomputable def Tr {β : Type} (k : Nat) (v w : Int) (K : KT β) (n : Nat) (x0_0 x6_0 : Int) (m8000_0 : Aa) : Option β := A2 (Xk1 k) Tryz.f93 [1, 1, 0, 1, 0] 0 (Ae (Xk1 k) [1, 1, 0, 1, 0] (Af Tryz.f93) 0 (Yd5 k v w K)) n (Yao v w x0_0 x6_0 m8000_0)
def He {β : Type} (NX : Int → Int → Aa → Option β) (RET : Aa → Option β) (k : Nat) (v w : Int) (x0_0 x6_0 : Int) (m8000_0 : Aa) : Option β := cond (decide (x6_0 ≥ 0)) (Ax x6_0 m8000_0 (NX (x0_0.fdiv (2 ^ (8))) (i64.wrap (x6_0 - 1)) (m8000_0.set x6_0.toNat (u8.wrap x0_0)))) (RET m8000_0)
def J0 (k : Nat) (v w : Int) : Nat → Int → Int → Aa → Option (Aa)
 | 0, _, _, _ => none
 | n + 1, x0_0, x6_0, m8000_0 => He (J0 k v w n) some k v w x0_0 x6_0 m8000_0
theorem Xmw {β : Type} (k : Nat) (v w : Int) (K : KT β) (n : Nat) : ∀ (x0_0 x6_0 : Int) (m8000_0 : Aa), Tr k v w K n x0_0 x6_0 m8000_0 =
  (J0 k v w n x0_0 x6_0 m8000_0).bind fun r => K (F93_O.put r) := by
 induction n with
 | zero => intros; rfl
 | succ n ih =>
  intro x0_0 x6_0 m8000_0
  refine Eq.trans (b := He (Tr k v w K n) (fun r => K (F93_O.put r)) k v w x0_0 x6_0 m8000_0) (by kernel_rfl) ?_
  rw [J0]
  simp only [He, z1, z2, z3, z4, z5, z6, z7, z8, ih]
def Xit {β : Type} (LP0 : Int → Int → Aa → Option β) (k : Nat) (v w : Int) : Option β := cond (decide (0 ≤ w) && decide (w = w) && decide (w * (1 : Nat) ≤ 140737488355328)) (LP0 v (i64.wrap (w - 1)) (List.replicate w.toNat (Bl (.int .u8)))) none
def F93 (k : Nat) (v w : Int) : Option (Aa) := Xit (J0 k v w k) k v w
theorem Yco {β : Type} (k : Nat) (v w : Int) (K : KT β) : Aj (Xk1 k) Tryz.f93 (PsT.put Xvp (v, w, ())) K = (F93 k v w).bind fun r => K (F93_O.put r) :=
 Eq.trans (b := Xit (Tr k v w K k) k v w) (by kernel_rfl) (by simp only [F93, Xit, z1, z2, z3, z4, z5, z6, z7, z8, Xmw])
def V8 (k : Nat) : FD := ⟨93, Xvp, F93_O, F93 k⟩
theorem Xdp (k : Nat) : (V8 k).Ok Tryz.prog := ⟨fun x => Ac (Am .none _ _ _ _) Ak Tryz.func93 rfl rfl (Yco k _ _ some), .of (by kernel_rfl)⟩
abbrev X36 (k : Nat) : Env := Bc Bx Ao .own [] k
abbrev Xsp : List PA := [.one (.nil (.int .u8)), .one mI]
abbrev F163_O : RO := ⟨[.v], [.sl .own (.int .u8)]⟩
def Xp {β : Type} (RET : Aa → Option β) (k : Nat) (v : Aa) (w : Int) : Option β := cond (decide (w < 0)) none (cond (decide ((i64.wrap (w - 0)) > 0)) (cond (decide (0 ≤ 0) && decide (0 ≤ ((0 : Nat) : Int))) (cond (decide (0 < (i64.wrap (w - 0))) && decide ((i64.wrap (w - 0)) * (1 : Nat) ≤ 140737488355328)) (cond (decide (0 ≤ 0) && decide (0 ≤ ((List.replicate ((i64.wrap (w - 0)).toNat) (Bl (.int .u8))).length : Int))) (RET (((List.replicate ((i64.wrap (w - 0)).toNat) (Bl (.int .u8))).take 0).drop 0)) none) none) none) (RET []))
def Xm4 := Xp (β := Aa) some
theorem Xym {β : Type} (k : Nat) (v : Aa) (w : Int) (K : KT β) : Aj (X36 k) Tryz.f163 (PsT.put Xsp (v, w, ())) K = (Xm4 k v w).bind fun r => K (F163_O.put r) :=
 Eq.trans (b := Xp (fun r => K (F163_O.put r)) k v w) (by kernel_rfl) (by simp only [Xm4, Xp, z1, z2, z3, z4, z5, z6, z7, z8])
def Xqr (k : Nat) : FD := ⟨163, Xsp, F163_O, Xm4 k⟩
theorem Yb2 (k : Nat) : (Xqr k).Ok Tryz.prog := ⟨fun x => Ac (Am .none _ _ _ _) Ak Tryz.func163 rfl rfl (Xym k _ _ some), .of (by kernel_rfl)⟩
def Ycv : Nat → Hint
 | 0 => ⟨pl 0 1 (pl 3 1 (pl 9 3 [])), []⟩
 | 2 => ⟨(6, .own .own (.int .u8) []) :: (pl 25 3 []), []⟩
 | _ => ⟨[], []⟩
abbrev Wy (k : Nat) : Env := Bc (A0 [Xqr k]) Ycv .own [] k
abbrev Xvg : List PA := [.one (.sl .ro (.sl (.int .u8)))]
abbrev F92_O : RO := ⟨[.v], [.sl .own (.int .u8)]⟩
noncomputable def X3p {β : Type} (k : Nat) (v : Ga) (K : KT β) : Ex → St → Option β := Br (Wy k) Tryz.f92 (PsT.put Xvg (v, ())) K
def Yav (v : Ga) (x27_2 : Int) (m6900_2 : Aa) : St := ⟨dz 6 ((.one (.a (.cell 6900) 0 0 none)) :: dz 18 ((.one (.s .ro (.sl (.int .u8)) v)) :: (.one (vI (v.length : Int))) :: (.one (vI x27_2)) :: dz 8 [])), [eM 6900 (.s .own (.int .u8) m6900_2)]⟩
noncomputable def Ss {β : Type} (k : Nat) (v : Ga) (K : KT β) (n : Nat) (x27_2 : Int) (m6900_2 : Aa) : Option β := A2 (Wy k) Tryz.f92 [1, 1, 1, 1, 0, 1, 0] 2 (Ae (Wy k) [1, 1, 1, 1, 0, 1, 0] (Af Tryz.f92) 0 (X3p k v K)) n (Yav v x27_2 m6900_2)
def Oz {β : Type} (NX : Int → Aa → Option β) (RET : Aa → Option β) (k : Nat) (v : Ga) (x27_2 : Int) (m6900_2 : Aa) : Option β := cond (decide (x27_2 < (v.length : Int))) (Ax x27_2 v (Be (m6900_2.length) ((Ad v x27_2).length) 1 (NX (i64.wrap (x27_2 + 1)) (m6900_2 ++ (Ad v x27_2))))) (RET m6900_2)
def Pt (k : Nat) (v : Ga) : Nat → Int → Aa → Option (Aa)
 | 0, _, _ => none
 | n + 1, x27_2, m6900_2 => Oz (Pt k v n) some k v x27_2 m6900_2
theorem Xlv {β : Type} (k : Nat) (v : Ga) (K : KT β) (n : Nat) : ∀ (x27_2 : Int) (m6900_2 : Aa), Ss k v K n x27_2 m6900_2 =
  (Pt k v n x27_2 m6900_2).bind fun r => K (F92_O.put r) := by
 induction n with
 | zero => intros; rfl
 | succ n ih =>
  intro x27_2 m6900_2
  refine Eq.trans (b := Oz (Ss k v K n) (fun r => K (F92_O.put r)) k v x27_2 m6900_2) (by kernel_rfl) ?_
  rw [Pt]
  simp only [Oz, z1, z2, z3, z4, z5, z6, z7, z8, ih]
def X9v (v : Ga) (x3_0 x11_0 : Int) : St := ⟨(.one (.s .ro (.sl (.int .u8)) v)) :: (.one .d) :: (.one .d) :: (.one (vI x3_0)) :: dz 5 ((.one (.s .ro (.sl (.int .u8)) v)) :: (.one (vI (v.length : Int))) :: (.one (vI x11_0)) :: dz 24 []), []⟩
noncomputable def Ur {β : Type} (k : Nat) (v : Ga) (K : KT β) (n : Nat) (x3_0 x11_0 : Int) : Option β := A2 (Wy k) Tryz.f92 [1, 1, 0, 1, 0] 0 (Ae (Wy k) [1, 1, 0, 1, 0] (Af Tryz.f92) 0 (X3p k v K)) n (X9v v x3_0 x11_0)
def Ov {β : Type} (NX : Int → Int → Option β) (LP2 : Int → Aa → Option β) (k : Nat) (v : Ga) (x3_0 x11_0 : Int) : Option β := cond (decide (x11_0 < (v.length : Int))) (Ax x11_0 v (cond (decide ((i64.wrap (x3_0 + ((Ad v x11_0).length : Int))) < 0)) none (NX (i64.wrap (x3_0 + ((Ad v x11_0).length : Int))) (i64.wrap (x11_0 + 1))))) ((Xm4 k [] x3_0).bind fun b1 => LP2 0 b1)
def Q4 (k : Nat) (v : Ga) : Nat → Int → Int → Option (Aa)
 | 0, _, _ => none
 | n + 1, x3_0, x11_0 => Ov (Q4 k v n) (Pt k v k) k v x3_0 x11_0
theorem Xm5 {β : Type} (k : Nat) (v : Ga) (K : KT β) (n : Nat) : ∀ (x3_0 x11_0 : Int), Ur k v K n x3_0 x11_0 =
  (Q4 k v n x3_0 x11_0).bind fun r => K (F92_O.put r) := by
 induction n with
 | zero => intros; rfl
 | succ n ih =>
  intro x3_0 x11_0
  refine Eq.trans (b := Ov (Ur k v K n) (Ss k v K k) k v x3_0 x11_0) (by kernel_rfl) ?_
  rw [Q4]
  simp only [Ov, z1, z2, z3, z4, z5, z6, z7, z8, Xlv, ih]
def Xkk {β : Type} (LP0 : Int → Int → Option β) (k : Nat) (v : Ga) : Option β := LP0 0 0
def F92 (k : Nat) (v : Ga) : Option (Aa) := Xkk (Q4 k v k) k v
theorem Yck {β : Type} (k : Nat) (v : Ga) (K : KT β) : Aj (Wy k) Tryz.f92 (PsT.put Xvg (v, ())) K = (F92 k v).bind fun r => K (F92_O.put r) :=
 Eq.trans (b := Xkk (Ur k v K k) k v) (by kernel_rfl) (by simp only [F92, Xkk, z1, z2, z3, z4, z5, z6, z7, z8, Xm5])
def Xb3 (k : Nat) : FD := ⟨92, Xvg, F92_O, F92 k⟩
theorem Xki (k : Nat) : (Xb3 k).Ok Tryz.prog := ⟨fun x => Ac (Am (Ah (.c (Yb2 k) .n)) _ _ _ _) Ak Tryz.func92 rfl rfl (Yck k _ some), .of (by kernel_rfl)⟩
abbrev Ydv (k : Nat) : Env := Bc (A0 [V8 k, Xb3 k]) Ao .own [] k
abbrev X23 : List PA := [.one mI, .one mI]
abbrev F95_O : RO := ⟨[.v], [.sl .own (.int .u8)]⟩
def Xjc {β : Type} (RET : Aa → Option β) (k : Nat) (v w : Int) : Option β := (F93 k v 2).bind fun b1 => (F93 k w 2).bind fun b2 => (F92 k [b1, b2]).bind fun b3 => RET b3
def F95 := Xjc (β := Aa) some
theorem X77 {β : Type} (k : Nat) (v w : Int) (K : KT β) : Aj (Ydv k) Tryz.f95 (PsT.put X23 (v, w, ())) K = (F95 k v w).bind fun r => K (F95_O.put r) :=
 Eq.trans (b := Xjc (fun r => K (F95_O.put r)) k v w) (by kernel_rfl) (by simp only [F95, Xjc, z1, z2, z3, z4, z5, z6, z7, z8])
def X2k (k : Nat) : FD := ⟨95, X23, F95_O, F95 k⟩
theorem Ycz (k : Nat) : (X2k k).Ok Tryz.prog := ⟨fun x => Ac (Am (Ah (.c (Xdp k) (.c (Xki k) .n))) _ _ _ _) Ak Tryz.func95 rfl rfl (X77 k _ _ some), .of (by kernel_rfl)⟩
def Ycc : Nat → Hint
 | 0 => ⟨pl 3 1 (pl 6 3 []), []⟩
 | _ => ⟨[], []⟩
abbrev Xf (k : Nat) : Env := Bc Bx Ycc .own [] k
abbrev Xh8 : List PA := [.one (.sl .ro (.int .i64))]
abbrev F165_O : RO := ⟨[.v], [mI]⟩
noncomputable def X7m {β : Type} (k : Nat) (v : Bn) (K : KT β) : Ex → St → Option β := Br (Xf k) Tryz.f165 (PsT.put Xh8 (v, ())) K
def Xzs (v : Bn) (x3_0 x8_0 : Int) : St := ⟨dz 3 ((.one (vI x3_0)) :: (.one .d) :: (.one .d) :: (.one (.s .ro (.int .i64) v)) :: (.one (vI (v.length : Int))) :: (.one (vI x8_0)) :: dz 12 []), []⟩
noncomputable def Pb {β : Type} (k : Nat) (v : Bn) (K : KT β) (n : Nat) (x3_0 x8_0 : Int) : Option β := A2 (Xf k) Tryz.f165 [1, 1, 0, 1, 0] 0 (Ae (Xf k) [1, 1, 0, 1, 0] (Af Tryz.f165) 0 (X7m k v K)) n (Xzs v x3_0 x8_0)
def Ez {β : Type} (NX : Int → Int → Option β) (RET : Int → Option β) (k : Nat) (v : Bn) (x3_0 x8_0 : Int) : Option β := cond (decide (x8_0 < (v.length : Int))) (Ax x8_0 v (cond (decide ((i64.wrap (x3_0 + (Ad v x8_0))) > 65535)) (NX (i64.wrap ((i64.wrap (x3_0 + (Ad v x8_0))) - 65535)) (i64.wrap (x8_0 + 1))) (NX (i64.wrap (x3_0 + (Ad v x8_0))) (i64.wrap (x8_0 + 1))))) (RET x3_0)
def Ey (k : Nat) (v : Bn) : Nat → Int → Int → Option (Int)
 | 0, _, _ => none
 | n + 1, x3_0, x8_0 => Ez (Ey k v n) some k v x3_0 x8_0
theorem Xh9 {β : Type} (k : Nat) (v : Bn) (K : KT β) (n : Nat) : ∀ (x3_0 x8_0 : Int), Pb k v K n x3_0 x8_0 =
  (Ey k v n x3_0 x8_0).bind fun r => K (F165_O.put r) := by
 induction n with
 | zero => intros; rfl
 | succ n ih =>
  intro x3_0 x8_0
  refine Eq.trans (b := Ez (Pb k v K n) (fun r => K (F165_O.put r)) k v x3_0 x8_0) (by kernel_rfl) ?_
  rw [Ey]
  simp only [Ez, z1, z2, z3, z4, z5, z6, z7, z8, ih]
def Xhl {β : Type} (LP0 : Int → Int → Option β) (k : Nat) (v : Bn) : Option β := LP0 0 0
def Xbf (k : Nat) (v : Bn) : Option (Int) := Xhl (Ey k v k) k v
theorem Xxf {β : Type} (k : Nat) (v : Bn) (K : KT β) : Aj (Xf k) Tryz.f165 (PsT.put Xh8 (v, ())) K = (Xbf k v).bind fun r => K (F165_O.put r) :=
 Eq.trans (b := Xhl (Pb k v K k) k v) (by kernel_rfl) (by simp only [Xbf, Xhl, z1, z2, z3, z4, z5, z6, z7, z8, Xh9])
def Xoe (k : Nat) : FD := ⟨165, Xh8, F165_O, Xbf k⟩
theorem X8w (k : Nat) : (Xoe k).Ok Tryz.prog := ⟨fun x => Ac (Am .none _ _ _ _) Ak Tryz.func165 rfl rfl (Xxf k _ some), .of (by kernel_rfl)⟩
def Ye7 : Nat → Hint
 | 0 => ⟨pl 3 1 [], pl 3000 1 []⟩
 | _ => ⟨[], []⟩
abbrev Fy (k : Nat) : Env := Bc (A0 [Xoe k]) Ye7 .own [] k
abbrev Xog : List PA := [.one (.sl .ro (.int .u8))]
abbrev F94_O : RO := ⟨[.v], [mI]⟩
noncomputable def Ws {β : Type} (k : Nat) (v : Aa) (K : KT β) : Ex → St → Option β := Br (Fy k) Tryz.f94 (PsT.put Xog (v, ())) K
def Qu (v : Aa) (m3000_0 : Int) : St := ⟨dz 3 ((.one (.ptr (.cell 3000) 1 0)) :: dz 25 []), [iM 3000 m3000_0]⟩
def Fb (k : Nat) (v : Aa) : List Aa → Int → Option (Int)
 | [], m3000_0 => some (i64.wrap (65535 - m3000_0))
 | z0_0 :: r, m3000_0 => cond (decide (0 < (z0_0.length : Int))) (cond (decide ((z0_0.length : Int) > 1)) (cond (decide (1 < (z0_0.length : Int))) ((Xbf k [m3000_0, Co .or .i64 (i64.wrap ((i64.wrap (Ad z0_0 0)) * 2 ^ (8))) (i64.wrap (Ad z0_0 1))]).bind fun b1 => Fb k v r b1) none) ((Xbf k [m3000_0, i64.wrap ((i64.wrap (Ad z0_0 0)) * 2 ^ (8))]).bind fun b2 => Fb k v r b2)) none
theorem Xlz {β : Type} (k : Nat) (v : Aa) (m3000_0 : Int) (K : KT β) :
  Ff (Fy k) Tryz.f94 [1, 1, 0, 1, 0] 0 8 (Ae (Fy k) [1, 1, 0, 1, 0] (Af Tryz.f94) 0 (Ws k v K)) ([] : List Aa) (Qu v m3000_0) =
  K (F94_O.put (i64.wrap (65535 - m3000_0))) := by kernel_rfl
theorem Xnl {β : Type} (k : Nat) (v : Aa) (z0_0 : Aa) (r : List Aa) (m3000_0 : Int) (K : KT β) :
  Ff (Fy k) Tryz.f94 [1, 1, 0, 1, 0] 0 8 (Ae (Fy k) [1, 1, 0, 1, 0] (Af Tryz.f94) 0 (Ws k v K)) (z0_0 :: r) (Qu v m3000_0) =
  cond (decide (0 < (z0_0.length : Int))) (cond (decide ((z0_0.length : Int) > 1)) (cond (decide (1 < (z0_0.length : Int))) ((Xbf k [m3000_0, Co .or .i64 (i64.wrap ((i64.wrap (Ad z0_0 0)) * 2 ^ (8))) (i64.wrap (Ad z0_0 1))]).bind fun b1 => Ff (Fy k) Tryz.f94 [1, 1, 0, 1, 0] 0 8 (Ae (Fy k) [1, 1, 0, 1, 0] (Af Tryz.f94) 0 (Ws k v K)) r (Qu v b1)) none) ((Xbf k [m3000_0, i64.wrap ((i64.wrap (Ad z0_0 0)) * 2 ^ (8))]).bind fun b2 => Ff (Fy k) Tryz.f94 [1, 1, 0, 1, 0] 0 8 (Ae (Fy k) [1, 1, 0, 1, 0] (Af Tryz.f94) 0 (Ws k v K)) r (Qu v b2))) none := by kernel_rfl
theorem Xna {β : Type} (k : Nat) (v : Aa) (K : KT β) (l : List Aa) : ∀ (m3000_0 : Int), Ff (Fy k) Tryz.f94 [1, 1, 0, 1, 0] 0 8 (Ae (Fy k) [1, 1, 0, 1, 0] (Af Tryz.f94) 0 (Ws k v K)) l (Qu v m3000_0) =
  (Fb k v l m3000_0).bind fun r => K (F94_O.put r) := by
 induction l with
 | nil => intros; rw [Xlz, Fb]; simp only [z1, z2, z3, z4, z5, z6, z7, z8]
 | cons z r ih =>
  intros
  rw [Xnl, Fb]
  simp only [z1, z2, z3, z4, z5, z6, z7, z8, ih]
def F94 (k : Nat) (v : Aa) : Option (Int) := cond (decide (1 ≤ 2) && decide (2 ≤ 9223372036854775807) && decide (v.length ≤ 140737488355328)) (Fb k v (Cc ((2 : Int).toNat) v) 0) none
theorem X9w {β : Type} (k : Nat) (v : Aa) (K : KT β) : Aj (Fy k) Tryz.f94 (PsT.put Xog (v, ())) K = (F94 k v).bind fun r => K (F94_O.put r) :=
 Eq.trans (b := cond (decide (1 ≤ 2) && decide (2 ≤ 9223372036854775807) && decide (v.length ≤ 140737488355328)) (Ff (Fy k) Tryz.f94 [1, 1, 0, 1, 0] 0 8 (Ae (Fy k) [1, 1, 0, 1, 0] (Af Tryz.f94) 0 (Ws k v K)) (Cc ((2 : Int).toNat) v) (Qu v 0)) none) (by kernel_rfl) (by simp only [F94, z1, z2, z3, z4, z5, z6, z7, z8, Xna])
def Xqi (k : Nat) : FD := ⟨94, Xog, F94_O, F94 k⟩
theorem X27 (k : Nat) : (Xqi k).Ok Tryz.prog := ⟨fun x => Ac (Am (Ah (.c (X8w k) .n)) _ _ _ _) Ak Tryz.func94 rfl rfl (X9w k _ some), .of (by kernel_rfl)⟩
abbrev Ycy (k : Nat) : Env := { Bc (A0 [Xkg k, Jm k, X2k k, Xb3 k, Xqi k, V8 k]) Ao .own [] k with frz := [34] }
abbrev X3k : List PA := [.agg (.pair mI (.pair mI O2)), .one mI]
abbrev F33_O : RO := ⟨[.v], [.sl .own (.int .u8)]⟩
def Xjs {β : Type} (RET : Aa → Option β) (k : Nat) (v : (den Bd)) (w : Int) : Option β := Ek v fun v0 v1 v2 v3 => (F79 k v).bind fun b1 => cond (!b1) (RET []) ((Xw k w).bind fun b2 => cond (!b2) (RET []) (Be ([u8.wrap v1, u8.wrap v2, u8.wrap (v3.length : Int)].length) (v3.length) 1 ((F95 k v0 w).bind fun b3 => (F92 k [b3, [u8.wrap v1, u8.wrap v2, u8.wrap (v3.length : Int)] ++ v3]).bind fun b4 => (F94 k b4).bind fun b5 => (F93 k b5 2).bind fun b6 => (F92 k [[u8.wrap v1, u8.wrap v2, u8.wrap (v3.length : Int)] ++ v3, b6]).bind fun b7 => RET b7)))
def F33 := Xjs (β := Aa) some
theorem X7h {β : Type} (k : Nat) (v : (den Bd)) (w : Int) (K : KT β) : Aj (Ycy k) Tryz.f33 (PsT.put X3k (v, w, ())) K = (F33 k v w).bind fun r => K (F33_O.put r) :=
 Eq.trans (b := Xjs (fun r => K (F33_O.put r)) k v w) (by kernel_rfl) (by simp only [F33, Xjs, z1, z2, z3, z4, z5, z6, z7, z8, Ek])
def Xks (k : Nat) : FD := ⟨33, X3k, F33_O, F33 k⟩
theorem Xvz (k : Nat) : (Xks k).Ok Tryz.prog := ⟨fun x => Ac (Qh [34] (Ah (.c (Xup k) (.c (L2 k) (.c (Ycz k) (.c (Xki k) (.c (X27 k) (.c (Xdp k) .n))))))) _ _ _ _) Ak Tryz.func33 rfl rfl (X7h k _ _ some), .of (by kernel_rfl)⟩
abbrev X46 (k : Nat) : Env := Bc (A0 [M6 k]) Ao .own [] k
abbrev Xv4 : List PA := [.agg (.pair mI Dd)]
abbrev F214_O : RO := ⟨[.a], [.pair mI M5]⟩
def Se (k : Nat) (v : (den Ai)) : Option ((den Ai)) := Az v fun v0 v1 v2 v3 v4 v5 v6 v7 v8 => (Qm k v8).bind fun b1 => some (v0, v1, v2, v3, v4, v5, v6, v7, b1)
theorem Xz1 {β : Type} (k : Nat) (v : (den Ai)) (K : KT β) : Aj (X46 k) Tryz.f214 (PsT.put Xv4 (v, ())) K = (Se k v).bind fun r => K (F214_O.put r) :=
 Eq.trans (b := (Qm k v.2.2.2.2.2.2.2.2).bind fun b1 => K (F214_O.put (v.1, v.2.1, v.2.2.1, v.2.2.2.1, v.2.2.2.2.1, v.2.2.2.2.2.1, v.2.2.2.2.2.2.1, v.2.2.2.2.2.2.2.1, b1))) (by kernel_rfl) (by simp only [Se, z1, z2, z3, z4, z5, z6, z7, z8, Az])
def P9 (k : Nat) : FD := ⟨214, Xv4, F214_O, Se k⟩
theorem Ue (k : Nat) : (P9 k).Ok Tryz.prog := ⟨fun x => Ac (Am (Ah (.c (Q5 k) .n)) _ _ _ _) Ak Tryz.func214 rfl rfl (Xz1 k _ some), .of (by kernel_rfl)⟩
abbrev Ydw (k : Nat) : Env := Bc (A0 [Jm k, Gl k]) Ao .own [] k
abbrev X2y : List PA := [.agg (.pair mI Dd)]
abbrev F89_O : RO := ⟨[.v], [mB]⟩
def Xka {β : Type} (RET : Bool → Option β) (k : Nat) (v : (den Ai)) : Option β := Az v fun v0 v1 v2 v3 v4 v5 v6 v7 v8 => (Xw k v0).bind fun b1 => cond b1 ((Xw k v1).bind fun b2 => cond b2 ((Rp k v2 0 255).bind fun b3 => cond b3 ((Rp k v3 0 255).bind fun b4 => cond b4 ((Rp k v4 0 255).bind fun b5 => cond b5 ((Rp k v5 0 255).bind fun b6 => cond b6 (cond (decide ((v8.length : Int) ≤ 48)) (cond (!v6) (cond (!v7) (RET true) (cond (v5 == 0) (RET (!v6)) (RET false))) (cond (decide ((v8.length : Int) > 0)) (cond (!v7) (RET true) (cond (v5 == 0) (RET (!v6)) (RET false))) (RET false))) (RET false)) (RET false)) (RET false)) (RET false)) (RET false)) (RET false)) (RET false)
def F89 := Xka (β := Bool) some
theorem X6v {β : Type} (k : Nat) (v : (den Ai)) (K : KT β) : Aj (Ydw k) Tryz.f89 (PsT.put X2y (v, ())) K = (F89 k v).bind fun r => K (F89_O.put r) :=
 Eq.trans (b := Xka (fun r => K (F89_O.put r)) k v) (by kernel_rfl) (by simp only [F89, Xka, z1, z2, z3, z4, z5, z6, z7, z8, Az])
def Xc9 (k : Nat) : FD := ⟨89, X2y, F89_O, F89 k⟩
theorem Xkq (k : Nat) : (Xc9 k).Ok Tryz.prog := ⟨fun x => Ac (Am (Ah (.c (L2 k) (.c (G7 k) .n))) _ _ _ _) Ak Tryz.func89 rfl rfl (X6v k _ some), .of (by kernel_rfl)⟩
def X65 : Nat → Hint
 | 0 => ⟨pl 7 1 (pl 30 3 []), []⟩
 | _ => ⟨[], []⟩
abbrev Xar (k : Nat) : Env := Bc (A0 [Gl k]) X65 .own [] k
abbrev Xfv : List PA := [.one (.sl .ro (.int .u8)), .one mI, .one mI]
abbrev F201_O : RO := ⟨[.v], [mI]⟩
noncomputable def X41 {β : Type} (k : Nat) (v : Aa) (w p : Int) (K : KT β) : Ex → St → Option β := Br (Xar k) Tryz.f201 (PsT.put Xfv (v, w, p, ())) K
def Xw3 (v : Aa) (w p : Int) (x7_0 x32_0 : Int) : St := ⟨dz 7 ((.one (vI x7_0)) :: dz 22 ((.one (.s .ro (.int .u8) ((v.take ((i64.wrap (w + p)).toNat)).drop w.toNat))) :: (.one (vI (((v.take ((i64.wrap (w + p)).toNat)).drop w.toNat).length : Int))) :: (.one (vI x32_0)) :: dz 10 [])), []⟩
noncomputable def Rg {β : Type} (k : Nat) (v : Aa) (w p : Int) (K : KT β) (n : Nat) (x7_0 x32_0 : Int) : Option β := A2 (Xar k) Tryz.f201 [1, 1, 1, 0, 1, 0] 0 (Ae (Xar k) [1, 1, 1, 0, 1, 0] (Af Tryz.f201) 0 (X41 k v w p K)) n (Xw3 v w p x7_0 x32_0)
def E5 {β : Type} (NX : Int → Int → Option β) (RET : Int → Option β) (k : Nat) (v : Aa) (w p : Int) (x7_0 x32_0 : Int) : Option β := cond (decide (x32_0 < (((v.take ((i64.wrap (w + p)).toNat)).drop w.toNat).length : Int))) (Ax x32_0 ((v.take ((i64.wrap (w + p)).toNat)).drop w.toNat) (NX (Co .or .i64 (i64.wrap (x7_0 * 2 ^ (8))) (i64.wrap (Ad ((v.take ((i64.wrap (w + p)).toNat)).drop w.toNat) x32_0))) (i64.wrap (x32_0 + 1)))) (RET x7_0)
def Gd (k : Nat) (v : Aa) (w p : Int) : Nat → Int → Int → Option (Int)
 | 0, _, _ => none
 | n + 1, x7_0, x32_0 => E5 (Gd k v w p n) some k v w p x7_0 x32_0
theorem Xes {β : Type} (k : Nat) (v : Aa) (w p : Int) (K : KT β) (n : Nat) : ∀ (x7_0 x32_0 : Int), Rg k v w p K n x7_0 x32_0 =
  (Gd k v w p n x7_0 x32_0).bind fun r => K (F201_O.put r) := by
 induction n with
 | zero => intros; rfl
 | succ n ih =>
  intro x7_0 x32_0
  refine Eq.trans (b := E5 (Rg k v w p K n) (fun r => K (F201_O.put r)) k v w p x7_0 x32_0) (by kernel_rfl) ?_
  rw [Gd]
  simp only [E5, z1, z2, z3, z4, z5, z6, z7, z8, ih]
def X1 {β : Type} (LP0 : Int → Int → Option β) (RET : Int → Option β) (k : Nat) (v : Aa) (w p : Int) : Option β := (Rp k p 1 4).bind fun b1 => cond (!b1) (RET (-1)) (cond (decide (w < 0)) (RET (-1)) (cond (decide (w > (i64.wrap ((v.length : Int) - p)))) (RET (-1)) (cond (decide (0 ≤ (i64.wrap (w + p))) && decide ((i64.wrap (w + p)) ≤ (v.length : Int))) (cond (decide (0 ≤ w) && decide (w ≤ (i64.wrap (w + p)))) (LP0 0 0) none) none)))
def Xl0 (k : Nat) (v : Aa) (w p : Int) : Option (Int) := X1 (Gd k v w p k) some k v w p
theorem X0x {β : Type} (k : Nat) (v : Aa) (w p : Int) (K : KT β) : Aj (Xar k) Tryz.f201 (PsT.put Xfv (v, w, p, ())) K = (Xl0 k v w p).bind fun r => K (F201_O.put r) :=
 Eq.trans (b := X1 (Rg k v w p K k) (fun r => K (F201_O.put r)) k v w p) (by kernel_rfl) (by simp only [Xl0, X1, z1, z2, z3, z4, z5, z6, z7, z8, Xes])
def Xut (k : Nat) : FD := ⟨201, Xfv, F201_O, Xl0 k⟩
theorem Ybj (k : Nat) : (Xut k).Ok Tryz.prog := ⟨fun x => Ac (Am (Ah (.c (G7 k) .n)) _ _ _ _) Ak Tryz.func201 rfl rfl (X0x k _ _ _ some), .of (by kernel_rfl)⟩
end
end Go.Proofs.YtdmepjjepogddaaGreat.Gn
end

section
set_option linter.unusedVariables false
set_option linter.unusedSimpArgs false
namespace Go.Proofs.YtdmepjjepogddaaGreat.Gn
open Go.Rf IntKind
noncomputable section
abbrev X69 (k : Nat) : Env := Bc (A0 [Gl k, Jm k]) Ao .own [] k
abbrev Xol : List PA := [.agg (.pair mI O2)]
abbrev F374_O : RO := ⟨[.v], [mB]⟩
def Xe {β : Type} (RET : Bool → Option β) (k : Nat) (v : (Int × (Int × Aa))) : Option β := (Rp k v.1 1 6).bind fun b1 => cond b1 ((Xw k v.2.1).bind fun b2 => cond b2 (RET (decide ((v.2.2.length : Int) ≤ 20))) (RET false)) (RET false)
def Xm8 := Xe (β := Bool) some
theorem Xzz {β : Type} (k : Nat) (v : (Int × (Int × Aa))) (K : KT β) : Aj (X69 k) Tryz.f374 (PsT.put Xol (v, ())) K = (Xm8 k v).bind fun r => K (F374_O.put r) :=
 Eq.trans (b := Xe (fun r => K (F374_O.put r)) k v) (by kernel_rfl) (by simp only [Xm8, Xe, z1, z2, z3, z4, z5, z6, z7, z8])
def Xuj (k : Nat) : FD := ⟨374, Xol, F374_O, Xm8 k⟩
theorem X6q (k : Nat) : (Xuj k).Ok Tryz.prog := ⟨fun x => Ac (Am (Ah (.c (G7 k) (.c (L2 k) .n))) _ _ _ _) Ak Tryz.func374 rfl rfl (Xzz k _ some), .of (by kernel_rfl)⟩
abbrev Ya8 (k : Nat) : Env := Bc (A0 [Xuj k, V8 k, Xb3 k]) Ao .own [] k
abbrev Xr0 : List PA := [.agg (.pair mI O2)]
abbrev F366_O : RO := ⟨[.v], [.sl .own (.int .u8)]⟩
def X9 {β : Type} (RET : Aa → Option β) (k : Nat) (v : (Int × (Int × Aa))) : Option β := u_4 v fun v0 v1 v2 => (Xm8 k v).bind fun b1 => cond (!b1) (RET []) ((F93 k v1 2).bind fun b2 => (F92 k [[u8.wrap v0], b2, [u8.wrap (v2.length : Int)], v2]).bind fun b3 => RET b3)
def Xd2 := X9 (β := Aa) some
theorem X1j {β : Type} (k : Nat) (v : (Int × (Int × Aa))) (K : KT β) : Aj (Ya8 k) Tryz.f366 (PsT.put Xr0 (v, ())) K = (Xd2 k v).bind fun r => K (F366_O.put r) :=
 Eq.trans (b := X9 (fun r => K (F366_O.put r)) k v) (by kernel_rfl) (by simp only [Xd2, X9, z1, z2, z3, z4, z5, z6, z7, z8, u_4])
def Xeu (k : Nat) : FD := ⟨366, Xr0, F366_O, Xd2 k⟩
theorem Xv0 (k : Nat) : (Xeu k).Ok Tryz.prog := ⟨fun x => Ac (Am (Ah (.c (X6q k) (.c (Xdp k) (.c (Xki k) .n)))) _ _ _ _) Ak Tryz.func366 rfl rfl (X1j k _ some), .of (by kernel_rfl)⟩
def X60 : Nat → Hint
 | 0 => ⟨pl 0 2 (pl 12 2 []), []⟩
 | _ => ⟨[], []⟩
abbrev Y2 (k : Nat) : Env := Bc Bx X60 .own [] k
abbrev Xfq : List PA := [.one (.sl .ro (.int .u8)), .one (.sl .ro (.int .u8))]
abbrev F159_O : RO := ⟨[.v], [mB]⟩
noncomputable def Yaz {β : Type} (k : Nat) (v w : Aa) (K : KT β) : Ex → St → Option β := Br (Y2 k) Tryz.f159 (PsT.put Xfq (v, w, ())) K
def Xzd (v w : Aa) (x13_0 : Int) : St := ⟨(.one (.s .ro (.int .u8) v)) :: (.one (.s .ro (.int .u8) w)) :: dz 10 ((.one (vI (v.length : Int))) :: (.one (vI x13_0)) :: dz 12 []), []⟩
noncomputable def Py {β : Type} (k : Nat) (v w : Aa) (K : KT β) (n : Nat) (x13_0 : Int) : Option β := A2 (Y2 k) Tryz.f159 [1, 1, 0, 1, 0] 0 (Ae (Y2 k) [1, 1, 0, 1, 0] (Af Tryz.f159) 0 (Yaz k v w K)) n (Xzd v w x13_0)
def Hk {β : Type} (NX : Int → Option β) (RET : Bool → Option β) (k : Nat) (v w : Aa) (x13_0 : Int) : Option β := cond (decide (x13_0 < (v.length : Int))) (Ax x13_0 v (Ax x13_0 w (cond ((Ad v x13_0) != (Ad w x13_0)) (RET false) (NX (i64.wrap (x13_0 + 1)))))) (RET true)
def Ht (k : Nat) (v w : Aa) : Nat → Int → Option (Bool)
 | 0, _ => none
 | n + 1, x13_0 => Hk (Ht k v w n) some k v w x13_0
theorem Xew {β : Type} (k : Nat) (v w : Aa) (K : KT β) (n : Nat) : ∀ (x13_0 : Int), Py k v w K n x13_0 =
  (Ht k v w n x13_0).bind fun r => K (F159_O.put r) := by
 induction n with
 | zero => intros; rfl
 | succ n ih =>
  intro x13_0
  refine Eq.trans (b := Hk (Py k v w K n) (fun r => K (F159_O.put r)) k v w x13_0) (by kernel_rfl) ?_
  rw [Ht]
  simp only [Hk, z1, z2, z3, z4, z5, z6, z7, z8, ih]
def Y0 {β : Type} (LP0 : Int → Option β) (RET : Bool → Option β) (k : Nat) (v w : Aa) : Option β := cond ((v.length : Int) != (w.length : Int)) (RET false) (LP0 0)
def Xdo (k : Nat) (v w : Aa) : Option (Bool) := Y0 (Ht k v w k) some k v w
theorem X0o {β : Type} (k : Nat) (v w : Aa) (K : KT β) : Aj (Y2 k) Tryz.f159 (PsT.put Xfq (v, w, ())) K = (Xdo k v w).bind fun r => K (F159_O.put r) :=
 Eq.trans (b := Y0 (Py k v w K k) (fun r => K (F159_O.put r)) k v w) (by kernel_rfl) (by simp only [Xdo, Y0, z1, z2, z3, z4, z5, z6, z7, z8, Xew])
def Zb (k : Nat) : FD := ⟨159, Xfq, F159_O, Xdo k⟩
theorem Xil (k : Nat) : (Zb k).Ok Tryz.prog := ⟨fun x => Ac (Am .none _ _ _ _) Ak Tryz.func159 rfl rfl (X0o k _ _ some), .of (by kernel_rfl)⟩
abbrev X50 (k : Nat) : Env := Bc (A0 [Xut k, M6 k, Xeu k, Zb k]) Ao .own [] k
abbrev Xu9 : Type := (Int × (Int × Aa)) × Bool
abbrev Xpc : List PA := [.one (.sl .ro (.int .u8))]
abbrev F365_O : RO := ⟨[.a, .v], [.pair mI m_3, mB]⟩
def Y6 {β : Type} (RET : Xu9 → Option β) (k : Nat) (v : Aa) : Option β := cond (decide ((v.length : Int) < 4)) (RET ((0, 0, []), false)) (cond (decide (0 < (v.length : Int))) ((Xl0 k v 1 2).bind fun b1 => cond (decide (0 ≤ 4) && decide (4 ≤ (v.length : Int))) ((Qm k (v.drop 4)).bind fun b2 => (Xd2 k (i64.wrap (Ad v 0), b1, b2)).bind fun b3 => (Xdo k b3 v).bind fun b4 => cond (!b4) (RET ((0, 0, []), false)) (RET ((i64.wrap (Ad v 0), b1, b2), true))) none) none)
def Xnc := Y6 (β := Xu9) some
theorem Xxe {β : Type} (k : Nat) (v : Aa) (K : KT β) : Aj (X50 k) Tryz.f365 (PsT.put Xpc (v, ())) K = (Xnc k v).bind fun r => K (F365_O.put r) :=
 Eq.trans (b := Y6 (fun r => K (F365_O.put r)) k v) (by kernel_rfl) (by simp only [Xnc, Y6, z1, z2, z3, z4, z5, z6, z7, z8])
def Xvb (k : Nat) : FD := ⟨365, Xpc, F365_O, Xnc k⟩
theorem Ycd (k : Nat) : (Xvb k).Ok Tryz.prog := ⟨fun x => Ac (Am (Ah (.c (Ybj k) (.c (Q5 k) (.c (Xv0 k) (.c (Xil k) .n))))) _ _ _ _) Ak Tryz.func365 rfl rfl (Xxe k _ some), .of (by kernel_rfl)⟩
abbrev X4n (k : Nat) : Env := Bc (A0 [Xvb k]) Ao .own [] k
abbrev Xt6 : List PA := [.agg (.pair mI Dd)]
abbrev F350_O : RO := ⟨[.v], [mB]⟩
def Xao {β : Type} (RET : Bool → Option β) (k : Nat) (v : (den Ai)) : Option β := (Xnc k v.2.2.2.2.2.2.2.2).bind fun b1 => cond b1.2 (cond (v.2.2.1 == 1) (RET (decide (b1.1.1 ≥ 3))) (RET false)) (RET false)
def Xlr := Xao (β := Bool) some
theorem Xw2 {β : Type} (k : Nat) (v : (den Ai)) (K : KT β) : Aj (X4n k) Tryz.f350 (PsT.put Xt6 (v, ())) K = (Xlr k v).bind fun r => K (F350_O.put r) :=
 Eq.trans (b := Xao (fun r => K (F350_O.put r)) k v) (by kernel_rfl) (by simp only [Xlr, Xao, z1, z2, z3, z4, z5, z6, z7, z8, Az])
def Xtu (k : Nat) : FD := ⟨350, Xt6, F350_O, Xlr k⟩
theorem X93 (k : Nat) : (Xtu k).Ok Tryz.prog := ⟨fun x => Ac (Am (Ah (.c (Ycd k) .n)) _ _ _ _) Ak Tryz.func350 rfl rfl (Xw2 k _ some), .of (by kernel_rfl)⟩
abbrev X8x (k : Nat) : Env := Bc Bx Ao .own [] k
abbrev Xoq : List PA := [.one mB, .one mI]
abbrev F199_O : RO := ⟨[.v], [mI]⟩
def Xhp (k : Nat) (v : Bool) (w : Int) : Option (Int) := cond v (some w) (some 0)
theorem X00 {β : Type} (k : Nat) (v : Bool) (w : Int) (K : KT β) : Aj (X8x k) Tryz.f199 (PsT.put Xoq (v, w, ())) K = (Xhp k v w).bind fun r => K (F199_O.put r) :=
 Eq.trans (b := cond v (K (F199_O.put w)) (K (F199_O.put 0))) (by kernel_rfl) (by simp only [Xhp, z1, z2, z3, z4, z5, z6, z7, z8])
def Xss (k : Nat) : FD := ⟨199, Xoq, F199_O, Xhp k⟩
theorem X4m (k : Nat) : (Xss k).Ok Tryz.prog := ⟨fun x => Ac (Am .none _ _ _ _) Ak Tryz.func199 rfl rfl (X00 k _ _ some), .of (by kernel_rfl)⟩
abbrev X82 (k : Nat) : Env := Bc (A0 [V8 k, Xss k, Xb3 k, Xqi k]) Ao .own [] k
abbrev Xvy : List PA := [.agg (.pair mI Dd)]
abbrev F351_O : RO := ⟨[.v], [.sl .own (.int .u8)]⟩
def Xan {β : Type} (RET : Aa → Option β) (k : Nat) (v : (den Ai)) : Option β := Az v fun v0 v1 v2 v3 v4 v5 v6 v7 v8 => (F93 k v0 2).bind fun b1 => (F93 k v1 2).bind fun b2 => (Xhp k v6 1).bind fun b3 => (Xhp k v7 2).bind fun b4 => (F92 k [b1, b2, [u8.wrap v2, u8.wrap v3, u8.wrap v4, u8.wrap v5, u8.wrap (i64.wrap (b3 + b4)), u8.wrap (v8.length : Int)]]).bind fun b5 => (F94 k b5).bind fun b6 => (F93 k b6 2).bind fun b7 => (F92 k [b5, b7, v8]).bind fun b8 => RET b8
def Xn1 := Xan (β := Aa) some
theorem Xy9 {β : Type} (k : Nat) (v : (den Ai)) (K : KT β) : Aj (X82 k) Tryz.f351 (PsT.put Xvy (v, ())) K = (Xn1 k v).bind fun r => K (F351_O.put r) :=
 Eq.trans (b := Xan (fun r => K (F351_O.put r)) k v) (by kernel_rfl) (by simp only [Xn1, Xan, z1, z2, z3, z4, z5, z6, z7, z8, Az])
def Xsd (k : Nat) : FD := ⟨351, Xvy, F351_O, Xn1 k⟩
theorem Ya7 (k : Nat) : (Xsd k).Ok Tryz.prog := ⟨fun x => Ac (Am (Ah (.c (Xdp k) (.c (X4m k) (.c (Xki k) (.c (X27 k) .n))))) _ _ _ _) Ak Tryz.func351 rfl rfl (Xy9 k _ some), .of (by kernel_rfl)⟩
abbrev X8m (k : Nat) : Env := Bc (A0 [Xeu k]) Ao .own [] k
abbrev Xvs : List PA := [.one mI, .agg (.pair mI Dd), .agg (.pair mI O2)]
abbrev F352_O : RO := ⟨[.a], [.pair mI M5]⟩
def Xwi (k : Nat) (v : Int) (w : (den Ai)) (p : (Int × (Int × Aa))) : Option ((den Ai)) := (Xd2 k p).bind fun b1 => some (v, w.1, 1, 64, w.2.2.2.2.1, 0, false, false, b1)
theorem Xyh {β : Type} (k : Nat) (v : Int) (w : (den Ai)) (p : (Int × (Int × Aa))) (K : KT β) : Aj (X8m k) Tryz.f352 (PsT.put Xvs (v, w, p, ())) K = (Xwi k v w p).bind fun r => K (F352_O.put r) :=
 Eq.trans (b := (Xd2 k p).bind fun b1 => K (F352_O.put (v, w.1, 1, 64, w.2.2.2.2.1, 0, false, false, b1))) (by kernel_rfl) (by simp only [Xwi, z1, z2, z3, z4, z5, z6, z7, z8, u_4, Az])
def Xq4 (k : Nat) : FD := ⟨352, Xvs, F352_O, Xwi k⟩
theorem Yb3 (k : Nat) : (Xq4 k).Ok Tryz.prog := ⟨fun x => Ac (Am (Ah (.c (Xv0 k) .n)) _ _ _ _) Ak Tryz.func352 rfl rfl (Xyh k _ _ _ some), .of (by kernel_rfl)⟩
abbrev X55 (k : Nat) : Env := Bc (A0 [Xc9 k, Jm k, Xtu k, Gl k, Xsd k, Xq4 k]) Ao .own [] k
abbrev Xvt : List PA := [.agg (.pair mI Dd), .one mI, .one mI, .one mI]
abbrev F326_O : RO := ⟨[.a, .v], [.pair mI M5, mB]⟩
def Xt {β : Type} (RET : (den Ai) × Bool → Option β) (k : Nat) (v : (den Ai)) (w p q : Int) : Option β := (F89 k v).bind fun b1 => cond (!b1) (RET ((0, 0, 0, 0, 0, 0, false, false, []), false)) ((Xw k w).bind fun b2 => cond (!b2) (RET ((0, 0, 0, 0, 0, 0, false, false, []), false)) (cond (v.2.2.2.2.2.1 != 0) (RET ((0, 0, 0, 0, 0, 0, false, false, []), false)) ((Xlr k v).bind fun b3 => cond b3 (RET ((0, 0, 0, 0, 0, 0, false, false, []), false)) ((Rp k p 3 6).bind fun b4 => cond (!b4) (RET ((0, 0, 0, 0, 0, 0, false, false, []), false)) ((Xw k q).bind fun b5 => cond (!b5) (RET ((0, 0, 0, 0, 0, 0, false, false, []), false)) ((Xn1 k v).bind fun b6 => cond (decide (0 ≤ (if 20 < (b6.length : Int) then 20 else (b6.length : Int))) && decide ((if 20 < (b6.length : Int) then 20 else (b6.length : Int)) ≤ (b6.length : Int))) ((Xwi k w v (p, q, (b6.take ((if 20 < (b6.length : Int) then 20 else (b6.length : Int)).toNat)).drop 0)).bind fun b7 => RET (b7, true)) none))))))
def Xc2 := Xt (β := (den Ai) × Bool) some
theorem Xxo {β : Type} (k : Nat) (v : (den Ai)) (w p q : Int) (K : KT β) : Aj (X55 k) Tryz.f326 (PsT.put Xvt (v, w, p, q, ())) K = (Xc2 k v w p q).bind fun r => K (F326_O.put r) :=
 Eq.trans (b := Xt (fun r => K (F326_O.put r)) k v w p q) (by kernel_rfl) (by simp only [Xc2, Xt, z1, z2, z3, z4, z5, z6, z7, z8, Az])
def Xu0 (k : Nat) : FD := ⟨326, Xvt, F326_O, Xc2 k⟩
theorem X92 (k : Nat) : (Xu0 k).Ok Tryz.prog := ⟨fun x => Ac (Am (Ah (.c (Xkq k) (.c (L2 k) (.c (X93 k) (.c (G7 k) (.c (Ya7 k) (.c (Yb3 k) .n))))))) _ _ _ _) Ak Tryz.func326 rfl rfl (Xxo k _ _ _ _ some), .of (by kernel_rfl)⟩
abbrev X9c (k : Nat) : Env := Bc (A0 [Xu0 k]) Ao .own [] k
abbrev Xqy : List PA := [.agg (.pair mI (.sl .ro Ci)), .agg (.pair mI Dd), .one mI, .one mI]
abbrev F264_O : RO := ⟨[.a], [Xst]⟩
def Xca (k : Nat) (v : (den sta)) (w : (den Ai)) (p q : Int) : Option ((den Sd)) := (Xc2 k w v.1 p q).bind fun b1 => cond (!b1.2) (some (0, 0, [])) (some (3, 0, [b1.1]))
theorem Xyx {β : Type} (k : Nat) (v : (den sta)) (w : (den Ai)) (p q : Int) (K : KT β) : Aj (X9c k) Tryz.f264 (PsT.put Xqy (v, w, p, q, ())) K = (Xca k v w p q).bind fun r => K (F264_O.put r) :=
 Eq.trans (b := (Xc2 k w v.1 p q).bind fun b1 => cond (!b1.2) (K (F264_O.put (0, 0, []))) (K (F264_O.put (3, 0, [b1.1])))) (by kernel_rfl) (by simp only [Xca, z1, z2, z3, z4, z5, z6, z7, z8, Az])
def Xrc (k : Nat) : FD := ⟨264, Xqy, F264_O, Xca k⟩
theorem X91 (k : Nat) : (Xrc k).Ok Tryz.prog := ⟨fun x => Ac (Am (Ah (.c (X92 k) .n)) _ _ _ _) Ak Tryz.func264 rfl rfl (Xyx k _ _ _ _ some), .of (by kernel_rfl)⟩
abbrev Yeb : List PA := [.one (.sl .ro Ci), .one mI, .one mI]
abbrev Ydf : RO := ⟨[.a, .v], [m_7, mB]⟩
def F74 (k : Nat) (v : A5) (w p : Int) : Option (den Ci × Bool) := Rt.to v w p
def Xpe (k : Nat) : FD := ⟨74, Yeb, Ydf, F74 k⟩
theorem X3f (k : Nat) : (Xpe k).Ok Tryz.prog := ⟨fun x => Rt.con x.1 x.2.1 x.2.2.1, .of (by kernel_rfl)⟩
abbrev X8h (k : Nat) : Env := Bc Bx Ao .own [] k
abbrev Xrq : List PA := [.one (.sl .own Ai)]
abbrev F266_O : RO := ⟨[.v], [.sl .own Ai]⟩
def Yy {β : Type} (RET : Aq → Option β) (k : Nat) (v : Aq) : Option β := cond (decide (0 ≤ (v.length : Int)) && decide ((v.length : Int) ≤ (v.length : Int))) (cond (decide ((v.length : Int) = (v.length : Int))) (RET ((v.take ((v.length : Int).toNat)).drop 0)) none) none
def Xck := Yy (β := Aq) some
theorem Xzi {β : Type} (k : Nat) (v : Aq) (K : KT β) : Aj (X8h k) Tryz.f266 (PsT.put Xrq (v, ())) K = (Xck k v).bind fun r => K (F266_O.put r) :=
 Eq.trans (b := Yy (fun r => K (F266_O.put r)) k v) (by kernel_rfl) (by simp only [Xck, Yy, z1, z2, z3, z4, z5, z6, z7, z8])
def Xfn (k : Nat) : FD := ⟨266, Xrq, F266_O, Xck k⟩
theorem Xtf (k : Nat) : (Xfn k).Ok Tryz.prog := ⟨fun x => Ac (Am .none _ _ _ _) Ak Tryz.func266 rfl rfl (Xzi k _ some), .of (by kernel_rfl)⟩
def Ycn : Nat → Hint
 | 0 => ⟨pl 2 1 (pl 6 2 []), pl 2000 9 ((6000, .own .own Ai []) :: (pl 7000 1 []))⟩
 | _ => ⟨[], []⟩
abbrev Ee (k : Nat) : Env := Bc (A0 [P9 k, M6 k, Xfn k]) Ycn .own [] k
abbrev Xhs : List PA := [.agg (.pair mI Dd), .one mI]
abbrev F265_O : RO := ⟨[.v, .v], [.sl .own Ai, mB]⟩
noncomputable def U8 {β : Type} (k : Nat) (v : (den Ai)) (w : Int) (K : KT β) : Ex → St → Option β := Br (Ee k) Tryz.f265 (PsT.put Xhs (v, w, ())) K
def O0 (v : (den Ai)) (w : Int) (m6000_0 : Aq) (m7000_0 : Int) : St := ⟨(.one .d) :: (.one .d) :: (.one (.ptr (.cell 2000) 9 0)) :: dz 3 ((.one (.ptr (.cell 6000) 1 0)) :: (.one (.ptr (.cell 7000) 1 0)) :: dz 54 []), A9 2000 (B0 (.pair mI Dd) v) [eM 6000 (.s .own Ai m6000_0), iM 7000 m7000_0]⟩
def Gj (k : Nat) (v : (den Ai)) (w : Int) : List Aa → Aq → Int → Option (Aq × Bool)
 | [], m6000_0, m7000_0 => Ax (i64.wrap ((m6000_0.length : Int) - 1)) m6000_0 ((sto (m6000_0.set ((i64.wrap ((m6000_0.length : Int) - 1)).toNat) ((Ad m6000_0 (i64.wrap ((m6000_0.length : Int) - 1))).1, (Ad m6000_0 (i64.wrap ((m6000_0.length : Int) - 1))).2.1, (Ad m6000_0 (i64.wrap ((m6000_0.length : Int) - 1))).2.2.1, (Ad m6000_0 (i64.wrap ((m6000_0.length : Int) - 1))).2.2.2.1, (Ad m6000_0 (i64.wrap ((m6000_0.length : Int) - 1))).2.2.2.2.1, (Ad m6000_0 (i64.wrap ((m6000_0.length : Int) - 1))).2.2.2.2.2.1, v.2.2.2.2.2.2.1, (Ad m6000_0 (i64.wrap ((m6000_0.length : Int) - 1))).2.2.2.2.2.2.2))).bind fun b3 => cond v.2.2.2.2.2.2.2.1 (some ([], false)) (cond (decide ((Ad b3 (i64.wrap ((m6000_0.length : Int) - 1))).2.2.2.2.2.1 > 255)) (some ([], false)) ((Xck k b3).bind fun b4 => some (b4, true))))
 | z0_0 :: r, m6000_0, m7000_0 => Az v fun v0 v1 v2 v3 v4 _ _ v7 _ => (Qm k z0_0).bind fun b2 => Be (m6000_0.length) ([(v0, v1, v2, v3, v4, m7000_0, true, v7, b2)].length) 80 (Gj k v w r (m6000_0 ++ [(v0, v1, v2, v3, v4, m7000_0, true, v7, b2)]) (i64.wrap (m7000_0 + (z0_0.length : Int))))
theorem Xih {β : Type} (k : Nat) (v : (den Ai)) (w : Int) (m6000_0 : Aq) (m7000_0 : Int) (K : KT β) :
  Ff (Ee k) Tryz.f265 [1, 1, 1, 1, 0, 1, 0] 0 25 (Ae (Ee k) [1, 1, 1, 1, 0, 1, 0] (Af Tryz.f265) 0 (U8 k v w K)) ([] : List Aa) (O0 v w m6000_0 m7000_0) =
  Ax (i64.wrap ((m6000_0.length : Int) - 1)) m6000_0 ((sto (m6000_0.set ((i64.wrap ((m6000_0.length : Int) - 1)).toNat) ((Ad m6000_0 (i64.wrap ((m6000_0.length : Int) - 1))).1, (Ad m6000_0 (i64.wrap ((m6000_0.length : Int) - 1))).2.1, (Ad m6000_0 (i64.wrap ((m6000_0.length : Int) - 1))).2.2.1, (Ad m6000_0 (i64.wrap ((m6000_0.length : Int) - 1))).2.2.2.1, (Ad m6000_0 (i64.wrap ((m6000_0.length : Int) - 1))).2.2.2.2.1, (Ad m6000_0 (i64.wrap ((m6000_0.length : Int) - 1))).2.2.2.2.2.1, v.2.2.2.2.2.2.1, (Ad m6000_0 (i64.wrap ((m6000_0.length : Int) - 1))).2.2.2.2.2.2.2))).bind fun b3 => cond v.2.2.2.2.2.2.2.1 (K (F265_O.put ([], false))) (cond (decide ((Ad b3 (i64.wrap ((m6000_0.length : Int) - 1))).2.2.2.2.2.1 > 255)) (K (F265_O.put ([], false))) ((Xck k b3).bind fun b4 => K (F265_O.put (b4, true))))) := by kernel_rfl
theorem Xe1 {β : Type} (k : Nat) (v : (den Ai)) (w : Int) (z0_0 : Aa) (r : List Aa) (m6000_0 : Aq) (m7000_0 : Int) (K : KT β) :
  Ff (Ee k) Tryz.f265 [1, 1, 1, 1, 0, 1, 0] 0 25 (Ae (Ee k) [1, 1, 1, 1, 0, 1, 0] (Af Tryz.f265) 0 (U8 k v w K)) (z0_0 :: r) (O0 v w m6000_0 m7000_0) =
  Az v fun v0 v1 v2 v3 v4 _ _ v7 _ => (Qm k z0_0).bind fun b2 => Be (m6000_0.length) ([(v0, v1, v2, v3, v4, m7000_0, true, v7, b2)].length) 80 (Ff (Ee k) Tryz.f265 [1, 1, 1, 1, 0, 1, 0] 0 25 (Ae (Ee k) [1, 1, 1, 1, 0, 1, 0] (Af Tryz.f265) 0 (U8 k v w K)) r (O0 v w (m6000_0 ++ [(v0, v1, v2, v3, v4, m7000_0, true, v7, b2)]) (i64.wrap (m7000_0 + (z0_0.length : Int))))) := by kernel_rfl
theorem Xf0 {β : Type} (k : Nat) (v : (den Ai)) (w : Int) (K : KT β) (l : List Aa) : ∀ (m6000_0 : Aq) (m7000_0 : Int), Ff (Ee k) Tryz.f265 [1, 1, 1, 1, 0, 1, 0] 0 25 (Ae (Ee k) [1, 1, 1, 1, 0, 1, 0] (Af Tryz.f265) 0 (U8 k v w K)) l (O0 v w m6000_0 m7000_0) =
  (Gj k v w l m6000_0 m7000_0).bind fun r => K (F265_O.put r) := by
 induction l with
 | nil => intros; rw [Xih, Gj]; simp only [z1, z2, z3, z4, z5, z6, z7, z8, Az]
 | cons z r ih =>
  intros
  rw [Xe1, Gj]
  simp only [z1, z2, z3, z4, z5, z6, z7, z8, Az, ih]
def Xdj (k : Nat) (v : (den Ai)) (w : Int) : Option (Aq × Bool) := cond (decide ((v.2.2.2.2.2.2.2.2.length : Int) ≤ w)) ((Se k v).bind fun b1 => some ([b1], true)) (cond (decide (1 ≤ w) && decide (w ≤ 9223372036854775807) && decide (v.2.2.2.2.2.2.2.2.length ≤ 140737488355328)) (Gj k v w (Cc ((w : Int).toNat) v.2.2.2.2.2.2.2.2) [] v.2.2.2.2.2.1) none)
theorem Xyr {β : Type} (k : Nat) (v : (den Ai)) (w : Int) (K : KT β) : Aj (Ee k) Tryz.f265 (PsT.put Xhs (v, w, ())) K = (Xdj k v w).bind fun r => K (F265_O.put r) :=
 Eq.trans (b := cond (decide ((v.2.2.2.2.2.2.2.2.length : Int) ≤ w)) ((Se k v).bind fun b1 => K (F265_O.put ([b1], true))) (cond (decide (1 ≤ w) && decide (w ≤ 9223372036854775807) && decide (v.2.2.2.2.2.2.2.2.length ≤ 140737488355328)) (Ff (Ee k) Tryz.f265 [1, 1, 1, 1, 0, 1, 0] 0 25 (Ae (Ee k) [1, 1, 1, 1, 0, 1, 0] (Af Tryz.f265) 0 (U8 k v w K)) (Cc ((w : Int).toNat) v.2.2.2.2.2.2.2.2) (O0 v w [] v.2.2.2.2.2.1)) none)) (by kernel_rfl) (by simp only [Xdj, z1, z2, z3, z4, z5, z6, z7, z8, Az, Xf0])
def Xrh (k : Nat) : FD := ⟨265, Xhs, F265_O, Xdj k⟩
theorem X6a (k : Nat) : (Xrh k).Ok Tryz.prog := ⟨fun x => Ac (Am (Ah (.c (Ue k) (.c (Q5 k) (.c (Xtf k) .n)))) _ _ _ _) Ak Tryz.func265 rfl rfl (Xyr k _ _ some), .of (by kernel_rfl)⟩
def X4s : Nat → Hint
 | 1 => ⟨pl 4 2 (pl 7 1 (pl 66 2 [])), pl 4000 3 (pl 5000 4 (pl 59000 1 []))⟩
 | _ => ⟨[], []⟩
abbrev Xak (k : Nat) : Env := Bc (A0 [P9 k, Xrc k, Xpe k, Xrh k]) X4s .own [] k
abbrev Xip : List PA := [.agg (.pair mI (.sl .ro Ci)), .agg (.pair mI Dd)]
abbrev F208_O : RO := ⟨[.a], [Xst]⟩
noncomputable def X5g {β : Type} (k : Nat) (v : (den sta)) (w : (den Ai)) (K : KT β) : Ex → St → Option β := Br (Xak k) Tryz.f208 (PsT.put Xip (v, w, ())) K
def Xy0 (v : (den sta)) (w : (den Ai)) (x66_1 x67_1 : Int) (m5000_1 : (den Ci)) (m59000_1 : Aq) : St := ⟨dz 4 ((.one (.ptr (.cell 4000) 3 0)) :: (.one (.ptr (.cell 5000) 4 0)) :: (.one .d) :: (.one (.a (.cell 59000) 0 0 none)) :: dz 58 ((.one (vI x66_1)) :: (.one (vI x67_1)) :: dz 15 [])), A9 4000 (B0 Xst (0, 0, [])) (A9 5000 (B0 m_7 m5000_1) [eM 59000 (.s .own Ai m59000_1)])⟩
noncomputable def P2 {β : Type} (k : Nat) (v : (den sta)) (w : (den Ai)) (K : KT β) (n : Nat) (x66_1 x67_1 : Int) (m5000_1 : (den Ci)) (m59000_1 : Aq) : Option β := A2 (Xak k) Tryz.f208 [1, 1, 1, 1, 1, 1, 1, 0, 1, 0] 1 (Ae (Xak k) [1, 1, 1, 1, 1, 1, 1, 0, 1, 0] (Af Tryz.f208) 0 (X5g k v w K)) n (Xy0 v w x66_1 x67_1 m5000_1 m59000_1)
def Hg {β : Type} (NX : Int → Int → (den Ci) → Aq → Option β) (RET : (den Sd) → Option β) (k : Nat) (v : (den sta)) (w : (den Ai)) (x66_1 x67_1 : Int) (m5000_1 : (den Ci)) (m59000_1 : Aq) : Option β := cond (decide (x67_1 < x66_1)) (Ax x67_1 m59000_1 (Ax x67_1 m59000_1 (NX x66_1 (i64.wrap (x67_1 + 1)) m5000_1 (m59000_1.set x67_1.toNat ((Ad m59000_1 x67_1).1, (Ad m59000_1 x67_1).2.1, (Ad m59000_1 x67_1).2.2.1, i64.wrap ((Ad m59000_1 x67_1).2.2.2.1 - 1), (Ad m59000_1 x67_1).2.2.2.2))))) (RET (2, m5000_1.2.2.1, m59000_1))
def Er (k : Nat) (v : (den sta)) (w : (den Ai)) : Nat → Int → Int → (den Ci) → Aq → Option ((den Sd))
 | 0, _, _, _, _ => none
 | n + 1, x66_1, x67_1, m5000_1, m59000_1 => Hg (Er k v w n) some k v w x66_1 x67_1 m5000_1 m59000_1
theorem Xh5 {β : Type} (k : Nat) (v : (den sta)) (w : (den Ai)) (K : KT β) (n : Nat) : ∀ (x66_1 x67_1 : Int) (m5000_1 : (den Ci)) (m59000_1 : Aq), P2 k v w K n x66_1 x67_1 m5000_1 m59000_1 =
  (Er k v w n x66_1 x67_1 m5000_1 m59000_1).bind fun r => K (F208_O.put r) := by
 induction n with
 | zero => intros; rfl
 | succ n ih =>
  intro x66_1 x67_1 m5000_1 m59000_1
  refine Eq.trans (b := Hg (P2 k v w K n) (fun r => K (F208_O.put r)) k v w x66_1 x67_1 m5000_1 m59000_1) (by kernel_rfl) ?_
  rw [Er]
  simp only [Hg, z1, z2, z3, z4, z5, z6, z7, z8, Az, ih]
def S3 {β : Type} (LP1 : Int → Int → (den Ci) → Aq → Option β) (RET : (den Sd) → Option β) (k : Nat) (v : (den sta)) (w : (den Ai)) : Option β := cond (w.2.1 == v.1) ((Se k w).bind fun b1 => RET (1, 0, [b1])) (cond (decide (w.2.2.2.1 < 2)) ((Xca k v w 4 0).bind fun b2 => RET b2) ((F74 k v.2 w.2.1 17).bind fun b3 => cond (!b3.2) ((Xca k v w 3 0).bind fun b4 => RET b4) (cond (decide ((w.2.2.2.2.2.2.2.2.length : Int) > b3.1.2.2.2)) (cond w.2.2.2.2.2.2.2.1 ((Xca k v w 6 b3.1.2.2.2).bind fun b5 => RET b5) ((Xdj k w b3.1.2.2.2).bind fun b6 => cond (!b6.2) (RET (0, 0, [])) (LP1 (b6.1.length : Int) 0 b3.1 b6.1))) ((Xdj k w b3.1.2.2.2).bind fun b7 => cond (!b7.2) (RET (0, 0, [])) (LP1 (b7.1.length : Int) 0 b3.1 b7.1)))))
def Xa2 (k : Nat) (v : (den sta)) (w : (den Ai)) : Option ((den Sd)) := S3 (Er k v w k) some k v w
theorem X0w {β : Type} (k : Nat) (v : (den sta)) (w : (den Ai)) (K : KT β) : Aj (Xak k) Tryz.f208 (PsT.put Xip (v, w, ())) K = (Xa2 k v w).bind fun r => K (F208_O.put r) :=
 Eq.trans (b := S3 (P2 k v w K k) (fun r => K (F208_O.put r)) k v w) (by kernel_rfl) (by simp only [Xa2, S3, z1, z2, z3, z4, z5, z6, z7, z8, Az, Xh5])
def Xv3 (k : Nat) : FD := ⟨208, Xip, F208_O, Xa2 k⟩
theorem X7f (k : Nat) : (Xv3 k).Ok Tryz.prog := ⟨fun x => Ac (Am (Ah (.c (Ue k) (.c (X91 k) (.c (X3f k) (.c (X6a k) .n))))) _ _ _ _) Ak Tryz.func208 rfl rfl (X0w k _ _ some), .of (by kernel_rfl)⟩
def Ybm : Nat → Hint
 | 0 => ⟨(3, .own .own Ai []) :: (pl 6 3 []), []⟩
 | _ => ⟨[], []⟩
abbrev Xa6 (k : Nat) : Env := Bc (A0 [P9 k, Xfn k]) Ybm .own [] k
abbrev Xgp : List PA := [.one (.sl .ro Ai)]
abbrev F209_O : RO := ⟨[.v], [.sl .own Ai]⟩
noncomputable def Yac {β : Type} (k : Nat) (v : Aq) (K : KT β) : Ex → St → Option β := Br (Xa6 k) Tryz.f209 (PsT.put Xgp (v, ())) K
def Xyy (v : Aq) (x8_0 : Int) (m3900_0 : Aq) : St := ⟨dz 3 ((.one (.a (.cell 3900) 0 0 none)) :: (.one .d) :: (.one .d) :: (.one (.s .ro Ai v)) :: (.one (vI (v.length : Int))) :: (.one (vI x8_0)) :: dz 11 []), [eM 3900 (.s .own Ai m3900_0)]⟩
noncomputable def Q9 {β : Type} (k : Nat) (v : Aq) (K : KT β) (n : Nat) (x8_0 : Int) (m3900_0 : Aq) : Option β := A2 (Xa6 k) Tryz.f209 [1, 1, 0, 1, 0] 0 (Ae (Xa6 k) [1, 1, 0, 1, 0] (Af Tryz.f209) 0 (Yac k v K)) n (Xyy v x8_0 m3900_0)
def Lu {β : Type} (NX : Int → Aq → Option β) (RET : Aq → Option β) (k : Nat) (v : Aq) (x8_0 : Int) (m3900_0 : Aq) : Option β := cond (decide (x8_0 < (v.length : Int))) (Ax x8_0 v ((Se k (Ad v x8_0)).bind fun b1 => Be (m3900_0.length) ([b1].length) 80 (NX (i64.wrap (x8_0 + 1)) (m3900_0 ++ [b1])))) ((Xck k m3900_0).bind fun b2 => RET b2)
def Kt (k : Nat) (v : Aq) : Nat → Int → Aq → Option (Aq)
 | 0, _, _ => none
 | n + 1, x8_0, m3900_0 => Lu (Kt k v n) some k v x8_0 m3900_0
theorem Xhv {β : Type} (k : Nat) (v : Aq) (K : KT β) (n : Nat) : ∀ (x8_0 : Int) (m3900_0 : Aq), Q9 k v K n x8_0 m3900_0 =
  (Kt k v n x8_0 m3900_0).bind fun r => K (F209_O.put r) := by
 induction n with
 | zero => intros; rfl
 | succ n ih =>
  intro x8_0 m3900_0
  refine Eq.trans (b := Lu (Q9 k v K n) (fun r => K (F209_O.put r)) k v x8_0 m3900_0) (by kernel_rfl) ?_
  rw [Kt]
  simp only [Lu, z1, z2, z3, z4, z5, z6, z7, z8, ih]
def X6 {β : Type} (LP0 : Int → Aq → Option β) (k : Nat) (v : Aq) : Option β := LP0 0 []
def Sa (k : Nat) (v : Aq) : Option (Aq) := X6 (Kt k v k) k v
theorem Xxq {β : Type} (k : Nat) (v : Aq) (K : KT β) : Aj (Xa6 k) Tryz.f209 (PsT.put Xgp (v, ())) K = (Sa k v).bind fun r => K (F209_O.put r) :=
 Eq.trans (b := X6 (Q9 k v K k) k v) (by kernel_rfl) (by simp only [Sa, X6, z1, z2, z3, z4, z5, z6, z7, z8, Xhv])
def Xh2 (k : Nat) : FD := ⟨209, Xgp, F209_O, Sa k⟩
theorem Xsr (k : Nat) : (Xh2 k).Ok Tryz.prog := ⟨fun x => Ac (Am (Ah (.c (Ue k) (.c (Xtf k) .n))) _ _ _ _) Ak Tryz.func209 rfl rfl (Xxq k _ some), .of (by kernel_rfl)⟩
end
end Go.Proofs.YtdmepjjepogddaaGreat.Gn
end

section
set_option linter.unusedVariables false
set_option linter.unusedSimpArgs false
namespace Go.Proofs.YtdmepjjepogddaaGreat.Gn
open Go.Rf IntKind
noncomputable section
def X9m : Nat → Hint
 | 0 => ⟨pl 0 1 (pl 6 2 ((8, .own .sown (.pair (.int .i64) Ai) []) :: [])), pl 6000 3 ((7000, .own .own Ai []) :: (7001, .own .own Ai []) :: (pl 7002 1 []))⟩
 | 3 => ⟨pl 0 1 (pl 6 2 ((8, .own .sown (.pair (.int .i64) Ai) []) :: (pl 11 1 (pl 65 3 [])))), pl 6000 3 (pl 7000 3 ((37002, .own .sown Ai []) :: []))⟩
 | _ => ⟨[], []⟩
abbrev Fm (k : Nat) : Env := Bc (A0 [Xv3 k, Xkd k, Xh2 k]) X9m .own [] k
abbrev Xie : List PA := [.one (.sl .ro sta), .one mI, .agg (.pair mI Dd)]
abbrev F140_O : RO := ⟨[.a], [L0]⟩
noncomputable def Xg6 {β : Type} (k : Nat) (v : An) (w : Int) (p : (den Ai)) (K : KT β) : Ex → St → Option β := Br (Fm k) Tryz.f140 (PsT.put Xie (v, w, p, ())) K
def X01 (v : An) (w : Int) (p : (den Ai)) (x11_3 x66_3 x67_3 : Int) (m7000_3 : (den Dg)) (m37002_3 : Aq) (m8900_3 : Cp) : St := ⟨(.one (.s .ro sta v)) :: dz 5 ((.one (.ptr (.cell 6000) 3 0)) :: (.one (.ptr (.cell 7000) 3 0)) :: (.one (.a (.cell 8900) 0 0 none)) :: (.one .d) :: (.one .d) :: (.one (vI x11_3)) :: dz 53 ((.one (.a (.cell 37002) 0 0 none)) :: (.one (vI x66_3)) :: (.one (vI x67_3)) :: dz 19 [])), A9 6000 (B0 L0 ([], [], 0)) (A9 7000 (B0 L0 m7000_3) [eM 37002 (.s .sown Ai m37002_3), eM 8900 (.s .sown (.pair (.int .i64) Ai) m8900_3)])⟩
noncomputable def Po {β : Type} (k : Nat) (v : An) (w : Int) (p : (den Ai)) (KK : Ex → St → Option β) (n : Nat) (x11_3 x66_3 x67_3 : Int) (m7000_3 : (den Dg)) (m37002_3 : Aq) (m8900_3 : Cp) : Option β := A2 (Fm k) Tryz.f140 [1, 1, 0, 1, 0, 0, 1, 0, 1, 1, 1, 1, 1, 0, 1, 1, 1, 1, 1, 0, 1, 1, 0, 1, 0] 3 KK n (X01 v w p x11_3 x66_3 x67_3 m7000_3 m37002_3 m8900_3)
def Kq {β : Type} (NX : Int → Int → Int → (den Dg) → Aq → Cp → Option β) (EX0 : (Int × Int × Int × (den Dg) × Aq × Cp) → Option β) (k : Nat) (v : An) (w : Int) (p : (den Ai)) (x11_3 x66_3 x67_3 : Int) (m7000_3 : (den Dg)) (m37002_3 : Aq) (m8900_3 : Cp) : Option β := cond (decide (x67_3 < x66_3)) (Ax x67_3 m37002_3 (Be (m8900_3.length) ([(x11_3, (Ad m37002_3 x67_3))].length) 88 (NX x11_3 x66_3 (i64.wrap (x67_3 + 1)) m7000_3 m37002_3 (m8900_3 ++ [(x11_3, (Ad m37002_3 x67_3))])))) (EX0 (x11_3, x66_3, x67_3, m7000_3, m37002_3, m8900_3))
def K0 (k : Nat) (v : An) (w : Int) (p : (den Ai)) : Nat → Int → Int → Int → (den Dg) → Aq → Cp → Option ((Int × Int × Int × (den Dg) × Aq × Cp))
 | 0, _, _, _, _, _, _ => none
 | n + 1, x11_3, x66_3, x67_3, m7000_3, m37002_3, m8900_3 => Kq (K0 k v w p n) (fun y3 => some y3) k v w p x11_3 x66_3 x67_3 m7000_3 m37002_3 m8900_3
theorem Xh7 {β : Type} (k : Nat) (v : An) (w : Int) (p : (den Ai)) (KK : Ex → St → Option β) (n : Nat) : ∀ (x11_3 x66_3 x67_3 : Int) (m7000_3 : (den Dg)) (m37002_3 : Aq) (m8900_3 : Cp), Po k v w p KK n x11_3 x66_3 x67_3 m7000_3 m37002_3 m8900_3 =
  (K0 k v w p n x11_3 x66_3 x67_3 m7000_3 m37002_3 m8900_3).bind fun y3 => KK (.exit 3) ⟨(.one (.s .ro sta v)) :: dz 5 ((.one (.ptr (.cell 6000) 3 0)) :: (.one (.ptr (.cell 7000) 3 0)) :: (.one (.a (.cell 8900) 0 0 none)) :: (.one .d) :: (.one .d) :: (.one (vI y3.1)) :: dz 53 ((.one (.a (.cell 37002) 0 0 none)) :: (.one (vI y3.2.1)) :: (.one (vI y3.2.2.1)) :: (.one (vB false)) :: dz 18 [])), A9 6000 (B0 L0 ([], [], 0)) (A9 7000 (B0 L0 y3.2.2.2.1) [eM 37002 (.s .sown Ai y3.2.2.2.2.1), eM 8900 (.s .sown (.pair (.int .i64) Ai) y3.2.2.2.2.2)])⟩ := by
 induction n with
 | zero => intros; rfl
 | succ n ih =>
  intro x11_3 x66_3 x67_3 m7000_3 m37002_3 m8900_3
  refine Eq.trans (b := Kq (Po k v w p KK n) (fun y3 => KK (.exit 3) ⟨(.one (.s .ro sta v)) :: dz 5 ((.one (.ptr (.cell 6000) 3 0)) :: (.one (.ptr (.cell 7000) 3 0)) :: (.one (.a (.cell 8900) 0 0 none)) :: (.one .d) :: (.one .d) :: (.one (vI y3.1)) :: dz 53 ((.one (.a (.cell 37002) 0 0 none)) :: (.one (vI y3.2.1)) :: (.one (vI y3.2.2.1)) :: (.one (vB false)) :: dz 18 [])), A9 6000 (B0 L0 ([], [], 0)) (A9 7000 (B0 L0 y3.2.2.2.1) [eM 37002 (.s .sown Ai y3.2.2.2.2.1), eM 8900 (.s .sown (.pair (.int .i64) Ai) y3.2.2.2.2.2)])⟩) k v w p x11_3 x66_3 x67_3 m7000_3 m37002_3 m8900_3) (by kernel_rfl) ?_
  rw [K0]
  simp only [Kq, z1, z2, z3, z4, z5, z6, z7, z8, Az, ih]
def Xy3 (v : An) (w : Int) (p : (den Ai)) (m7000_0 : (den Dg)) (m8900_0 : Cp) : St := ⟨(.one (.s .ro sta v)) :: dz 5 ((.one (.ptr (.cell 6000) 3 0)) :: (.one (.ptr (.cell 7000) 3 0)) :: (.one (.a (.cell 8900) 0 0 none)) :: dz 78 []), A9 6000 (B0 L0 ([], [], 0)) (A9 7000 (B0 L0 m7000_0) [eM 8900 (.s .sown (.pair (.int .i64) Ai) m8900_0)])⟩
noncomputable def Dy {β : Type} (k : Nat) (v : An) (w : Int) (p : (den Ai)) (K : KT β) (n : Nat) (m7000_0 : (den Dg)) (m8900_0 : Cp) : Option β := A2 (Fm k) Tryz.f140 [1, 1, 0, 1, 0] 0 (Ae (Fm k) [1, 1, 0, 1, 0] (Af Tryz.f140) 0 (Xg6 k v w p K)) n (Xy3 v w p m7000_0 m8900_0)
def Bo (k : Nat) (v : An) (w : Int) (p : (den Ai)) : Nat → (den Dg) → Cp → Option ((den Dg))
 | 0, _, _ => none
 | n + 1, m7000_0, m8900_0 => cond (decide ((m8900_0.length : Int) > 0)) (cond (decide (0 < (m8900_0.length : Int))) (cond (decide (0 ≤ 1) && decide (1 ≤ (m8900_0.length : Int))) (Ax (Ad m8900_0 0).1 v ((Xa2 k (Ad v (Ad m8900_0 0).1) (Ad m8900_0 0).2).bind fun b1 => cond (b1.1 == 1) (Be (m7000_0.1.length) (b1.2.2.length) 80 (Bo k v w p n (m7000_0.1 ++ b1.2.2, m7000_0.2.1, i64.wrap (m7000_0.2.2 + 1)) ((m8900_0.take (((m8900_0.length : Int)).toNat)).drop 1))) (cond (b1.1 == 3) (Be (m7000_0.2.1.length) (b1.2.2.length) 80 (Bo k v w p n (m7000_0.1, m7000_0.2.1 ++ b1.2.2, i64.wrap (m7000_0.2.2 + 1)) ((m8900_0.take (((m8900_0.length : Int)).toNat)).drop 1))) (cond (b1.1 == 2) ((F75 k v b1.2.1).bind fun b2 => cond (decide (b2 ≥ 0)) ((K0 k v w p k b2 (b1.2.2.length : Int) 0 (m7000_0.1, m7000_0.2.1, i64.wrap (m7000_0.2.2 + 1)) b1.2.2 ((m8900_0.take (((m8900_0.length : Int)).toNat)).drop 1)).bind fun y3 => Bo k v w p n y3.2.2.2.1 y3.2.2.2.2.2) (Bo k v w p n (m7000_0.1, m7000_0.2.1, i64.wrap (m7000_0.2.2 + 1)) ((m8900_0.take (((m8900_0.length : Int)).toNat)).drop 1))) (Bo k v w p n (m7000_0.1, m7000_0.2.1, i64.wrap (m7000_0.2.2 + 1)) ((m8900_0.take (((m8900_0.length : Int)).toNat)).drop 1)))))) none) none) ((Sa k m7000_0.1).bind fun b3 => (Sa k m7000_0.2.1).bind fun b4 => some (b3, b4, m7000_0.2.2))
theorem Xz {β : Type} (k n : Nat) (v : An) (w : Int) (p : (den Ai)) (y3 : Int × Int × Int × (den Dg) × Aq × Cp) (K : KT β) :
  (Ae (Fm k) [1, 0, 1, 1, 1, 1, 1, 0, 1, 1, 1, 1, 1, 0, 1, 1, 0, 1, 0] (Ba [1, 1, 0, 1, 0, 0] (Af Tryz.f140)) 0 (Bt (Fm k) Tryz.f140 [1, 1, 0, 1, 0] 0 (Ae (Fm k) [1, 1, 0, 1, 0] (Af Tryz.f140) 0 (Xg6 k v w p K)) n)) (.exit 3) ⟨(.one (.s .ro sta v)) :: dz 5 ((.one (.ptr (.cell 6000) 3 0)) :: (.one (.ptr (.cell 7000) 3 0)) :: (.one (.a (.cell 8900) 0 0 none)) :: (.one .d) :: (.one .d) :: (.one (vI y3.1)) :: dz 53 ((.one (.a (.cell 37002) 0 0 none)) :: (.one (vI y3.2.1)) :: (.one (vI y3.2.2.1)) :: (.one (vB false)) :: dz 18 [])), A9 6000 (B0 L0 ([], [], 0)) (A9 7000 (B0 L0 y3.2.2.2.1) [eM 37002 (.s .sown Ai y3.2.2.2.2.1), eM 8900 (.s .sown (.pair (.int .i64) Ai) y3.2.2.2.2.2)])⟩ =
  Dy k v w p K n y3.2.2.2.1 y3.2.2.2.2.2 := by kernel_rfl
theorem Xg5 {β : Type} (k : Nat) (v : An) (w : Int) (p : (den Ai)) (K : KT β) (n : Nat) : ∀ (m7000_0 : (den Dg)) (m8900_0 : Cp), Dy k v w p K n m7000_0 m8900_0 =
  (Bo k v w p n m7000_0 m8900_0).bind fun r => K (F140_O.put r) := by
 induction n with
 | zero => intros; rfl
 | succ n ih =>
  intro m7000_0 m8900_0
  refine Eq.trans (b := cond (decide ((m8900_0.length : Int) > 0)) (cond (decide (0 < (m8900_0.length : Int))) (cond (decide (0 ≤ 1) && decide (1 ≤ (m8900_0.length : Int))) (Ax (Ad m8900_0 0).1 v ((Xa2 k (Ad v (Ad m8900_0 0).1) (Ad m8900_0 0).2).bind fun b1 => cond (b1.1 == 1) (Be (m7000_0.1.length) (b1.2.2.length) 80 (Dy k v w p K n (m7000_0.1 ++ b1.2.2, m7000_0.2.1, i64.wrap (m7000_0.2.2 + 1)) ((m8900_0.take (((m8900_0.length : Int)).toNat)).drop 1))) (cond (b1.1 == 3) (Be (m7000_0.2.1.length) (b1.2.2.length) 80 (Dy k v w p K n (m7000_0.1, m7000_0.2.1 ++ b1.2.2, i64.wrap (m7000_0.2.2 + 1)) ((m8900_0.take (((m8900_0.length : Int)).toNat)).drop 1))) (cond (b1.1 == 2) ((F75 k v b1.2.1).bind fun b2 => cond (decide (b2 ≥ 0)) (Po k v w p (Ae (Fm k) [1, 0, 1, 1, 1, 1, 1, 0, 1, 1, 1, 1, 1, 0, 1, 1, 0, 1, 0] (Ba [1, 1, 0, 1, 0, 0] (Af Tryz.f140)) 0 (Bt (Fm k) Tryz.f140 [1, 1, 0, 1, 0] 0 (Ae (Fm k) [1, 1, 0, 1, 0] (Af Tryz.f140) 0 (Xg6 k v w p K)) n)) k b2 (b1.2.2.length : Int) 0 (m7000_0.1, m7000_0.2.1, i64.wrap (m7000_0.2.2 + 1)) b1.2.2 ((m8900_0.take (((m8900_0.length : Int)).toNat)).drop 1)) (Dy k v w p K n (m7000_0.1, m7000_0.2.1, i64.wrap (m7000_0.2.2 + 1)) ((m8900_0.take (((m8900_0.length : Int)).toNat)).drop 1))) (Dy k v w p K n (m7000_0.1, m7000_0.2.1, i64.wrap (m7000_0.2.2 + 1)) ((m8900_0.take (((m8900_0.length : Int)).toNat)).drop 1)))))) none) none) ((Sa k m7000_0.1).bind fun b3 => (Sa k m7000_0.2.1).bind fun b4 => K (F140_O.put (b3, b4, m7000_0.2.2)))) (by kernel_rfl) ?_
  rw [Bo]
  simp only [z1, z2, z3, z4, z5, z6, z7, z8, Az, Xh7, Xz k n v w p _ K, ih, Ax, Be]
def Zq {β : Type} (LP0 : (den Dg) → Cp → Option β) (k : Nat) (v : An) (w : Int) (p : (den Ai)) : Option β := Az p fun p0 p1 p2 p3 p4 p5 p6 p7 p8 => LP0 ([], [], 0) [(w, p0, p1, p2, p3, p4, p5, p6, p7, p8)]
def Xl6 (k : Nat) (v : An) (w : Int) (p : (den Ai)) : Option ((den Dg)) := Zq (Bo k v w p k) k v w p
theorem X0q {β : Type} (k : Nat) (v : An) (w : Int) (p : (den Ai)) (K : KT β) : Aj (Fm k) Tryz.f140 (PsT.put Xie (v, w, p, ())) K = (Xl6 k v w p).bind fun r => K (F140_O.put r) :=
 Eq.trans (b := Zq (Dy k v w p K k) k v w p) (by kernel_rfl) (by simp only [Xl6, Zq, z1, z2, z3, z4, z5, z6, z7, z8, Az, Xg5])
def Xpy (k : Nat) : FD := ⟨140, Xie, F140_O, Xl6 k⟩
theorem X6c (k : Nat) : (Xpy k).Ok Tryz.prog := ⟨fun x => Ac (Am (Ah (.c (X7f k) (.c (Xoz k) (.c (Xsr k) .n)))) _ _ _ _) Ak Tryz.func140 rfl rfl (X0q k _ _ _ some), .of (by kernel_rfl)⟩
abbrev Ya3 (k : Nat) : Env := Bc Bx Ao .own [] k
abbrev Xqs : List PA := [.agg (.pair mI Dd), .agg (.pair mI Dd)]
abbrev F217_O : RO := ⟨[.v], [mB]⟩
def Xhd {β : Type} (RET : Bool → Option β) (k : Nat) (v w : (den Ai)) : Option β := cond (v.1 == w.1) (cond (v.2.1 == w.2.1) (cond (v.2.2.1 == w.2.2.1) (RET (v.2.2.2.2.1 == w.2.2.2.2.1)) (RET false)) (RET false)) (RET false)
def Xe7 := Xhd (β := Bool) some
theorem Xwx {β : Type} (k : Nat) (v w : (den Ai)) (K : KT β) : Aj (Ya3 k) Tryz.f217 (PsT.put Xqs (v, w, ())) K = (Xe7 k v w).bind fun r => K (F217_O.put r) :=
 Eq.trans (b := Xhd (fun r => K (F217_O.put r)) k v w) (by kernel_rfl) (by simp only [Xe7, Xhd, z1, z2, z3, z4, z5, z6, z7, z8, Az])
def Xc (k : Nat) : FD := ⟨217, Xqs, F217_O, Xe7 k⟩
theorem Xib (k : Nat) : (Xc k).Ok Tryz.prog := ⟨fun x => Ac (Am .none _ _ _ _) Ak Tryz.func217 rfl rfl (Xwx k _ _ some), .of (by kernel_rfl)⟩
def Yay : Nat → Hint
 | 0 => ⟨pl 1 1 (pl 3 1 (pl 8 3 [])), pl 1000 2 []⟩
 | _ => ⟨[], []⟩
abbrev Xo (k : Nat) : Env := Bc (A0 [Xc9 k, Xc k, Gl k]) Yay .own [] k
abbrev Xe5 : List PA := [.agg (.pair (.sl .ro Ai) mI)]
abbrev F267_O : RO := ⟨[.v], [mB]⟩
noncomputable def Ych {β : Type} (k : Nat) (v : (den A3)) (K : KT β) : Ex → St → Option β := Br (Xo k) Tryz.f267 (PsT.put Xe5 (v, ())) K
def X0l (v : (den A3)) (x3_0 x10_0 : Int) : St := ⟨(.one .d) :: (.one (.ptr (.cell 1000) 2 0)) :: (.one .d) :: (.one (vI x3_0)) :: dz 4 ((.one (.s .ro Ai v.1)) :: (.one (vI (v.1.length : Int))) :: (.one (vI x10_0)) :: dz 57 []), A9 1000 (B0 (.pair (.sl .ro Ai) mI) v) []⟩
noncomputable def Qr {β : Type} (k : Nat) (v : (den A3)) (K : KT β) (n : Nat) (x3_0 x10_0 : Int) : Option β := A2 (Xo k) Tryz.f267 [1, 1, 0, 1, 0] 0 (Ae (Xo k) [1, 1, 0, 1, 0] (Af Tryz.f267) 0 (Ych k v K)) n (X0l v x3_0 x10_0)
def G4 {β : Type} (NX : Int → Int → Option β) (RET : Bool → Option β) (k : Nat) (v : (den A3)) (x3_0 x10_0 : Int) : Option β := Bm v fun v0 v1 => cond (decide (x10_0 < (v0.length : Int))) (Ax x10_0 v0 ((F89 k (Ad v0 x10_0)).bind fun b1 => cond (!b1) (RET false) (cond (decide (0 < (v0.length : Int))) ((Xe7 k (Ad v0 x10_0) (Ad v0 0)).bind fun b2 => cond (!b2) (RET false) (cond (decide (x10_0 > 0)) (Ax (i64.wrap (x10_0 - 1)) v0 (cond (decide ((Ad v0 x10_0).2.2.2.2.2.1 < (i64.wrap ((Ad v0 (i64.wrap (x10_0 - 1))).2.2.2.2.2.1 + ((Ad v0 (i64.wrap (x10_0 - 1))).2.2.2.2.2.2.2.2.length : Int))))) (RET false) (cond (!(Ad v0 (i64.wrap (x10_0 - 1))).2.2.2.2.2.2.1) (RET false) (NX (i64.wrap (x3_0 + ((Ad v0 x10_0).2.2.2.2.2.2.2.2.length : Int))) (i64.wrap (x10_0 + 1)))))) (NX (i64.wrap (x3_0 + ((Ad v0 x10_0).2.2.2.2.2.2.2.2.length : Int))) (i64.wrap (x10_0 + 1))))) none))) (cond (decide ((v0.length : Int) > 0)) (cond (decide (x3_0 ≤ 48)) ((Rp k v1 0 1000000).bind fun b3 => RET b3) (RET false)) (RET false))
def Ev (k : Nat) (v : (den A3)) : Nat → Int → Int → Option (Bool)
 | 0, _, _ => none
 | n + 1, x3_0, x10_0 => G4 (Ev k v n) some k v x3_0 x10_0
theorem Xfp {β : Type} (k : Nat) (v : (den A3)) (K : KT β) (n : Nat) : ∀ (x3_0 x10_0 : Int), Qr k v K n x3_0 x10_0 =
  (Ev k v n x3_0 x10_0).bind fun r => K (F267_O.put r) := by
 induction n with
 | zero => intros; rfl
 | succ n ih =>
  intro x3_0 x10_0
  refine Eq.trans (b := G4 (Qr k v K n) (fun r => K (F267_O.put r)) k v x3_0 x10_0) (by kernel_rfl) ?_
  rw [Ev]
  simp only [G4, z1, z2, z3, z4, z5, z6, z7, z8, Bm, ih]
def Xg8 {β : Type} (LP0 : Int → Int → Option β) (k : Nat) (v : (den A3)) : Option β := LP0 0 0
def Xgl (k : Nat) (v : (den A3)) : Option (Bool) := Xg8 (Ev k v k) k v
theorem Xx2 {β : Type} (k : Nat) (v : (den A3)) (K : KT β) : Aj (Xo k) Tryz.f267 (PsT.put Xe5 (v, ())) K = (Xgl k v).bind fun r => K (F267_O.put r) :=
 Eq.trans (b := Xg8 (Qr k v K k) k v) (by kernel_rfl) (by simp only [Xgl, Xg8, z1, z2, z3, z4, z5, z6, z7, z8, Bm, Xfp])
def Xfz (k : Nat) : FD := ⟨267, Xe5, F267_O, Xgl k⟩
theorem Xq7 (k : Nat) : (Xfz k).Ok Tryz.prog := ⟨fun x => Ac (Am (Ah (.c (Xkq k) (.c (Xib k) (.c (G7 k) .n)))) _ _ _ _) Ak Tryz.func267 rfl rfl (Xx2 k _ some), .of (by kernel_rfl)⟩
abbrev X7n (k : Nat) : Env := Bc (A0 [Xc k]) Ao .own [(false, 1000), (false, 1001)] k
abbrev Xt5 : List PA := [.agg (.pair (.sl .ro Ai) mI), .p (.pair (.sl .ro Ai) mI)]
abbrev F269_O : RO := ⟨[.v], [mB, .pair (.sl .ro Ai) mI]⟩
def Xh0 {β : Type} (RET : (Bool × (den A3)) → Option β) (k : Nat) (v w : (den A3)) : Option β := cond (decide (0 < (v.1.length : Int))) (cond (decide (0 < (w.1.length : Int))) ((Xe7 k (Ad v.1 0) (Ad w.1 0)).bind fun b1 => RET (b1, w)) none) none
def Xxj := Xh0 (β := Bool × (den A3)) some
theorem Xxy {β : Type} (k : Nat) (v w : (den A3)) (K : KT β) : Aj (X7n k) Tryz.f269 (PsT.put Xt5 (v, w, ())) K = (Xxj k v w).bind fun r => K (F269_O.put r) :=
 Eq.trans (b := Xh0 (fun r => K (F269_O.put r)) k v w) (by kernel_rfl) (by simp only [Xxj, Xh0, z1, z2, z3, z4, z5, z6, z7, z8, Bm])
def Xuv (k : Nat) : FD := ⟨269, Xt5, F269_O, Xxj k⟩
theorem Ybw (k : Nat) : (Xuv k).Ok Tryz.prog := ⟨fun x => Ac (Am (Ah (.c (Xib k) .n)) _ _ _ _) Ak Tryz.func269 rfl rfl (Xxy k _ _ some), .of (by kernel_rfl)⟩
def Ycl : Nat → Hint
 | 0 => ⟨pl 0 2 (pl 7 2 []), pl 1100 2 []⟩
 | _ => ⟨[], []⟩
abbrev Xm (k : Nat) : Env := { Bc (A0 [Xuv k]) Ycl .own [(false, 1100), (false, 1101)] k with frz := [15] }
abbrev Xhi : List PA := [.one (.sl .ro A3), .fc 269 [.pair (.sl .ro Ai) mI]]
abbrev F215_O : RO := ⟨[.v], [mI, .pair (.sl .ro Ai) mI]⟩
noncomputable def Ya4 {β : Type} (k : Nat) (v : Al) (wx : (den A3)) (K : KT β) : Ex → St → Option β := Br (Xm k) Tryz.f215 (PsT.put Xhi (v, (wx, ()), ())) K
def Xzg (v : Al) (wx : (den A3)) (x8_0 : Int) (m1100_0 : (den A3)) : St := ⟨(.one (.s .ro A3 v)) :: (.one (.fn 269 [((.cell 1100), 2, 0)])) :: dz 5 ((.one (vI (v.length : Int))) :: (.one (vI x8_0)) :: dz 10 []), A9 1100 (B0 (.pair (.sl .ro Ai) mI) m1100_0) []⟩
noncomputable def O3 {β : Type} (k : Nat) (v : Al) (wx : (den A3)) (K : KT β) (n : Nat) (x8_0 : Int) (m1100_0 : (den A3)) : Option β := A2 (Xm k) Tryz.f215 [1, 0, 1, 0] 0 (Ae (Xm k) [1, 0, 1, 0] (Af Tryz.f215) 0 (Ya4 k v wx K)) n (Xzg v wx x8_0 m1100_0)
def Pf {β : Type} (NX : Int → (den A3) → Option β) (RET : (Int × (den A3)) → Option β) (k : Nat) (v : Al) (wx : (den A3)) (x8_0 : Int) (m1100_0 : (den A3)) : Option β := cond (decide (x8_0 < (v.length : Int))) (Ax x8_0 v ((Xxj k (Ad v x8_0) m1100_0).bind fun b1 => cond b1.1 (RET (x8_0, b1.2)) (NX (i64.wrap (x8_0 + 1)) b1.2))) (RET ((-1), m1100_0))
def Ln (k : Nat) (v : Al) (wx : (den A3)) : Nat → Int → (den A3) → Option (Int × (den A3))
 | 0, _, _ => none
 | n + 1, x8_0, m1100_0 => Pf (Ln k v wx n) some k v wx x8_0 m1100_0
theorem Xij {β : Type} (k : Nat) (v : Al) (wx : (den A3)) (K : KT β) (n : Nat) : ∀ (x8_0 : Int) (m1100_0 : (den A3)), O3 k v wx K n x8_0 m1100_0 =
  (Ln k v wx n x8_0 m1100_0).bind fun r => K (F215_O.put r) := by
 induction n with
 | zero => intros; rfl
 | succ n ih =>
  intro x8_0 m1100_0
  refine Eq.trans (b := Pf (O3 k v wx K n) (fun r => K (F215_O.put r)) k v wx x8_0 m1100_0) (by kernel_rfl) ?_
  rw [Ln]
  simp only [Pf, z1, z2, z3, z4, z5, z6, z7, z8, Bm, ih]
def Yg {β : Type} (LP0 : Int → (den A3) → Option β) (k : Nat) (v : Al) (wx : (den A3)) : Option β := LP0 0 wx
def Xll (k : Nat) (v : Al) (wx : (den A3)) : Option (Int × (den A3)) := Yg (Ln k v wx k) k v wx
theorem Xys {β : Type} (k : Nat) (v : Al) (wx : (den A3)) (K : KT β) : Aj (Xm k) Tryz.f215 (PsT.put Xhi (v, (wx, ()), ())) K = (Xll k v wx).bind fun r => K (F215_O.put r) :=
 Eq.trans (b := Yg (O3 k v wx K k) k v wx) (by kernel_rfl) (by simp only [Xll, Yg, z1, z2, z3, z4, z5, z6, z7, z8, Bm, Xij])
def Xue (k : Nat) : FD := ⟨215, Xhi, F215_O, Xll k⟩
theorem X59 (k : Nat) : (Xue k).Ok Tryz.prog := ⟨fun x => Ac (Qh [15] (Ah (.c (Ybw k) .n)) _ _ _ _) Ak Tryz.func215 rfl rfl (Xys k _ _ some), .of (by kernel_rfl)⟩
abbrev X4q (k : Nat) : Env := Bc (A0 [Xue k]) Ao .own [(false, 1100), (false, 1101)] k
abbrev Xq6 : List PA := [.one (.sl .ro A3), .fc 269 [.pair (.sl .ro Ai) mI]]
abbrev F268_O : RO := ⟨[.v], [mB, .pair (.sl .ro Ai) mI]⟩
def Xlx (k : Nat) (v : Al) (wx : (den A3)) : Option (Bool × (den A3)) := (Xll k v wx).bind fun b1 => some (decide (b1.1 ≥ 0), b1.2)
theorem Xy7 {β : Type} (k : Nat) (v : Al) (wx : (den A3)) (K : KT β) : Aj (X4q k) Tryz.f268 (PsT.put Xq6 (v, (wx, ()), ())) K = (Xlx k v wx).bind fun r => K (F268_O.put r) :=
 Eq.trans (b := (Xll k v wx).bind fun b1 => K (F268_O.put (decide (b1.1 ≥ 0), b1.2))) (by kernel_rfl) (by simp only [Xlx, z1, z2, z3, z4, z5, z6, z7, z8, Bm])
def Xpg (k : Nat) : FD := ⟨268, Xq6, F268_O, Xlx k⟩
theorem X9h (k : Nat) : (Xpg k).Ok Tryz.prog := ⟨fun x => Ac (Am (Ah (.c (X59 k) .n)) _ _ _ _) Ak Tryz.func268 rfl rfl (Xy7 k _ _ some), .of (by kernel_rfl)⟩
def X9e : Nat → Hint
 | 0 => ⟨pl 0 1 (pl 5 3 []), []⟩
 | _ => ⟨[], []⟩
abbrev Xba (k : Nat) : Env := Bc (A0 [Xfz k, Xpg k]) X9e .own [] k
abbrev Xel : List PA := [.one (.sl .ro A3)]
abbrev F210_O : RO := ⟨[.v], [mB]⟩
noncomputable def X5x {β : Type} (k : Nat) (v : Al) (K : KT β) : Ex → St → Option β := Br (Xba k) Tryz.f210 (PsT.put Xel (v, ())) K
def Xzn (v : Al) (x7_0 : Int) : St := ⟨(.one (.s .ro A3 v)) :: dz 4 ((.one (.s .ro A3 v)) :: (.one (vI (v.length : Int))) :: (.one (vI x7_0)) :: dz 18 []), []⟩
noncomputable def Ql {β : Type} (k : Nat) (v : Al) (K : KT β) (n : Nat) (x7_0 : Int) : Option β := A2 (Xba k) Tryz.f210 [1, 0, 1, 0] 0 (Ae (Xba k) [1, 0, 1, 0] (Af Tryz.f210) 0 (X5x k v K)) n (Xzn v x7_0)
def G1 {β : Type} (NX : Int → Option β) (RET : Bool → Option β) (k : Nat) (v : Al) (x7_0 : Int) : Option β := cond (decide (x7_0 < (v.length : Int))) (Ax x7_0 v ((Xgl k (Ad v x7_0)).bind fun b1 => cond (!b1) (RET false) (cond (decide (0 ≤ x7_0) && decide (x7_0 ≤ (v.length : Int))) ((Xlx k (v.take x7_0.toNat) (Ad v x7_0)).bind fun b2 => cond b2.1 (RET false) (NX (i64.wrap (x7_0 + 1)))) none))) (RET (decide ((v.length : Int) ≤ 3)))
def Hv (k : Nat) (v : Al) : Nat → Int → Option (Bool)
 | 0, _ => none
 | n + 1, x7_0 => G1 (Hv k v n) some k v x7_0
theorem Xev {β : Type} (k : Nat) (v : Al) (K : KT β) (n : Nat) : ∀ (x7_0 : Int), Ql k v K n x7_0 =
  (Hv k v n x7_0).bind fun r => K (F210_O.put r) := by
 induction n with
 | zero => intros; rfl
 | succ n ih =>
  intro x7_0
  refine Eq.trans (b := G1 (Ql k v K n) (fun r => K (F210_O.put r)) k v x7_0) (by kernel_rfl) ?_
  rw [Hv]
  simp only [G1, z1, z2, z3, z4, z5, z6, z7, z8, ih]
def Ti {β : Type} (LP0 : Int → Option β) (k : Nat) (v : Al) : Option β := LP0 0
def Xbu (k : Nat) (v : Al) : Option (Bool) := Ti (Hv k v k) k v
theorem Xxx {β : Type} (k : Nat) (v : Al) (K : KT β) : Aj (Xba k) Tryz.f210 (PsT.put Xel (v, ())) K = (Xbu k v).bind fun r => K (F210_O.put r) :=
 Eq.trans (b := Ti (Ql k v K k) k v) (by kernel_rfl) (by simp only [Xbu, Ti, z1, z2, z3, z4, z5, z6, z7, z8, Xev])
def Xrf (k : Nat) : FD := ⟨210, Xel, F210_O, Xbu k⟩
theorem X8e (k : Nat) : (Xrf k).Ok Tryz.prog := ⟨fun x => Ac (Am (Ah (.c (Xq7 k) (.c (X9h k) .n))) _ _ _ _) Ak Tryz.func210 rfl rfl (Xxx k _ some), .of (by kernel_rfl)⟩
abbrev Yai (k : Nat) : Env := Bc (A0 [Xh2 k]) Ao .own [] k
abbrev Xtw : List PA := [.agg (.pair (.sl .ro Ai) mI)]
abbrev F270_O : RO := ⟨[.a], [.pair (.sl .own Ai) mI]⟩
def Vd (k : Nat) (v : (den A3)) : Option ((den A3)) := (Sa k v.1).bind fun b1 => some (b1, v.2)
theorem X0k {β : Type} (k : Nat) (v : (den A3)) (K : KT β) : Aj (Yai k) Tryz.f270 (PsT.put Xtw (v, ())) K = (Vd k v).bind fun r => K (F270_O.put r) :=
 Eq.trans (b := (Sa k v.1).bind fun b1 => K (F270_O.put (b1, v.2))) (by kernel_rfl) (by simp only [Vd, z1, z2, z3, z4, z5, z6, z7, z8, Bm])
def Xhz (k : Nat) : FD := ⟨270, Xtw, F270_O, Vd k⟩
theorem Xrg (k : Nat) : (Xhz k).Ok Tryz.prog := ⟨fun x => Ac (Am (Ah (.c (Xsr k) .n)) _ _ _ _) Ak Tryz.func270 rfl rfl (X0k k _ some), .of (by kernel_rfl)⟩
abbrev X5w (k : Nat) : Env := Bc Bx Ao .own [] k
abbrev Xpt : List PA := [.one (.sl .own A3)]
abbrev F271_O : RO := ⟨[.v], [.sl .own A3]⟩
def Xfe {β : Type} (RET : Al → Option β) (k : Nat) (v : Al) : Option β := cond (decide (0 ≤ (v.length : Int)) && decide ((v.length : Int) ≤ (v.length : Int))) (cond (decide ((v.length : Int) = (v.length : Int))) (RET ((v.take ((v.length : Int).toNat)).drop 0)) none) none
def Xx0 := Xfe (β := Al) some
theorem Xyz {β : Type} (k : Nat) (v : Al) (K : KT β) : Aj (X5w k) Tryz.f271 (PsT.put Xpt (v, ())) K = (Xx0 k v).bind fun r => K (F271_O.put r) :=
 Eq.trans (b := Xfe (fun r => K (F271_O.put r)) k v) (by kernel_rfl) (by simp only [Xx0, Xfe, z1, z2, z3, z4, z5, z6, z7, z8])
def Xwh (k : Nat) : FD := ⟨271, Xpt, F271_O, Xx0 k⟩
theorem X66 (k : Nat) : (Xwh k).Ok Tryz.prog := ⟨fun x => Ac (Am .none _ _ _ _) Ak Tryz.func271 rfl rfl (Xyz k _ some), .of (by kernel_rfl)⟩
def X7s : Nat → Hint
 | 0 => ⟨(3, .own .own A3 []) :: (pl 6 3 []), []⟩
 | _ => ⟨[], []⟩
abbrev Y3 (k : Nat) : Env := Bc (A0 [Xhz k, Xwh k]) X7s .own [] k
abbrev Xhg : List PA := [.one (.sl .ro A3)]
abbrev F212_O : RO := ⟨[.v], [.sl .own A3]⟩
noncomputable def X51 {β : Type} (k : Nat) (v : Al) (K : KT β) : Ex → St → Option β := Br (Y3 k) Tryz.f212 (PsT.put Xhg (v, ())) K
def Xya (v : Al) (x8_0 : Int) (m3900_0 : Al) : St := ⟨dz 3 ((.one (.a (.cell 3900) 0 0 none)) :: (.one .d) :: (.one .d) :: (.one (.s .ro A3 v)) :: (.one (vI (v.length : Int))) :: (.one (vI x8_0)) :: dz 11 []), [eM 3900 (.s .own A3 m3900_0)]⟩
noncomputable def Pr {β : Type} (k : Nat) (v : Al) (K : KT β) (n : Nat) (x8_0 : Int) (m3900_0 : Al) : Option β := A2 (Y3 k) Tryz.f212 [1, 1, 0, 1, 0] 0 (Ae (Y3 k) [1, 1, 0, 1, 0] (Af Tryz.f212) 0 (X51 k v K)) n (Xya v x8_0 m3900_0)
def E7 {β : Type} (NX : Int → Al → Option β) (RET : Al → Option β) (k : Nat) (v : Al) (x8_0 : Int) (m3900_0 : Al) : Option β := cond (decide (x8_0 < (v.length : Int))) (Ax x8_0 v ((Vd k (Ad v x8_0)).bind fun b1 => Be (m3900_0.length) ([b1].length) 32 (NX (i64.wrap (x8_0 + 1)) (m3900_0 ++ [b1])))) ((Xx0 k m3900_0).bind fun b2 => RET b2)
def Hx (k : Nat) (v : Al) : Nat → Int → Al → Option (Al)
 | 0, _, _ => none
 | n + 1, x8_0, m3900_0 => E7 (Hx k v n) some k v x8_0 m3900_0
theorem Xey {β : Type} (k : Nat) (v : Al) (K : KT β) (n : Nat) : ∀ (x8_0 : Int) (m3900_0 : Al), Pr k v K n x8_0 m3900_0 =
  (Hx k v n x8_0 m3900_0).bind fun r => K (F212_O.put r) := by
 induction n with
 | zero => intros; rfl
 | succ n ih =>
  intro x8_0 m3900_0
  refine Eq.trans (b := E7 (Pr k v K n) (fun r => K (F212_O.put r)) k v x8_0 m3900_0) (by kernel_rfl) ?_
  rw [Hx]
  simp only [E7, z1, z2, z3, z4, z5, z6, z7, z8, ih]
def Sy {β : Type} (LP0 : Int → Al → Option β) (k : Nat) (v : Al) : Option β := LP0 0 []
def O9 (k : Nat) (v : Al) : Option (Al) := Sy (Hx k v k) k v
theorem X0d {β : Type} (k : Nat) (v : Al) (K : KT β) : Aj (Y3 k) Tryz.f212 (PsT.put Xhg (v, ())) K = (O9 k v).bind fun r => K (F212_O.put r) :=
 Eq.trans (b := Sy (Pr k v K k) k v) (by kernel_rfl) (by simp only [O9, Sy, z1, z2, z3, z4, z5, z6, z7, z8, Xey])
def Xuo (k : Nat) : FD := ⟨212, Xhg, F212_O, O9 k⟩
theorem X8b (k : Nat) : (Xuo k).Ok Tryz.prog := ⟨fun x => Ac (Am (Ah (.c (Xrg k) (.c (X66 k) .n))) _ _ _ _) Ak Tryz.func212 rfl rfl (X0d k _ some), .of (by kernel_rfl)⟩
abbrev X78 (k : Nat) : Env := Bc Bx Ao .own [(false, 1000)] k
abbrev Xpj : List PA := [.agg (.pair (.sl .ro Ai) mI), .p mI]
abbrev F213_O : RO := ⟨[.v], [mB, mI]⟩
def Xqb (k : Nat) (v : (den A3)) (w : Int) : Option (Bool × Int) := some (decide (v.2 ≤ w), w)
theorem Xzk {β : Type} (k : Nat) (v : (den A3)) (w : Int) (K : KT β) : Aj (X78 k) Tryz.f213 (PsT.put Xpj (v, w, ())) K = (Xqb k v w).bind fun r => K (F213_O.put r) :=
 Eq.trans (b := K (F213_O.put (decide (v.2 ≤ w), w))) (by kernel_rfl) (by simp only [Xqb, z1, z2, z3, z4, z5, z6, z7, z8, Bm])
def Xvk (k : Nat) : FD := ⟨213, Xpj, F213_O, Xqb k⟩
theorem X7w (k : Nat) : (Xvk k).Ok Tryz.prog := ⟨fun x => Ac (Am .none _ _ _ _) Ak Tryz.func213 rfl rfl (Xzk k _ _ some), .of (by kernel_rfl)⟩
def Xpv : Nat → Hint
 | 0 => ⟨pl 0 2 (pl 7 2 []), (0, .own .sown A3 []) :: (pl 1100 1 [])⟩
 | _ => ⟨[], []⟩
abbrev Nn (k : Nat) : Env := { Bc (A0 [Xvk k]) Xpv .own [(true, 0), (false, 1100)] k with frz := [15] }
abbrev U6 : List PA := [.one (.lent .own A3), .fc 213 [mI]]
abbrev F215_2_O : RO := ⟨[.v], [mI, .sl .sown A3, mI]⟩
noncomputable def Xpi {β : Type} (k : Nat) (v : Al) (wx : Int) (K : KT β) : Ex → St → Option β := Br (Nn k) Tryz.f215 (PsT.put U6 (v, (wx, ()), ())) K
def Xne (v : Al) (wx : Int) (x8_0 m1100_0 : Int) : St := ⟨(.one (.a (.cell 0) 0 0 none)) :: (.one (.fn 213 [((.cell 1100), 1, 0)])) :: dz 5 ((.one (vI (v.length : Int))) :: (.one (vI x8_0)) :: dz 10 []), [eM 0 (.s .sown A3 v), iM 1100 m1100_0]⟩
noncomputable def I7 {β : Type} (k : Nat) (v : Al) (wx : Int) (K : KT β) (n : Nat) (x8_0 m1100_0 : Int) : Option β := A2 (Nn k) Tryz.f215 [1, 0, 1, 0] 0 (Ae (Nn k) [1, 0, 1, 0] (Af Tryz.f215) 0 (Xpi k v wx K)) n (Xne v wx x8_0 m1100_0)
def Dc {β : Type} (NX : Int → Int → Option β) (RET : (Int × Al × Int) → Option β) (k : Nat) (v : Al) (wx : Int) (x8_0 m1100_0 : Int) : Option β := cond (decide (x8_0 < (v.length : Int))) (Ax x8_0 v ((Xqb k (Ad v x8_0) m1100_0).bind fun b1 => cond b1.1 (RET (x8_0, v, b1.2)) (NX (i64.wrap (x8_0 + 1)) b1.2))) (RET ((-1), v, m1100_0))
def Dv (k : Nat) (v : Al) (wx : Int) : Nat → Int → Int → Option (Int × Al × Int)
 | 0, _, _ => none
 | n + 1, x8_0, m1100_0 => Dc (Dv k v wx n) some k v wx x8_0 m1100_0
theorem Ym {β : Type} (k : Nat) (v : Al) (wx : Int) (K : KT β) (n : Nat) : ∀ (x8_0 m1100_0 : Int), I7 k v wx K n x8_0 m1100_0 =
  (Dv k v wx n x8_0 m1100_0).bind fun r => K (F215_2_O.put r) := by
 induction n with
 | zero => intros; rfl
 | succ n ih =>
  intro x8_0 m1100_0
  refine Eq.trans (b := Dc (I7 k v wx K n) (fun r => K (F215_2_O.put r)) k v wx x8_0 m1100_0) (by kernel_rfl) ?_
  rw [Dv]
  simp only [Dc, z1, z2, z3, z4, z5, z6, z7, z8, ih]
def Je {β : Type} (LP0 : Int → Int → Option β) (k : Nat) (v : Al) (wx : Int) : Option β := LP0 0 wx
def Jc (k : Nat) (v : Al) (wx : Int) : Option (Int × Al × Int) := Je (Dv k v wx k) k v wx
theorem Xnt {β : Type} (k : Nat) (v : Al) (wx : Int) (K : KT β) : Aj (Nn k) Tryz.f215 (PsT.put U6 (v, (wx, ()), ())) K = (Jc k v wx).bind fun r => K (F215_2_O.put r) :=
 Eq.trans (b := Je (I7 k v wx K k) k v wx) (by kernel_rfl) (by simp only [Jc, Je, z1, z2, z3, z4, z5, z6, z7, z8, Ym])
def Xdm (k : Nat) : FD := ⟨215, U6, F215_2_O, Jc k⟩
theorem Xor (k : Nat) : (Xdm k).Ok Tryz.prog := ⟨fun x => Ac (Qh [15] (Ah (.c (X7w k) .n)) _ _ _ _) Ak Tryz.func215 rfl rfl (Xnt k _ _ some), .of (by kernel_rfl)⟩
end
end Go.Proofs.YtdmepjjepogddaaGreat.Gn
end

section
set_option linter.unusedVariables false
set_option linter.unusedSimpArgs false
namespace Go.Proofs.YtdmepjjepogddaaGreat.Gn
open Go.Rf IntKind
noncomputable section
def X83 : Nat → Hint
 | 0 => ⟨[], pl 1100 1 []⟩
 | _ => ⟨[], []⟩
abbrev Xaq (k : Nat) : Env := Bc (A0 [Xdm k]) X83 .own [(false, 1100)] k
abbrev Xd4 : List PA := [.one (.sl .own A3), .fc 213 [mI]]
abbrev F211_O : RO := ⟨[.v], [.sl .sown A3, mI]⟩
noncomputable def X4b {β : Type} (k : Nat) (v : Al) (wx : Int) (K : KT β) : Ex → St → Option β := Br (Xaq k) Tryz.f211 (PsT.put Xd4 (v, (wx, ()), ())) K
def Xxk (v : Al) (wx : Int) (m1100_0 : Int) : St := ⟨dz 42 [], [iM 1100 m1100_0]⟩
noncomputable def Wt {β : Type} (k : Nat) (v : Al) (wx : Int) (K : KT β) (n : Nat) (m1100_0 : Int) : Option β := A2 (Xaq k) Tryz.f211 [1, 1, 1, 0, 1, 0] 0 (Ae (Xaq k) [1, 1, 1, 0, 1, 0] (Af Tryz.f211) 0 (X4b k v wx K)) n (Xxk v wx m1100_0)
def Rb {β : Type} (k : Nat) (v : Al) (wx : Int) (m1100_0 : Int) : Option β := none
def Yo (k : Nat) (v : Al) (wx : Int) : Nat → Int → Option (Al × Int)
 | 0, _ => none
 | n + 1, m1100_0 => Rb k v wx m1100_0
theorem Xg0 {β : Type} (k : Nat) (v : Al) (wx : Int) (K : KT β) (n : Nat) : ∀ (m1100_0 : Int), Wt k v wx K n m1100_0 =
  (Yo k v wx n m1100_0).bind fun r => K (F211_O.put r) := by
 induction n with
 | zero => intros; rfl
 | succ n ih =>
  intro m1100_0
  refine Eq.trans (b := Rb k v wx m1100_0) (by kernel_rfl) ?_
  rw [Yo]
  simp only [Rb, z1, z2, z3, z4, z5, z6, z7, z8, ih]
def Tg {β : Type} (LP0 : Int → Option β) (RET : (Al × Int) → Option β) (k : Nat) (v : Al) (wx : Int) : Option β := (Jc k v wx).bind fun b1 => cond (b1.1 == (-1)) (RET b1.2) (LP0 b1.2.2)
def Xc8 (k : Nat) (v : Al) (wx : Int) : Option (Al × Int) := Tg (Yo k v wx k) some k v wx
theorem Xx7 {β : Type} (k : Nat) (v : Al) (wx : Int) (K : KT β) : Aj (Xaq k) Tryz.f211 (PsT.put Xd4 (v, (wx, ()), ())) K = (Xc8 k v wx).bind fun r => K (F211_O.put r) :=
 Eq.trans (b := Tg (Wt k v wx K k) (fun r => K (F211_O.put r)) k v wx) (by kernel_rfl) (by simp only [Xc8, Tg, z1, z2, z3, z4, z5, z6, z7, z8, Xg0])
def Xta (k : Nat) : FD := ⟨211, Xd4, F211_O, Xc8 k⟩
theorem X5j (k : Nat) : (Xta k).Ok Tryz.prog := ⟨fun x => Ac (Am (Ah (.c (Xor k) .n)) _ _ _ _) Ak Tryz.func211 rfl rfl (Xx7 k _ _ some), .of (by kernel_rfl)⟩
abbrev Ybt (k : Nat) : Env := Bc (A0 [Xc k]) Ao .own [(false, 1000), (false, 1001), (false, 1002), (false, 1003), (false, 1004), (false, 1005), (false, 1006), (false, 1007), (false, 1008)] k
abbrev Xuf : List PA := [.agg (.pair (.sl .ro Ai) mI), .p (.pair mI Dd)]
abbrev F216_O : RO := ⟨[.v], [mB, .pair mI Dd]⟩
def Xbd {β : Type} (RET : (Bool × (den Ai)) → Option β) (k : Nat) (v : (den A3)) (w : (den Ai)) : Option β := cond (decide (0 < (v.1.length : Int))) ((Xe7 k (Ad v.1 0) w).bind fun b1 => RET (b1, w)) none
def Xl9 := Xbd (β := Bool × (den Ai)) some
theorem X04 {β : Type} (k : Nat) (v : (den A3)) (w : (den Ai)) (K : KT β) : Aj (Ybt k) Tryz.f216 (PsT.put Xuf (v, w, ())) K = (Xl9 k v w).bind fun r => K (F216_O.put r) :=
 Eq.trans (b := Xbd (fun r => K (F216_O.put r)) k v w) (by kernel_rfl) (by simp only [Xl9, Xbd, z1, z2, z3, z4, z5, z6, z7, z8, Az, Bm])
def Xwl (k : Nat) : FD := ⟨216, Xuf, F216_O, Xl9 k⟩
theorem X39 (k : Nat) : (Xwl k).Ok Tryz.prog := ⟨fun x => Ac (Am (Ah (.c (Xib k) .n)) _ _ _ _) Ak Tryz.func216 rfl rfl (X04 k _ _ some), .of (by kernel_rfl)⟩
def Xuc : Nat → Hint
 | 0 => ⟨pl 0 2 (pl 7 2 []), pl 0 1 (pl 1100 9 [])⟩
 | _ => ⟨[], []⟩
abbrev Oj (k : Nat) : Env := { Bc (A0 [Xwl k]) Xuc .own [(true, 0), (false, 1100), (false, 1101), (false, 1102), (false, 1103), (false, 1104), (false, 1105), (false, 1106), (false, 1107), (false, 1108)] k with frz := [15] }
abbrev Tq : List PA := [.one (.lent .sown A3), .fc 216 [.pair mI Dd]]
abbrev F215_3_O : RO := ⟨[.v], [mI, .sl .sown A3, .pair mI Dd]⟩
noncomputable def Xpl {β : Type} (k : Nat) (v : Al) (wx : (den Ai)) (K : KT β) : Ex → St → Option β := Br (Oj k) Tryz.f215 (PsT.put Tq (v, (wx, ()), ())) K
def Xnu (v : Al) (wx : (den Ai)) (x8_0 : Int) (m1100_0 : (den Ai)) : St := ⟨(.one (.a (.cell 0) 0 0 none)) :: (.one (.fn 216 [((.cell 1100), 9, 0)])) :: dz 5 ((.one (vI (v.length : Int))) :: (.one (vI x8_0)) :: dz 10 []), (eM 0 (.s .sown A3 v)) :: (A9 1100 (B0 (.pair mI Dd) m1100_0) [])⟩
noncomputable def Jy {β : Type} (k : Nat) (v : Al) (wx : (den Ai)) (K : KT β) (n : Nat) (x8_0 : Int) (m1100_0 : (den Ai)) : Option β := A2 (Oj k) Tryz.f215 [1, 0, 1, 0] 0 (Ae (Oj k) [1, 0, 1, 0] (Af Tryz.f215) 0 (Xpl k v wx K)) n (Xnu v wx x8_0 m1100_0)
def Ea {β : Type} (NX : Int → (den Ai) → Option β) (RET : (Int × Al × (den Ai)) → Option β) (k : Nat) (v : Al) (wx : (den Ai)) (x8_0 : Int) (m1100_0 : (den Ai)) : Option β := cond (decide (x8_0 < (v.length : Int))) (Ax x8_0 v ((Xl9 k (Ad v x8_0) m1100_0).bind fun b1 => cond b1.1 (RET (x8_0, v, b1.2)) (NX (i64.wrap (x8_0 + 1)) b1.2))) (RET ((-1), v, m1100_0))
def E4 (k : Nat) (v : Al) (wx : (den Ai)) : Nat → Int → (den Ai) → Option (Int × Al × (den Ai))
 | 0, _, _ => none
 | n + 1, x8_0, m1100_0 => Ea (E4 k v wx n) some k v wx x8_0 m1100_0
theorem Zs {β : Type} (k : Nat) (v : Al) (wx : (den Ai)) (K : KT β) (n : Nat) : ∀ (x8_0 : Int) (m1100_0 : (den Ai)), Jy k v wx K n x8_0 m1100_0 =
  (E4 k v wx n x8_0 m1100_0).bind fun r => K (F215_3_O.put r) := by
 induction n with
 | zero => intros; rfl
 | succ n ih =>
  intro x8_0 m1100_0
  refine Eq.trans (b := Ea (Jy k v wx K n) (fun r => K (F215_3_O.put r)) k v wx x8_0 m1100_0) (by kernel_rfl) ?_
  rw [E4]
  simp only [Ea, z1, z2, z3, z4, z5, z6, z7, z8, Az, ih]
def Jk {β : Type} (LP0 : Int → (den Ai) → Option β) (k : Nat) (v : Al) (wx : (den Ai)) : Option β := LP0 0 wx
def Jz (k : Nat) (v : Al) (wx : (den Ai)) : Option (Int × Al × (den Ai)) := Jk (E4 k v wx k) k v wx
theorem Xlk {β : Type} (k : Nat) (v : Al) (wx : (den Ai)) (K : KT β) : Aj (Oj k) Tryz.f215 (PsT.put Tq (v, (wx, ()), ())) K = (Jz k v wx).bind fun r => K (F215_3_O.put r) :=
 Eq.trans (b := Jk (Jy k v wx K k) k v wx) (by kernel_rfl) (by simp only [Jz, Jk, z1, z2, z3, z4, z5, z6, z7, z8, Az, Zs])
def Xdy (k : Nat) : FD := ⟨215, Tq, F215_3_O, Jz k⟩
theorem Xtc (k : Nat) : (Xdy k).Ok Tryz.prog := ⟨fun x => Ac (Qh [15] (Ah (.c (X39 k) .n)) _ _ _ _) Ak Tryz.func215 rfl rfl (Xlk k _ _ some), .of (by kernel_rfl)⟩
abbrev X4c (k : Nat) : Env := Bc (A0 [Zb k]) Ao .own [(false, 1000), (false, 1001), (false, 1002), (false, 1003), (false, 1004), (false, 1005), (false, 1006), (false, 1007), (false, 1008)] k
abbrev Xr8 : List PA := [.agg (.pair mI Dd), .p (.pair mI Dd)]
abbrev F273_O : RO := ⟨[.v], [mB, .pair mI Dd]⟩
def Za {β : Type} (RET : (Bool × (den Ai)) → Option β) (k : Nat) (v w : (den Ai)) : Option β := cond (v.2.2.2.2.2.1 == w.2.2.2.2.2.1) (cond (v.2.2.2.2.2.2.1 == w.2.2.2.2.2.2.1) ((Xdo k v.2.2.2.2.2.2.2.2 w.2.2.2.2.2.2.2.2).bind fun b1 => RET (b1, w)) (RET (false, w))) (RET (false, w))
def Xn3 := Za (β := Bool × (den Ai)) some
theorem Xx3 {β : Type} (k : Nat) (v w : (den Ai)) (K : KT β) : Aj (X4c k) Tryz.f273 (PsT.put Xr8 (v, w, ())) K = (Xn3 k v w).bind fun r => K (F273_O.put r) :=
 Eq.trans (b := Za (fun r => K (F273_O.put r)) k v w) (by kernel_rfl) (by simp only [Xn3, Za, z1, z2, z3, z4, z5, z6, z7, z8, Az])
def Xod (k : Nat) : FD := ⟨273, Xr8, F273_O, Xn3 k⟩
theorem Ya9 (k : Nat) : (Xod k).Ok Tryz.prog := ⟨fun x => Ac (Am (Ah (.c (Xil k) .n)) _ _ _ _) Ak Tryz.func273 rfl rfl (Xx3 k _ _ some), .of (by kernel_rfl)⟩
def Yba : Nat → Hint
 | 0 => ⟨pl 0 2 (pl 7 2 []), pl 1100 9 []⟩
 | _ => ⟨[], []⟩
abbrev Xh (k : Nat) : Env := Bc (A0 [Xod k]) Yba .own [(false, 1100), (false, 1101), (false, 1102), (false, 1103), (false, 1104), (false, 1105), (false, 1106), (false, 1107), (false, 1108)] k
abbrev Xgn : List PA := [.one (.sl .ro Ai), .fc 273 [.pair mI Dd]]
abbrev F274_O : RO := ⟨[.v], [mI, .pair mI Dd]⟩
noncomputable def X8g {β : Type} (k : Nat) (v : Aq) (wx : (den Ai)) (K : KT β) : Ex → St → Option β := Br (Xh k) Tryz.f274 (PsT.put Xgn (v, (wx, ()), ())) K
def Xxb (v : Aq) (wx : (den Ai)) (x8_0 : Int) (m1100_0 : (den Ai)) : St := ⟨(.one (.s .ro Ai v)) :: (.one (.fn 273 [((.cell 1100), 9, 0)])) :: dz 5 ((.one (vI (v.length : Int))) :: (.one (vI x8_0)) :: dz 10 []), A9 1100 (B0 (.pair mI Dd) m1100_0) []⟩
noncomputable def Re {β : Type} (k : Nat) (v : Aq) (wx : (den Ai)) (K : KT β) (n : Nat) (x8_0 : Int) (m1100_0 : (den Ai)) : Option β := A2 (Xh k) Tryz.f274 [1, 0, 1, 0] 0 (Ae (Xh k) [1, 0, 1, 0] (Af Tryz.f274) 0 (X8g k v wx K)) n (Xxb v wx x8_0 m1100_0)
def Ky {β : Type} (NX : Int → (den Ai) → Option β) (RET : (Int × (den Ai)) → Option β) (k : Nat) (v : Aq) (wx : (den Ai)) (x8_0 : Int) (m1100_0 : (den Ai)) : Option β := cond (decide (x8_0 < (v.length : Int))) (Ax x8_0 v ((Xn3 k (Ad v x8_0) m1100_0).bind fun b1 => cond b1.1 (RET (x8_0, b1.2)) (NX (i64.wrap (x8_0 + 1)) b1.2))) (RET ((-1), m1100_0))
def Kx (k : Nat) (v : Aq) (wx : (den Ai)) : Nat → Int → (den Ai) → Option (Int × (den Ai))
 | 0, _, _ => none
 | n + 1, x8_0, m1100_0 => Ky (Kx k v wx n) some k v wx x8_0 m1100_0
theorem Xid {β : Type} (k : Nat) (v : Aq) (wx : (den Ai)) (K : KT β) (n : Nat) : ∀ (x8_0 : Int) (m1100_0 : (den Ai)), Re k v wx K n x8_0 m1100_0 =
  (Kx k v wx n x8_0 m1100_0).bind fun r => K (F274_O.put r) := by
 induction n with
 | zero => intros; rfl
 | succ n ih =>
  intro x8_0 m1100_0
  refine Eq.trans (b := Ky (Re k v wx K n) (fun r => K (F274_O.put r)) k v wx x8_0 m1100_0) (by kernel_rfl) ?_
  rw [Kx]
  simp only [Ky, z1, z2, z3, z4, z5, z6, z7, z8, Az, ih]
def Xgq {β : Type} (LP0 : Int → (den Ai) → Option β) (k : Nat) (v : Aq) (wx : (den Ai)) : Option β := LP0 0 wx
def Xqt (k : Nat) (v : Aq) (wx : (den Ai)) : Option (Int × (den Ai)) := Xgq (Kx k v wx k) k v wx
theorem Xy6 {β : Type} (k : Nat) (v : Aq) (wx : (den Ai)) (K : KT β) : Aj (Xh k) Tryz.f274 (PsT.put Xgn (v, (wx, ()), ())) K = (Xqt k v wx).bind fun r => K (F274_O.put r) :=
 Eq.trans (b := Xgq (Re k v wx K k) k v wx) (by kernel_rfl) (by simp only [Xqt, Xgq, z1, z2, z3, z4, z5, z6, z7, z8, Az, Xid])
def Xqo (k : Nat) : FD := ⟨274, Xgn, F274_O, Xqt k⟩
theorem X5c (k : Nat) : (Xqo k).Ok Tryz.prog := ⟨fun x => Ac (Am (Ah (.c (Ya9 k) .n)) _ _ _ _) Ak Tryz.func274 rfl rfl (Xy6 k _ _ some), .of (by kernel_rfl)⟩
abbrev X9b (k : Nat) : Env := Bc (A0 [Xqo k]) Ao .own [(false, 1100), (false, 1101), (false, 1102), (false, 1103), (false, 1104), (false, 1105), (false, 1106), (false, 1107), (false, 1108)] k
abbrev Xq2 : List PA := [.one (.sl .ro Ai), .fc 273 [.pair mI Dd]]
abbrev F272_O : RO := ⟨[.v], [mB, .pair mI Dd]⟩
def Xl2 (k : Nat) (v : Aq) (wx : (den Ai)) : Option (Bool × (den Ai)) := (Xqt k v wx).bind fun b1 => some (decide (b1.1 ≥ 0), b1.2)
theorem Xyl {β : Type} (k : Nat) (v : Aq) (wx : (den Ai)) (K : KT β) : Aj (X9b k) Tryz.f272 (PsT.put Xq2 (v, (wx, ()), ())) K = (Xl2 k v wx).bind fun r => K (F272_O.put r) :=
 Eq.trans (b := (Xqt k v wx).bind fun b1 => K (F272_O.put (decide (b1.1 ≥ 0), b1.2))) (by kernel_rfl) (by simp only [Xl2, z1, z2, z3, z4, z5, z6, z7, z8, Az])
def Xoa (k : Nat) : FD := ⟨272, Xq2, F272_O, Xl2 k⟩
theorem Yaf (k : Nat) : (Xoa k).Ok Tryz.prog := ⟨fun x => Ac (Am (Ah (.c (X5c k) .n)) _ _ _ _) Ak Tryz.func272 rfl rfl (Xyl k _ _ some), .of (by kernel_rfl)⟩
abbrev Ybq (k : Nat) : Env := Bc Bx Ao .own [(false, 1000), (false, 1001), (false, 1002), (false, 1003), (false, 1004), (false, 1005), (false, 1006), (false, 1007), (false, 1008)] k
abbrev Xpd : List PA := [.agg (.pair mI Dd), .p (.pair mI Dd)]
abbrev F275_O : RO := ⟨[.v], [mB, .pair mI Dd]⟩
def Xmv (k : Nat) (v w : (den Ai)) : Option (Bool × (den Ai)) := some (decide (v.2.2.2.2.2.1 > w.2.2.2.2.2.1), w)
theorem Xw4 {β : Type} (k : Nat) (v w : (den Ai)) (K : KT β) : Aj (Ybq k) Tryz.f275 (PsT.put Xpd (v, w, ())) K = (Xmv k v w).bind fun r => K (F275_O.put r) :=
 Eq.trans (b := K (F275_O.put (decide (v.2.2.2.2.2.1 > w.2.2.2.2.2.1), w))) (by kernel_rfl) (by simp only [Xmv, z1, z2, z3, z4, z5, z6, z7, z8, Az])
def Xul (k : Nat) : FD := ⟨275, Xpd, F275_O, Xmv k⟩
theorem X72 (k : Nat) : (Xul k).Ok Tryz.prog := ⟨fun x => Ac (Am .none _ _ _ _) Ak Tryz.func275 rfl rfl (Xw4 k _ _ some), .of (by kernel_rfl)⟩
def Xop : Nat → Hint
 | 0 => ⟨pl 0 2 (pl 7 2 []), pl 1100 9 []⟩
 | _ => ⟨[], []⟩
abbrev Nh (k : Nat) : Env := Bc (A0 [Xul k]) Xop .own [(false, 1100), (false, 1101), (false, 1102), (false, 1103), (false, 1104), (false, 1105), (false, 1106), (false, 1107), (false, 1108)] k
abbrev Tx : List PA := [.one (.sl .ro Ai), .fc 275 [.pair mI Dd]]
abbrev F274_2_O : RO := ⟨[.v], [mI, .pair mI Dd]⟩
noncomputable def Xo6 {β : Type} (k : Nat) (v : Aq) (wx : (den Ai)) (K : KT β) : Ex → St → Option β := Br (Nh k) Tryz.f274 (PsT.put Tx (v, (wx, ()), ())) K
def Xmz (v : Aq) (wx : (den Ai)) (x8_0 : Int) (m1100_0 : (den Ai)) : St := ⟨(.one (.s .ro Ai v)) :: (.one (.fn 275 [((.cell 1100), 9, 0)])) :: dz 5 ((.one (vI (v.length : Int))) :: (.one (vI x8_0)) :: dz 10 []), A9 1100 (B0 (.pair mI Dd) m1100_0) []⟩
noncomputable def J9 {β : Type} (k : Nat) (v : Aq) (wx : (den Ai)) (K : KT β) (n : Nat) (x8_0 : Int) (m1100_0 : (den Ai)) : Option β := A2 (Nh k) Tryz.f274 [1, 0, 1, 0] 0 (Ae (Nh k) [1, 0, 1, 0] (Af Tryz.f274) 0 (Xo6 k v wx K)) n (Xmz v wx x8_0 m1100_0)
def Gi {β : Type} (NX : Int → (den Ai) → Option β) (RET : (Int × (den Ai)) → Option β) (k : Nat) (v : Aq) (wx : (den Ai)) (x8_0 : Int) (m1100_0 : (den Ai)) : Option β := cond (decide (x8_0 < (v.length : Int))) (Ax x8_0 v ((Xmv k (Ad v x8_0) m1100_0).bind fun b1 => cond b1.1 (RET (x8_0, b1.2)) (NX (i64.wrap (x8_0 + 1)) b1.2))) (RET ((-1), m1100_0))
def E9 (k : Nat) (v : Aq) (wx : (den Ai)) : Nat → Int → (den Ai) → Option (Int × (den Ai))
 | 0, _, _ => none
 | n + 1, x8_0, m1100_0 => Gi (E9 k v wx n) some k v wx x8_0 m1100_0
theorem Yl {β : Type} (k : Nat) (v : Aq) (wx : (den Ai)) (K : KT β) (n : Nat) : ∀ (x8_0 : Int) (m1100_0 : (den Ai)), J9 k v wx K n x8_0 m1100_0 =
  (E9 k v wx n x8_0 m1100_0).bind fun r => K (F274_2_O.put r) := by
 induction n with
 | zero => intros; rfl
 | succ n ih =>
  intro x8_0 m1100_0
  refine Eq.trans (b := Gi (J9 k v wx K n) (fun r => K (F274_2_O.put r)) k v wx x8_0 m1100_0) (by kernel_rfl) ?_
  rw [E9]
  simp only [Gi, z1, z2, z3, z4, z5, z6, z7, z8, Az, ih]
def Vc {β : Type} (LP0 : Int → (den Ai) → Option β) (k : Nat) (v : Aq) (wx : (den Ai)) : Option β := LP0 0 wx
def Ys (k : Nat) (v : Aq) (wx : (den Ai)) : Option (Int × (den Ai)) := Vc (E9 k v wx k) k v wx
theorem Xmc {β : Type} (k : Nat) (v : Aq) (wx : (den Ai)) (K : KT β) : Aj (Nh k) Tryz.f274 (PsT.put Tx (v, (wx, ()), ())) K = (Ys k v wx).bind fun r => K (F274_2_O.put r) :=
 Eq.trans (b := Vc (J9 k v wx K k) k v wx) (by kernel_rfl) (by simp only [Ys, Vc, z1, z2, z3, z4, z5, z6, z7, z8, Az, Yl])
def Xcy (k : Nat) : FD := ⟨274, Tx, F274_2_O, Ys k⟩
theorem Xo2 (k : Nat) : (Xcy k).Ok Tryz.prog := ⟨fun x => Ac (Am (Ah (.c (X72 k) .n)) _ _ _ _) Ak Tryz.func274 rfl rfl (Xmc k _ _ some), .of (by kernel_rfl)⟩
abbrev X8v (k : Nat) : Env := Bc Bx Ao .own [] k
abbrev Xs0 : List PA := [.one (.sl .ro Ai)]
abbrev F277_O : RO := ⟨[.v], [.sl .sown Ai]⟩
def W9 {β : Type} (RET : Aq → Option β) (k : Nat) (v : Aq) : Option β := cond (decide (v.length = 0)) none (Be (([] : Aq).length) (v.length) 80 (RET ([] ++ v)))
def Xgi := W9 (β := Aq) some
theorem Xyb {β : Type} (k : Nat) (v : Aq) (K : KT β) : Aj (X8v k) Tryz.f277 (PsT.put Xs0 (v, ())) K = (Xgi k v).bind fun r => K (F277_O.put r) :=
 Eq.trans (b := W9 (fun r => K (F277_O.put r)) k v) (by kernel_rfl) (by simp only [Xgi, W9, z1, z2, z3, z4, z5, z6, z7, z8])
def Xsa (k : Nat) : FD := ⟨277, Xs0, F277_O, Xgi k⟩
theorem X53 (k : Nat) : (Xsa k).Ok Tryz.prog := ⟨fun x => Ac (Am .none _ _ _ _) Ak Tryz.func277 rfl rfl (Xyb k _ some), .of (by kernel_rfl)⟩
abbrev Yan (k : Nat) : Env := Bc Bx Ao .own [] k
abbrev Xp4 : List PA := [.one (.sl .sown Ai), .one mI, .one (.sl .ro Ai)]
abbrev F276_O : RO := ⟨[.v], [.sl .sown Ai]⟩
def X8 {β : Type} (RET : Aq → Option β) (k : Nat) (v : Aq) (w : Int) (p : Aq) : Option β := cond (decide (0 ≤ w) && decide (w ≤ (v.length : Int))) (cond ((p.length : Int) == 0) (RET v) (cond (w == (v.length : Int)) (Be (v.length) (p.length) 80 (RET (v ++ p))) none)) none
def Xic := X8 (β := Aq) some
theorem Xxi {β : Type} (k : Nat) (v : Aq) (w : Int) (p : Aq) (K : KT β) : Aj (Yan k) Tryz.f276 (PsT.put Xp4 (v, w, p, ())) K = (Xic k v w p).bind fun r => K (F276_O.put r) :=
 Eq.trans (b := X8 (fun r => K (F276_O.put r)) k v w p) (by kernel_rfl) (by simp only [Xic, X8, z1, z2, z3, z4, z5, z6, z7, z8])
def Xqg (k : Nat) : FD := ⟨276, Xp4, F276_O, Xic k⟩
theorem X81 (k : Nat) : (Xqg k).Ok Tryz.prog := ⟨fun x => Ac (Am .none _ _ _ _) Ak Tryz.func276 rfl rfl (Xxi k _ _ _ some), .of (by kernel_rfl)⟩
abbrev X9l (k : Nat) : Env := Bc (A0 [Xoa k, Xhz k, Xcy k, Xsa k, Xqg k, Xfz k]) Ao .own [] k
abbrev Xv9 : List PA := [.agg (.pair (.sl .ro Ai) mI), .agg (.pair mI Dd)]
abbrev F218_O : RO := ⟨[.a, .v], [.pair (.sl .own Ai) mI, mB]⟩
def Xad {β : Type} (RET : (den A3) × Bool → Option β) (k : Nat) (v : (den A3)) (w : (den Ai)) : Option β := Bm v fun v0 v1 => (Xl2 k v0 w).bind fun b1 => cond b1.1 ((Vd k v).bind fun b2 => RET (b2, true)) ((Ys k v0 b1.2).bind fun b3 => cond (decide (b3.1 < 0)) ((Xgi k v0).bind fun b4 => (Xic k b4 (v0.length : Int) [b3.2]).bind fun b5 => (Xgl k (b5, v1)).bind fun b6 => cond (!b6) (RET (([], 0), false)) ((Vd k (b5, v1)).bind fun b7 => RET (b7, true))) ((Xgi k v0).bind fun b8 => (Xic k b8 b3.1 [b3.2]).bind fun b9 => (Xgl k (b9, v1)).bind fun b10 => cond (!b10) (RET (([], 0), false)) ((Vd k (b9, v1)).bind fun b11 => RET (b11, true))))
def Xmr := Xad (β := (den A3) × Bool) some
theorem X0i {β : Type} (k : Nat) (v : (den A3)) (w : (den Ai)) (K : KT β) : Aj (X9l k) Tryz.f218 (PsT.put Xv9 (v, w, ())) K = (Xmr k v w).bind fun r => K (F218_O.put r) :=
 Eq.trans (b := Xad (fun r => K (F218_O.put r)) k v w) (by kernel_rfl) (by simp only [Xmr, Xad, z1, z2, z3, z4, z5, z6, z7, z8, Az, Bm])
def Xu5 (k : Nat) : FD := ⟨218, Xv9, F218_O, Xmr k⟩
theorem Ycj (k : Nat) : (Xu5 k).Ok Tryz.prog := ⟨fun x => Ac (Am (Ah (.c (Yaf k) (.c (Xrg k) (.c (Xo2 k) (.c (X53 k) (.c (X81 k) (.c (Xq7 k) .n))))))) _ _ _ _) Ak Tryz.func218 rfl rfl (X0i k _ _ some), .of (by kernel_rfl)⟩
abbrev Yb0 : List PA := [.one (.sl .sown A3), .one mI, .one mI]
abbrev X6h : RO := ⟨[.v], [.sl .own A3]⟩
def X05 (k : Nat) (v : Al) (w p : Int) : Option (Al) := De.del v w p
def Xtd (k : Nat) : FD := ⟨219, Yb0, X6h, X05 k⟩
theorem X6n (k : Nat) : (Xtd k).Ok Tryz.prog := ⟨fun x => De.con x.1 x.2.1 x.2.2.1, .of (by kernel_rfl)⟩
def X4p : Nat → Hint
 | 0 => ⟨pl 1 2 (pl 4 2 (pl 15 3 [])), pl 1000 2 (pl 2000 9 (pl 4000 8 ((4008, .own .own (.int .u8) []) :: [])))⟩
 | _ => ⟨[], []⟩
abbrev Zt (k : Nat) : Env := Bc (A0 [P9 k]) X4p .own [] k
abbrev Xh3 : List PA := [.agg (.pair (.sl .ro Ai) mI)]
abbrev F220_O : RO := ⟨[.a, .v], [.pair mI M5, mB]⟩
noncomputable def X6x {β : Type} (k : Nat) (v : (den A3)) (K : KT β) : Ex → St → Option β := Br (Zt k) Tryz.f220 (PsT.put Xh3 (v, ())) K
def Xw5 (v : (den A3)) (x5_0 x17_0 : Int) (m4000_0 : (den Ai)) : St := ⟨(.one .d) :: (.one (.ptr (.cell 1000) 2 0)) :: (.one (.ptr (.cell 2000) 9 0)) :: (.one .d) :: (.one (.ptr (.cell 4000) 9 0)) :: (.one (vI x5_0)) :: dz 9 ((.one (.s .ro Ai v.1)) :: (.one (vI (v.1.length : Int))) :: (.one (vI x17_0)) :: dz 33 []), A9 1000 (B0 (.pair (.sl .ro Ai) mI) v) (A9 2000 (B0 (.pair mI M5) (0, 0, 0, 0, 0, 0, false, false, [])) (A9 4000 (B0 (.pair mI M5) m4000_0) []))⟩
noncomputable def Q1 {β : Type} (k : Nat) (v : (den A3)) (K : KT β) (n : Nat) (x5_0 x17_0 : Int) (m4000_0 : (den Ai)) : Option β := A2 (Zt k) Tryz.f220 [1, 1, 1, 1, 0, 1, 0] 0 (Ae (Zt k) [1, 1, 1, 1, 0, 1, 0] (Af Tryz.f220) 0 (X6x k v K)) n (Xw5 v x5_0 x17_0 m4000_0)
def G3 {β : Type} (NX : Int → Int → (den Ai) → Option β) (RET : (den Ai) × Bool → Option β) (k : Nat) (v : (den A3)) (x5_0 x17_0 : Int) (m4000_0 : (den Ai)) : Option β := Bm v fun v0 _ => cond (decide (x17_0 < (v0.length : Int))) (Ax x17_0 v0 (cond ((Ad v0 x17_0).2.2.2.2.2.1 != x5_0) (RET ((0, 0, 0, 0, 0, 0, false, false, []), false)) (Be (m4000_0.2.2.2.2.2.2.2.2.length) ((Ad v0 x17_0).2.2.2.2.2.2.2.2.length) 1 (NX (i64.wrap (x5_0 + ((Ad v0 x17_0).2.2.2.2.2.2.2.2.length : Int))) (i64.wrap (x17_0 + 1)) (m4000_0.1, m4000_0.2.1, m4000_0.2.2.1, m4000_0.2.2.2.1, m4000_0.2.2.2.2.1, m4000_0.2.2.2.2.2.1, m4000_0.2.2.2.2.2.2.1, m4000_0.2.2.2.2.2.2.2.1, m4000_0.2.2.2.2.2.2.2.2 ++ (Ad v0 x17_0).2.2.2.2.2.2.2.2))))) (Ax (i64.wrap ((v0.length : Int) - 1)) v0 (cond (Ad v0 (i64.wrap ((v0.length : Int) - 1))).2.2.2.2.2.2.1 (RET ((0, 0, 0, 0, 0, 0, false, false, []), false)) ((Se k (m4000_0.1, m4000_0.2.1, m4000_0.2.2.1, m4000_0.2.2.2.1, m4000_0.2.2.2.2.1, m4000_0.2.2.2.2.2.1, false, m4000_0.2.2.2.2.2.2.2)).bind fun b2 => RET (b2, true))))
def Hz (k : Nat) (v : (den A3)) : Nat → Int → Int → (den Ai) → Option ((den Ai) × Bool)
 | 0, _, _, _ => none
 | n + 1, x5_0, x17_0, m4000_0 => G3 (Hz k v n) some k v x5_0 x17_0 m4000_0
theorem Xhb {β : Type} (k : Nat) (v : (den A3)) (K : KT β) (n : Nat) : ∀ (x5_0 x17_0 : Int) (m4000_0 : (den Ai)), Q1 k v K n x5_0 x17_0 m4000_0 =
  (Hz k v n x5_0 x17_0 m4000_0).bind fun r => K (F220_O.put r) := by
 induction n with
 | zero => intros; rfl
 | succ n ih =>
  intro x5_0 x17_0 m4000_0
  refine Eq.trans (b := G3 (Q1 k v K n) (fun r => K (F220_O.put r)) k v x5_0 x17_0 m4000_0) (by kernel_rfl) ?_
  rw [Hz]
  simp only [G3, z1, z2, z3, z4, z5, z6, z7, z8, Bm, ih]
def Xae {β : Type} (LP0 : Int → Int → (den Ai) → Option β) (k : Nat) (v : (den A3)) : Option β := cond (decide (0 < (v.1.length : Int))) ((Se k (Ad v.1 0)).bind fun b1 => LP0 0 0 (b1.1, b1.2.1, b1.2.2.1, b1.2.2.2.1, b1.2.2.2.2.1, b1.2.2.2.2.2.1, b1.2.2.2.2.2.2.1, b1.2.2.2.2.2.2.2.1, [])) none
def Xm2 (k : Nat) (v : (den A3)) : Option ((den Ai) × Bool) := Xae (Hz k v k) k v
theorem Xw7 {β : Type} (k : Nat) (v : (den A3)) (K : KT β) : Aj (Zt k) Tryz.f220 (PsT.put Xh3 (v, ())) K = (Xm2 k v).bind fun r => K (F220_O.put r) :=
 Eq.trans (b := Xae (Q1 k v K k) k v) (by kernel_rfl) (by simp only [Xm2, Xae, z1, z2, z3, z4, z5, z6, z7, z8, Bm, Xhb])
def Xuq (k : Nat) : FD := ⟨220, Xh3, F220_O, Xm2 k⟩
theorem Yaj (k : Nat) : (Xuq k).Ok Tryz.prog := ⟨fun x => Ac (Am (Ah (.c (Ue k) .n)) _ _ _ _) Ak Tryz.func220 rfl rfl (Xw7 k _ some), .of (by kernel_rfl)⟩
abbrev X40 (k : Nat) : Env := { Bc (A0 [Xrf k, Xc9 k, Gl k, Xuo k, Xta k, P9 k, Xdy k, Xu5 k, Xtd k, Xuq k]) Ao .own [] k with frz := [70] }
abbrev Xsc : List PA := [.one (.sl .ro A3), .agg (.pair mI Dd), .one mI]
abbrev F141_O : RO := ⟨[.v, .a, .v], [.sl .own A3, .pair mI M5, mB]⟩
def Oo {β : Type} (k : Nat) (v : Al) (w : (den Ai)) (p : Int) (RET : (Al × (den Ai) × Bool) → Option β) (b5 : Al × Int) : Option β := (Jz k b5.1 w).bind fun b8 => cond (decide (b8.1 < 0)) (Be (b8.2.1.length) ([([b8.2.2], i64.wrap (b5.2 + 15))].length) 32 (cond (decide (0 ≤ (if 0 < (i64.wrap (((b8.2.1 ++ [([b8.2.2], i64.wrap (b5.2 + 15))]).length : Int) - 3)) then i64.wrap (((b8.2.1 ++ [([b8.2.2], i64.wrap (b5.2 + 15))]).length : Int) - 3) else 0)) && decide ((if 0 < (i64.wrap (((b8.2.1 ++ [([b8.2.2], i64.wrap (b5.2 + 15))]).length : Int) - 3)) then i64.wrap (((b8.2.1 ++ [([b8.2.2], i64.wrap (b5.2 + 15))]).length : Int) - 3) else 0) ≤ ((b8.2.1 ++ [([b8.2.2], i64.wrap (b5.2 + 15))]).length : Int))) ((O9 k (((b8.2.1 ++ [([b8.2.2], i64.wrap (b5.2 + 15))]).take ((((b8.2.1 ++ [([b8.2.2], i64.wrap (b5.2 + 15))]).length : Int)).toNat)).drop ((if 0 < (i64.wrap (((b8.2.1 ++ [([b8.2.2], i64.wrap (b5.2 + 15))]).length : Int) - 3)) then i64.wrap (((b8.2.1 ++ [([b8.2.2], i64.wrap (b5.2 + 15))]).length : Int) - 3) else 0).toNat))).bind fun b9 => RET (b9, (0, 0, 0, 0, 0, 0, false, false, []), false)) none)) (Ax b8.1 b8.2.1 ((Xmr k (Ad b8.2.1 b8.1) b8.2.2).bind fun b10 => cond (!b10.2) ((X05 k b8.2.1 b8.1 (i64.wrap (b8.1 + 1))).bind fun b11 => (O9 k b11).bind fun b12 => RET (b12, (0, 0, 0, 0, 0, 0, false, false, []), false)) ((Xm2 k b10.1).bind fun b13 => cond b13.2 ((X05 k b8.2.1 b8.1 (i64.wrap (b8.1 + 1))).bind fun b14 => (O9 k b14).bind fun b15 => RET (b15, b13.1, true)) (Ax b8.1 b8.2.1 ((O9 k (b8.2.1.set b8.1.toNat b10.1)).bind fun b16 => RET (b16, (0, 0, 0, 0, 0, 0, false, false, []), false))))))
def Pz {β : Type} (RET : (Al × (den Ai) × Bool) → Option β) (k : Nat) (v : Al) (w : (den Ai)) (p : Int) : Option β := (Xbu k v).bind fun b1 => cond (!b1) (RET ([], (0, 0, 0, 0, 0, 0, false, false, []), false)) ((F89 k w).bind fun b2 => cond (!b2) (RET ([], (0, 0, 0, 0, 0, 0, false, false, []), false)) ((Rp k p 0 999985).bind fun b3 => cond (!b3) (RET ([], (0, 0, 0, 0, 0, 0, false, false, []), false)) ((O9 k v).bind fun b4 => (Xc8 k b4 p).bind fun b5 => cond (w.2.2.2.2.2.1 == 0) (cond (!w.2.2.2.2.2.2.1) ((O9 k b5.1).bind fun b6 => (Se k w).bind fun b7 => RET (b6, b7, true)) (Oo k v w p RET b5)) (Oo k v w p RET b5))))
def Te := Pz (β := Al × (den Ai) × Bool) some
theorem X0m {β : Type} (k : Nat) (v : Al) (w : (den Ai)) (p : Int) (K : KT β) : Aj (X40 k) Tryz.f141 (PsT.put Xsc (v, w, p, ())) K = (Te k v w p).bind fun r => K (F141_O.put r) :=
 Eq.trans (b := Pz (fun r => K (F141_O.put r)) k v w p) (by kernel_rfl) (by simp only [Te, Pz, Oo, z1, z2, z3, z4, z5, z6, z7, z8, Az])
def Xsq (k : Nat) : FD := ⟨141, Xsc, F141_O, Te k⟩
theorem X5f (k : Nat) : (Xsq k).Ok Tryz.prog := ⟨fun x => Ac (Qh [70] (Ah (.c (X8e k) (.c (Xkq k) (.c (G7 k) (.c (X8b k) (.c (X5j k) (.c (Ue k) (.c (Xtc k) (.c (Ycj k) (.c (X6n k) (.c (Yaj k) .n))))))))))) _ _ _ _) Ak Tryz.func141 rfl rfl (X0m k _ _ _ some), .of (by kernel_rfl)⟩
end
end Go.Proofs.YtdmepjjepogddaaGreat.Gn
end

section
set_option linter.unusedVariables false
set_option linter.unusedSimpArgs false
namespace Go.Proofs.YtdmepjjepogddaaGreat.Gn
open Go.Rf IntKind
noncomputable section
def Yfd : Nat → Hint
 | 0 => ⟨(15, .own .own A3 []) :: (pl 35 3 []), pl 33000 1 []⟩
 | _ => ⟨[], []⟩
abbrev Xk4 (k : Nat) : Env := Bc (A0 [Xpy k, Xsq k, M6 k]) Yfd .own [] k
abbrev Xpf : List PA := [.one (.sl .ro sta), .one mI, .one mI, .one mI, .one mI, .one (.sl .ro (.int .u8))]
abbrev F66_O : RO := ⟨[.v, .v], [.sl .own (.int .u8), mB]⟩
noncomputable def Ye3 {β : Type} (k : Nat) (v : An) (w p q o : Int) (c : Aa) (K : KT β) : Ex → St → Option β := Br (Xk4 k) Tryz.f66 (PsT.put Xpf (v, w, p, q, o, c, ())) K
def X9a (v : An) (w p q o : Int) (c : Aa) (x36_0 x37_0 : Int) (m33000_0 : Aq) (m15900_0 : Al) : St := ⟨dz 15 ((.one (.a (.cell 15900) 0 0 none)) :: dz 19 ((.one (.a (.cell 33000) 0 0 none)) :: (.one (vI x36_0)) :: (.one (vI x37_0)) :: dz 16 [])), [eM 33000 (.s .own Ai m33000_0), eM 15900 (.s .own A3 m15900_0)]⟩
noncomputable def Uo {β : Type} (k : Nat) (v : An) (w p q o : Int) (c : Aa) (K : KT β) (n : Nat) (x36_0 x37_0 : Int) (m33000_0 : Aq) (m15900_0 : Al) : Option β := A2 (Xk4 k) Tryz.f66 [1, 1, 1, 0, 1, 0] 0 (Ae (Xk4 k) [1, 1, 1, 0, 1, 0] (Af Tryz.f66) 0 (Ye3 k v w p q o c K)) n (X9a v w p q o c x36_0 x37_0 m33000_0 m15900_0)
def Jj {β : Type} (NX : Int → Int → Aq → Al → Option β) (RET : (Aa × Bool) → Option β) (k : Nat) (v : An) (w p q o : Int) (c : Aa) (x36_0 x37_0 : Int) (m33000_0 : Aq) (m15900_0 : Al) : Option β := cond (decide (x37_0 < x36_0)) (Ax x37_0 m33000_0 ((Te k m15900_0 (Ad m33000_0 x37_0) 0).bind fun b2 => cond b2.2.2 ((Qm k b2.2.1.2.2.2.2.2.2.2.2).bind fun b3 => RET (b3, true)) (NX x36_0 (i64.wrap (x37_0 + 1)) m33000_0 b2.1))) (RET ([], false))
def Ja (k : Nat) (v : An) (w p q o : Int) (c : Aa) : Nat → Int → Int → Aq → Al → Option (Aa × Bool)
 | 0, _, _, _, _ => none
 | n + 1, x36_0, x37_0, m33000_0, m15900_0 => Jj (Ja k v w p q o c n) some k v w p q o c x36_0 x37_0 m33000_0 m15900_0
theorem Xnz {β : Type} (k : Nat) (v : An) (w p q o : Int) (c : Aa) (K : KT β) (n : Nat) : ∀ (x36_0 x37_0 : Int) (m33000_0 : Aq) (m15900_0 : Al), Uo k v w p q o c K n x36_0 x37_0 m33000_0 m15900_0 =
  (Ja k v w p q o c n x36_0 x37_0 m33000_0 m15900_0).bind fun r => K (F66_O.put r) := by
 induction n with
 | zero => intros; rfl
 | succ n ih =>
  intro x36_0 x37_0 m33000_0 m15900_0
  refine Eq.trans (b := Jj (Uo k v w p q o c K n) (fun r => K (F66_O.put r)) k v w p q o c x36_0 x37_0 m33000_0 m15900_0) (by kernel_rfl) ?_
  rw [Ja]
  simp only [Jj, z1, z2, z3, z4, z5, z6, z7, z8, ih]
def Xkx {β : Type} (LP0 : Int → Int → Aq → Al → Option β) (k : Nat) (v : An) (w p q o : Int) (c : Aa) : Option β := Ax w v ((Xl6 k v w ((Ad v w).1, p, q, 64, o, 0, false, false, c)).bind fun b1 => LP0 (b1.1.length : Int) 0 b1.1 [])
def F66 (k : Nat) (v : An) (w p q o : Int) (c : Aa) : Option (Aa × Bool) := Xkx (Ja k v w p q o c k) k v w p q o c
theorem X5u {β : Type} (k : Nat) (v : An) (w p q o : Int) (c : Aa) (K : KT β) : Aj (Xk4 k) Tryz.f66 (PsT.put Xpf (v, w, p, q, o, c, ())) K = (F66 k v w p q o c).bind fun r => K (F66_O.put r) :=
 Eq.trans (b := Xkx (Uo k v w p q o c K k) k v w p q o c) (by kernel_rfl) (by simp only [F66, Xkx, z1, z2, z3, z4, z5, z6, z7, z8, Xnz])
def X2d (k : Nat) : FD := ⟨66, Xpf, F66_O, F66 k⟩
theorem Yd6 (k : Nat) : (X2d k).Ok Tryz.prog := ⟨fun x => Ac (Am (Ah (.c (X6c k) (.c (X5f k) (.c (Q5 k) .n)))) _ _ _ _) Ak Tryz.func66 rfl rfl (X5u k _ _ _ _ _ _ some), .of (by kernel_rfl)⟩
abbrev Ycr (k : Nat) : Env := Bc (A0 [Xb2 k, Gl k, Jm k, X2d k]) Ao .own [] k
abbrev X2o : List PA := [.one (.sl .ro sta), .one mI, .one mI, .one mI, .one mI, .one (.sl .ro (.int .u8))]
abbrev F16_O : RO := ⟨[.v, .v], [.sl .own (.int .u8), mB]⟩
def Xko {β : Type} (RET : (Aa × Bool) → Option β) (k : Nat) (v : An) (w p q o : Int) (c : Aa) : Option β := (F31 k v).bind fun b1 => cond (!b1) (RET ([], false)) ((Rp k w 0 (i64.wrap ((v.length : Int) - 1))).bind fun b2 => cond (!b2) (RET ([], false)) ((Xw k p).bind fun b3 => cond (!b3) (RET ([], false)) ((Rp k q 0 255).bind fun b4 => cond (!b4) (RET ([], false)) ((Rp k o 0 255).bind fun b5 => cond (!b5) (RET ([], false)) (cond (decide ((c.length : Int) > 48)) (RET ([], false)) ((F66 k v w p q o c).bind fun b6 => RET b6))))))
def F16 := Xko (β := Aa × Bool) some
theorem Ya5 {β : Type} (k : Nat) (v : An) (w p q o : Int) (c : Aa) (K : KT β) : Aj (Ycr k) Tryz.f16 (PsT.put X2o (v, w, p, q, o, c, ())) K = (F16 k v w p q o c).bind fun r => K (F16_O.put r) :=
 Eq.trans (b := Xko (fun r => K (F16_O.put r)) k v w p q o c) (by kernel_rfl) (by simp only [F16, Xko, z1, z2, z3, z4, z5, z6, z7, z8])
def X2h (k : Nat) : FD := ⟨16, X2o, F16_O, F16 k⟩
theorem Yeu (k : Nat) : (X2h k).Ok Tryz.prog := ⟨fun x => Ac (Am (Ah (.c (Xk8 k) (.c (G7 k) (.c (L2 k) (.c (Yd6 k) .n))))) _ _ _ _) Ak Tryz.func16 rfl rfl (Ya5 k _ _ _ _ _ _ some), .of (by kernel_rfl)⟩
abbrev Yei (k : Nat) : Env := Bc (A0 [M6 k, Xks k, Zb k]) Ao .own [] k
abbrev X1y : List PA := [.one mI, .one mI, .one (.sl .ro (.int .u8))]
abbrev F90_O : RO := ⟨[.a, .v], [.pair mI (.pair mI m_3), mB]⟩
def Xk6 {β : Type} (RET : (den Bd) × Bool → Option β) (k : Nat) (v w : Int) (p : Aa) : Option β := cond (decide ((p.length : Int) < 5)) (RET ((0, 0, 0, []), false)) (cond (decide (0 < (p.length : Int))) (cond (decide (1 < (p.length : Int))) (cond (decide (0 ≤ (i64.wrap ((p.length : Int) - 2))) && decide ((i64.wrap ((p.length : Int) - 2)) ≤ (p.length : Int))) (cond (decide (0 ≤ 3) && decide (3 ≤ (i64.wrap ((p.length : Int) - 2)))) ((Qm k ((p.take ((i64.wrap ((p.length : Int) - 2)).toNat)).drop 3)).bind fun b1 => (F33 k (v, i64.wrap (Ad p 0), i64.wrap (Ad p 1), b1) w).bind fun b2 => (Xdo k b2 p).bind fun b3 => cond (!b3) (RET ((0, 0, 0, []), false)) (RET ((v, i64.wrap (Ad p 0), i64.wrap (Ad p 1), b1), true))) none) none) none) none)
def F90 := Xk6 (β := (den Bd) × Bool) some
theorem X8q {β : Type} (k : Nat) (v w : Int) (p : Aa) (K : KT β) : Aj (Yei k) Tryz.f90 (PsT.put X1y (v, w, p, ())) K = (F90 k v w p).bind fun r => K (F90_O.put r) :=
 Eq.trans (b := Xk6 (fun r => K (F90_O.put r)) k v w p) (by kernel_rfl) (by simp only [F90, Xk6, z1, z2, z3, z4, z5, z6, z7, z8])
def X13 (k : Nat) : FD := ⟨90, X1y, F90_O, F90 k⟩
theorem Yfl (k : Nat) : (X13 k).Ok Tryz.prog := ⟨fun x => Ac (Am (Ah (.c (Q5 k) (.c (Xvz k) (.c (Xil k) .n)))) _ _ _ _) Ak Tryz.func90 rfl rfl (X8q k _ _ _ some), .of (by kernel_rfl)⟩
abbrev Yat (k : Nat) : Env := Bc (A0 [Xfl k]) Ao .own [] k
abbrev Xs2 : List PA := [.agg (.pair mI (.sl .ro Bd)), .one mI]
abbrev F161_O : RO := ⟨[.v], [mI]⟩
def Xex (k : Nat) (v : (den Ay)) (w : Int) : Option (Int) := (Xaa k v.1 w).bind fun b1 => some b1
theorem X0a {β : Type} (k : Nat) (v : (den Ay)) (w : Int) (K : KT β) : Aj (Yat k) Tryz.f161 (PsT.put Xs2 (v, w, ())) K = (Xex k v w).bind fun r => K (F161_O.put r) :=
 Eq.trans (b := (Xaa k v.1 w).bind fun b1 => K (F161_O.put b1)) (by kernel_rfl) (by simp only [Xex, z1, z2, z3, z4, z5, z6, z7, z8])
def Xpa (k : Nat) : FD := ⟨161, Xs2, F161_O, Xex k⟩
theorem Ybz (k : Nat) : (Xpa k).Ok Tryz.prog := ⟨fun x => Ac (Am (Ah (.c (Xr2 k) .n)) _ _ _ _) Ak Tryz.func161 rfl rfl (X0a k _ _ some), .of (by kernel_rfl)⟩
def Ybn : Nat → Hint
 | 0 => ⟨pl 0 3 (pl 8 3 []), []⟩
 | _ => ⟨[], []⟩
abbrev Xv (k : Nat) : Env := Bc (A0 [Xpa k]) Ybn .own [] k
abbrev Xf5 : List PA := [.one (.sl .ro Ay), .one mI, .fn 161]
abbrev F160_O : RO := ⟨[.v, .v], [mI, mB]⟩
noncomputable def X7z {β : Type} (k : Nat) (v : Ab) (w : Int) (K : KT β) : Ex → St → Option β := Br (Xv k) Tryz.f160 (PsT.put Xf5 (v, w, (), ())) K
def Xwu (v : Ab) (w : Int) (x9_0 x10_0 : Int) : St := ⟨(.one (.s .ro Ay v)) :: (.one (vI w)) :: (.one (.fn 161 [])) :: dz 5 ((.one (vI (v.length : Int))) :: (.one (vI x9_0)) :: (.one (vI x10_0)) :: dz 38 []), []⟩
noncomputable def Q3 {β : Type} (k : Nat) (v : Ab) (w : Int) (K : KT β) (n : Nat) (x9_0 x10_0 : Int) : Option β := A2 (Xv k) Tryz.f160 [1, 1, 1, 0, 0] 0 (Ae (Xv k) [1, 1, 1, 0, 0] (Af Tryz.f160) 0 (X7z k v w K)) n (Xwu v w x9_0 x10_0)
def Kf {β : Type} (NX : Int → Int → Option β) (RET : (Int × Bool) → Option β) (k : Nat) (v : Ab) (w : Int) (x9_0 x10_0 : Int) : Option β := cond (decide (x9_0 < x10_0)) (Ax (i64.wrap ((u64.wrap (i64.wrap (x9_0 + x10_0))).fdiv (2 ^ (1)))) v ((Xex k (Ad v (i64.wrap ((u64.wrap (i64.wrap (x9_0 + x10_0))).fdiv (2 ^ (1))))) w).bind fun b1 => cond (decide (b1 < 0)) (NX (i64.wrap ((i64.wrap ((u64.wrap (i64.wrap (x9_0 + x10_0))).fdiv (2 ^ (1)))) + 1)) x10_0) (NX x9_0 (i64.wrap ((u64.wrap (i64.wrap (x9_0 + x10_0))).fdiv (2 ^ (1))))))) (cond (decide (x9_0 < (v.length : Int))) (Ax x9_0 v ((Xex k (Ad v x9_0) w).bind fun b2 => RET (x9_0, (b2 == 0)))) (RET (x9_0, false)))
def Lm (k : Nat) (v : Ab) (w : Int) : Nat → Int → Int → Option (Int × Bool)
 | 0, _, _ => none
 | n + 1, x9_0, x10_0 => Kf (Lm k v w n) some k v w x9_0 x10_0
theorem Xe9 {β : Type} (k : Nat) (v : Ab) (w : Int) (K : KT β) (n : Nat) : ∀ (x9_0 x10_0 : Int), Q3 k v w K n x9_0 x10_0 =
  (Lm k v w n x9_0 x10_0).bind fun r => K (F160_O.put r) := by
 induction n with
 | zero => intros; rfl
 | succ n ih =>
  intro x9_0 x10_0
  refine Eq.trans (b := Kf (Q3 k v w K n) (fun r => K (F160_O.put r)) k v w x9_0 x10_0) (by kernel_rfl) ?_
  rw [Lm]
  simp only [Kf, z1, z2, z3, z4, z5, z6, z7, z8, ih]
def Xhy {β : Type} (LP0 : Int → Int → Option β) (k : Nat) (v : Ab) (w : Int) : Option β := LP0 0 (v.length : Int)
def Xr7 (k : Nat) (v : Ab) (w : Int) : Option (Int × Bool) := Xhy (Lm k v w k) k v w
theorem X07 {β : Type} (k : Nat) (v : Ab) (w : Int) (K : KT β) : Aj (Xv k) Tryz.f160 (PsT.put Xf5 (v, w, (), ())) K = (Xr7 k v w).bind fun r => K (F160_O.put r) :=
 Eq.trans (b := Xhy (Q3 k v w K k) k v w) (by kernel_rfl) (by simp only [Xr7, Xhy, z1, z2, z3, z4, z5, z6, z7, z8, Xe9])
def Xsl (k : Nat) : FD := ⟨160, Xf5, F160_O, Xr7 k⟩
theorem X9x (k : Nat) : (Xsl k).Ok Tryz.prog := ⟨fun x => Ac (Am (Ah (.c (Ybz k) .n)) _ _ _ _) Ak Tryz.func160 rfl rfl (X07 k _ _ some), .of (by kernel_rfl)⟩
abbrev Yfk (k : Nat) : Env := Bc (A0 [Xsl k]) Ao .own [] k
abbrev X3a : List PA := [.one (.sl .ro Ay), .one mI]
abbrev F91_O : RO := ⟨[.v, .v], [mI, mB]⟩
def F91 (k : Nat) (v : Ab) (w : Int) : Option (Int × Bool) := (Xr7 k v w).bind fun b1 => some b1
theorem Yam {β : Type} (k : Nat) (v : Ab) (w : Int) (K : KT β) : Aj (Yfk k) Tryz.f91 (PsT.put X3a (v, w, ())) K = (F91 k v w).bind fun r => K (F91_O.put r) :=
 Eq.trans (b := (Xr7 k v w).bind fun b1 => K (F91_O.put b1)) (by kernel_rfl) (by simp only [F91, z1, z2, z3, z4, z5, z6, z7, z8])
def X1z (k : Nat) : FD := ⟨91, X3a, F91_O, F91 k⟩
theorem Yd3 (k : Nat) : (X1z k).Ok Tryz.prog := ⟨fun x => Ac (Am (Ah (.c (X9x k) .n)) _ _ _ _) Ak Tryz.func91 rfl rfl (Yam k _ _ some), .of (by kernel_rfl)⟩
abbrev Yes (k : Nat) : Env := Bc (A0 [Xjz k, Xrw k, Xc9 k, X13 k, X1z k]) Ao .own [] k
abbrev X33 : List PA := [.one (.sl .ro Ay), .one mI, .agg (.pair mI Dd)]
abbrev F32_O : RO := ⟨[.v, .v], [.sl .own Ay, mI]⟩
def Xcz {β : Type} (RET : (Ab × Int) → Option β) (k : Nat) (v : Ab) (w : Int) (p : (den Ai)) : Option β := (F30 k v).bind fun b1 => cond (!b1) (RET ([], 0)) ((F78 k v).bind fun b2 => (F89 k p).bind fun b3 => cond (!b3) (RET (b2, 0)) (cond (p.2.2.1 != 2) (RET (b2, 0)) (cond (p.2.2.2.2.2.1 != 0) (RET (b2, 0)) (cond p.2.2.2.2.2.2.1 (RET (b2, 0)) (cond (p.2.1 != w) (RET (b2, 0)) ((F90 k p.1 w p.2.2.2.2.2.2.2.2).bind fun b4 => cond (!b4.2) (RET (b2, 0)) ((F91 k b2 b4.1.2.2.1).bind fun b5 => cond (!b5.2) (RET (b2, 3)) (Ax b5.1 b2 (cond (decide (((Ad b2 b5.1).2.length : Int) ≥ 3)) (RET (b2, 0)) (Ax b5.1 b2 (Be ((Ad b2 b5.1).2.length) ([b4.1].length) 48 (Ax b5.1 b2 (cond (decide (b5.1.toNat = b5.1.toNat)) ((F78 k (b2.set b5.1.toNat ((Ad b2 b5.1).1, (Ad b2 b5.1).2 ++ [b4.1]))).bind fun b6 => RET (b6, 1)) none)))))))))))))
def F32 := Xcz (β := Ab × Int) some
theorem X88 {β : Type} (k : Nat) (v : Ab) (w : Int) (p : (den Ai)) (K : KT β) : Aj (Yes k) Tryz.f32 (PsT.put X33 (v, w, p, ())) K = (F32 k v w p).bind fun r => K (F32_O.put r) :=
 Eq.trans (b := Xcz (fun r => K (F32_O.put r)) k v w p) (by kernel_rfl) (by simp only [F32, Xcz, z1, z2, z3, z4, z5, z6, z7, z8, Az])
def Xox (k : Nat) : FD := ⟨32, X33, F32_O, F32 k⟩
theorem X3b (k : Nat) : (Xox k).Ok Tryz.prog := ⟨fun x => Ac (Am (Ah (.c (Xrx k) (.c (X3t k) (.c (Xkq k) (.c (Yfl k) (.c (Yd3 k) .n)))))) _ _ _ _) Ak Tryz.func32 rfl rfl (X88 k _ _ _ some), .of (by kernel_rfl)⟩
abbrev Yc8 (k : Nat) : Env := Bc (A0 [Xjz k, Xb2 k, Xrw k, Gl k, Jm k, Xkg k, Xks k, X2h k, Xox k]) Ao .own [] k
abbrev X25 : List PA := [.one (.sl .ro Ay), .one (.sl .ro sta), .one mI, .one mI, .agg (.pair mI (.pair mI O2))]
abbrev F27_O : RO := ⟨[.v, .v], [.sl .own Ay, mI]⟩
def Sw {β : Type} (RET : (Ab × Int) → Option β) (k : Nat) (v : Ab) (w : An) (p q : Int) (o : (den Bd)) : Option β := Ek o fun _ o1 o2 o3 => (F30 k v).bind fun b1 => cond (!b1) (RET ([], 0)) ((F31 k w).bind fun b2 => cond (!b2) ((F78 k v).bind fun b3 => RET (b3, 0)) ((Rp k p 0 (i64.wrap ((w.length : Int) - 1))).bind fun b4 => cond (!b4) ((F78 k v).bind fun b5 => RET (b5, 0)) ((Xw k q).bind fun b6 => cond (!b6) ((F78 k v).bind fun b7 => RET (b7, 0)) (Ax p w ((F79 k ((Ad w p).1, o1, o2, o3)).bind fun b8 => cond (!b8) ((F78 k v).bind fun b9 => RET (b9, 0)) ((F33 k ((Ad w p).1, o1, o2, o3) q).bind fun b10 => (F16 k w p q 2 0 b10).bind fun b11 => cond (!b11.2) ((F78 k v).bind fun b12 => RET (b12, 0)) ((F32 k v q ((Ad w p).1, q, 2, 64, 0, 0, false, false, b11.1)).bind fun b13 => RET b13)))))))
def F27 := Sw (β := Ab × Int) some
theorem X6b {β : Type} (k : Nat) (v : Ab) (w : An) (p q : Int) (o : (den Bd)) (K : KT β) : Aj (Yc8 k) Tryz.f27 (PsT.put X25 (v, w, p, q, o, ())) K = (F27 k v w p q o).bind fun r => K (F27_O.put r) :=
 Eq.trans (b := Sw (fun r => K (F27_O.put r)) k v w p q o) (by kernel_rfl) (by simp only [F27, Sw, z1, z2, z3, z4, z5, z6, z7, z8, Ek])
def X2w (k : Nat) : FD := ⟨27, X25, F27_O, F27 k⟩
theorem Ydj (k : Nat) : (X2w k).Ok Tryz.prog := ⟨fun x => Ac (Am (Ah (.c (Xrx k) (.c (Xk8 k) (.c (X3t k) (.c (G7 k) (.c (L2 k) (.c (Xup k) (.c (Xvz k) (.c (Yeu k) (.c (X3b k) .n)))))))))) _ _ _ _) Ak Tryz.func27 rfl rfl (X6b k _ _ _ _ _ some), .of (by kernel_rfl)⟩
abbrev Yde (k : Nat) : Env := Bc (A0 [Gl k, V8 k]) Ao .own [] k
abbrev X30 : List PA := [.one mI, .one mI]
abbrev F73_O : RO := ⟨[.v], [.sl .own (.int .u8)]⟩
def Xk5 {β : Type} (RET : Aa → Option β) (k : Nat) (v w : Int) : Option β := (Rp k w 1 4).bind fun b1 => cond (!b1) (RET []) (cond (decide ((i64.wrap (8 * w)) < 0)) none ((Rp k v 0 (i64.wrap ((i64.wrap (1 * 2 ^ (min (i64.wrap (8 * w)).toNat 64))) - 1))).bind fun b2 => cond (!b2) (RET []) ((F93 k v w).bind fun b3 => RET b3)))
def F73 := Xk5 (β := Aa) some
theorem X5a {β : Type} (k : Nat) (v w : Int) (K : KT β) : Aj (Yde k) Tryz.f73 (PsT.put X30 (v, w, ())) K = (F73 k v w).bind fun r => K (F73_O.put r) :=
 Eq.trans (b := Xk5 (fun r => K (F73_O.put r)) k v w) (by kernel_rfl) (by simp only [F73, Xk5, z1, z2, z3, z4, z5, z6, z7, z8])
def X20 (k : Nat) : FD := ⟨73, X30, F73_O, F73 k⟩
theorem Ye4 (k : Nat) : (X20 k).Ok Tryz.prog := ⟨fun x => Ac (Am (Ah (.c (G7 k) (.c (Xdp k) .n))) _ _ _ _) Ak Tryz.func73 rfl rfl (X5a k _ _ some), .of (by kernel_rfl)⟩
def Yez : Nat → Hint
 | 0 => ⟨pl 0 1 (pl 2 1 (pl 7 2 (pl 30 2 []))), []⟩
 | _ => ⟨[], []⟩
abbrev Xi0 (k : Nat) : Env := Bc (A0 [Xb2 k, Gl k, Jm k, Xpe k, Xkd k]) Yez .own [] k
abbrev Xtt : List PA := [.one (.sl .ro sta), .one mI, .one mI]
abbrev F25_O : RO := ⟨[.v], [mI]⟩
noncomputable def Ydr {β : Type} (k : Nat) (v : An) (w p : Int) (K : KT β) : Ex → St → Option β := Br (Xi0 k) Tryz.f25 (PsT.put Xtt (v, w, p, ())) K
def Yar (v : An) (w p : Int) (x7_0 x8_0 x31_0 : Int) : St := ⟨(.one (.s .ro sta v)) :: (.one .d) :: (.one (vI p)) :: dz 4 ((.one (vI x7_0)) :: (.one (vI x8_0)) :: dz 21 ((.one (vI (i64.wrap ((v.length : Int) + 1)))) :: (.one (vI x31_0)) :: dz 32 [])), []⟩
noncomputable def Tw {β : Type} (k : Nat) (v : An) (w p : Int) (K : KT β) (n : Nat) (x7_0 x8_0 x31_0 : Int) : Option β := A2 (Xi0 k) Tryz.f25 [1, 1, 1, 1, 0, 1, 0] 0 (Ae (Xi0 k) [1, 1, 1, 1, 0, 1, 0] (Af Tryz.f25) 0 (Ydr k v w p K)) n (Yar v w p x7_0 x8_0 x31_0)
def G5 {β : Type} (NX : Int → Int → Int → Option β) (RET : Int → Option β) (k : Nat) (v : An) (w p : Int) (x7_0 x8_0 x31_0 : Int) : Option β := cond (decide (x31_0 < (i64.wrap ((v.length : Int) + 1)))) (cond (decide (x8_0 < 0)) (RET 0) (Ax x8_0 v (cond ((Ad v x8_0).1 == p) (RET x7_0) (Ax x8_0 v ((F74 k (Ad v x8_0).2 p 17).bind fun b4 => cond (!b4.2) (RET 0) ((F75 k v b4.1.2.2.1).bind fun b5 => NX (if b4.1.2.2.2 < x7_0 then b4.1.2.2.2 else x7_0) b5 (i64.wrap (x31_0 + 1)))))))) (RET 0)
def Hp (k : Nat) (v : An) (w p : Int) : Nat → Int → Int → Int → Option (Int)
 | 0, _, _, _ => none
 | n + 1, x7_0, x8_0, x31_0 => G5 (Hp k v w p n) some k v w p x7_0 x8_0 x31_0
theorem Xmn {β : Type} (k : Nat) (v : An) (w p : Int) (K : KT β) (n : Nat) : ∀ (x7_0 x8_0 x31_0 : Int), Tw k v w p K n x7_0 x8_0 x31_0 =
  (Hp k v w p n x7_0 x8_0 x31_0).bind fun r => K (F25_O.put r) := by
 induction n with
 | zero => intros; rfl
 | succ n ih =>
  intro x7_0 x8_0 x31_0
  refine Eq.trans (b := G5 (Tw k v w p K n) (fun r => K (F25_O.put r)) k v w p x7_0 x8_0 x31_0) (by kernel_rfl) ?_
  rw [Hp]
  simp only [G5, z1, z2, z3, z4, z5, z6, z7, z8, ih]
def Xk0 {β : Type} (LP0 : Int → Int → Int → Option β) (RET : Int → Option β) (k : Nat) (v : An) (w p : Int) : Option β := (F31 k v).bind fun b1 => cond (!b1) (RET 0) ((Rp k w 0 (i64.wrap ((v.length : Int) - 1))).bind fun b2 => cond (!b2) (RET 0) ((Xw k p).bind fun b3 => cond (!b3) (RET 0) (LP0 48 w 0)))
def F25 (k : Nat) (v : An) (w p : Int) : Option (Int) := Xk0 (Hp k v w p k) some k v w p
theorem Ya0 {β : Type} (k : Nat) (v : An) (w p : Int) (K : KT β) : Aj (Xi0 k) Tryz.f25 (PsT.put Xtt (v, w, p, ())) K = (F25 k v w p).bind fun r => K (F25_O.put r) :=
 Eq.trans (b := Xk0 (Tw k v w p K k) (fun r => K (F25_O.put r)) k v w p) (by kernel_rfl) (by simp only [F25, Xk0, z1, z2, z3, z4, z5, z6, z7, z8, Xmn])
def X2q (k : Nat) : FD := ⟨25, Xtt, F25_O, F25 k⟩
theorem Yds (k : Nat) : (X2q k).Ok Tryz.prog := ⟨fun x => Ac (Am (Ah (.c (Xk8 k) (.c (G7 k) (.c (L2 k) (.c (X3f k) (.c (Xoz k) .n)))))) _ _ _ _) Ak Tryz.func25 rfl rfl (Ya0 k _ _ _ some), .of (by kernel_rfl)⟩
end
end Go.Proofs.YtdmepjjepogddaaGreat.Gn
end

section
set_option linter.unusedVariables false
set_option linter.unusedSimpArgs false
namespace Go.Proofs.YtdmepjjepogddaaGreat.Gn
open Go.Rf IntKind
noncomputable section
abbrev Yff (k : Nat) : Env := Bc Bx Ao .own [] k
abbrev X3d : List PA := [.one (.sl .ro (.int .u8)), .one (.sl .ro (.int .u8))]
abbrev F23_O : RO := ⟨[.v], [mB]⟩
def F23 (k : Nat) (v w : Aa) : Option (Bool) := some ((L6 v).toList == (L6 w).toList)
theorem X9i {β : Type} (k : Nat) (v w : Aa) (K : KT β) : Aj (Yff k) Tryz.f23 (PsT.put X3d (v, w, ())) K = (F23 k v w).bind fun r => K (F23_O.put r) :=
 Eq.trans (b := K (F23_O.put ((L6 v).toList == (L6 w).toList))) (by kernel_rfl) (by simp only [F23, z1, z2, z3, z4, z5, z6, z7, z8])
def X11 (k : Nat) : FD := ⟨23, X3d, F23_O, F23 k⟩
theorem Yea (k : Nat) : (X11 k).Ok Tryz.prog := ⟨fun x => Ac (Am .none _ _ _ _) Ak Tryz.func23 rfl rfl (X9i k _ _ some), .of (by kernel_rfl)⟩
abbrev Ydc (k : Nat) : Env := Bc (A0 [X11 k]) Ao .own [] k
abbrev X2i : List PA := [.agg (.pair mI (.pair mI O2)), .agg (.pair mI (.pair mI O2))]
abbrev F84_O : RO := ⟨[.v], [mB]⟩
def Xi9 {β : Type} (RET : Bool → Option β) (k : Nat) (v w : (den Bd)) : Option β := cond (v.1 == w.1) (cond (v.2.1 == w.2.1) (cond (v.2.2.1 == w.2.2.1) ((F23 k v.2.2.2 w.2.2.2).bind fun b1 => RET b1) (RET false)) (RET false)) (RET false)
def F84 := Xi9 (β := Bool) some
theorem X6w {β : Type} (k : Nat) (v w : (den Bd)) (K : KT β) : Aj (Ydc k) Tryz.f84 (PsT.put X2i (v, w, ())) K = (F84 k v w).bind fun r => K (F84_O.put r) :=
 Eq.trans (b := Xi9 (fun r => K (F84_O.put r)) k v w) (by kernel_rfl) (by simp only [F84, Xi9, z1, z2, z3, z4, z5, z6, z7, z8, Ek])
def X17 (k : Nat) : FD := ⟨84, X2i, F84_O, F84 k⟩
theorem Ydz (k : Nat) : (X17 k).Ok Tryz.prog := ⟨fun x => Ac (Am (Ah (.c (Yea k) .n)) _ _ _ _) Ak Tryz.func84 rfl rfl (X6w k _ _ some), .of (by kernel_rfl)⟩
def Ye0 : Nat → Hint
 | 0 => ⟨pl 0 2 (pl 5 1 []), []⟩
 | 2 => ⟨pl 0 2 (pl 5 2 []), []⟩
 | _ => ⟨[], []⟩
abbrev F7 (k : Nat) : Env := Bc (A0 [X17 k]) Ye0 .own [] k
abbrev Xts : List PA := [.one (.sl .ro Ay), .one (.sl .ro Ay)]
abbrev F29_O : RO := ⟨[.v], [mB]⟩
noncomputable def Xjx {β : Type} (k : Nat) (v w : Ab) (K : KT β) : Ex → St → Option β := Br (F7 k) Tryz.f29 (PsT.put Xts (v, w, ())) K
def Ybe (v w : Ab) (x5_2 x6_2 : Int) : St := ⟨(.one (.s .ro Ay v)) :: (.one (.s .ro Ay w)) :: dz 3 ((.one (vI x5_2)) :: (.one (vI x6_2)) :: dz 65 []), []⟩
noncomputable def U4 {β : Type} (k : Nat) (v w : Ab) (KK : Ex → St → Option β) (n : Nat) (x5_2 x6_2 : Int) : Option β := A2 (F7 k) Tryz.f29 [1, 1, 0, 1, 0, 0, 1, 0, 0, 1, 1, 0] 2 KK n (Ybe v w x5_2 x6_2)
def Ox {β : Type} (NX : Int → Int → Option β) (EX0 : (Int × Int × Bool) → Option β) (EX1 : (Int × Int) → Option β) (k : Nat) (v w : Ab) (x5_2 x6_2 : Int) : Option β := Ax x5_2 v (cond (decide (x6_2 < ((Ad v x5_2).2.length : Int))) (Ax x5_2 v (Ax x6_2 (Ad v x5_2).2 (Ax x5_2 w (Ax x6_2 (Ad w x5_2).2 ((F84 k (Ad (Ad v x5_2).2 x6_2) (Ad (Ad w x5_2).2 x6_2)).bind fun b1 => cond (!b1) (EX0 (x5_2, x6_2, b1)) (NX x5_2 (i64.wrap (x6_2 + 1)))))))) (EX1 (x5_2, x6_2)))
def Qb (k : Nat) (v w : Ab) : Nat → Int → Int → Option ((Sum (Int × Int × Bool) (Int × Int)))
 | 0, _, _ => none
 | n + 1, x5_2, x6_2 => Ox (Qb k v w n) (fun y2 => some (.inl y2)) (fun y2 => some (.inr y2)) k v w x5_2 x6_2
theorem Xmb {β : Type} (k : Nat) (v w : Ab) (KK : Ex → St → Option β) (n : Nat) : ∀ (x5_2 x6_2 : Int), U4 k v w KK n x5_2 x6_2 =
  (Qb k v w n x5_2 x6_2).bind fun z => Gz (fun y2 => KK .ret ⟨(.one (.s .ro Ay v)) :: (.one (.s .ro Ay w)) :: (.one .d) :: (.one .d) :: (.one (vB false)) :: (.one (vI y2.1)) :: (.one (vI y2.2.1)) :: dz 37 [.one (vI y2.2.1), .one (.s .ro Ay v), .one (vI y2.1), .one (.ptr (.elem 47000 y2.1.toNat 0) 2 0), .one (.ptr (.elem 47000 y2.1.toNat 1) 1 0), .one (.s .ro Bd (Ad v y2.1).2), .one (vI ((Ad v y2.1).2.length : Int)), .one (vB true), .one .d, .one .d, .one (.s .ro Ay v), .one (vI y2.1), .one (.ptr (.elem 56000 y2.1.toNat 0) 2 0), .one (.ptr (.elem 56000 y2.1.toNat 1) 1 0), .one (.s .ro Bd (Ad v y2.1).2), .one (vI y2.2.1), .one (.ptr (.elem 60000 y2.2.1.toNat 0) 4 0), .agg (B0 (.pair mI (.pair mI O2)) (Ad (Ad v y2.1).2 y2.2.1)), .one (.s .ro Ay w), .one (vI y2.1), .one (.ptr (.elem 64000 y2.1.toNat 0) 2 0), .one (.ptr (.elem 64000 y2.1.toNat 1) 1 0), .one (.s .ro Bd (Ad w y2.1).2), .one (vI y2.2.1), .one (.ptr (.elem 68000 y2.2.1.toNat 0) 4 0), .agg (B0 (.pair mI (.pair mI O2)) (Ad (Ad w y2.1).2 y2.2.1)), .one (vB y2.2.2), .one (vB true)], [eM 47000 (.s .ro Ay v), eM 56000 (.s .ro Ay v), eM 60000 (.s .ro Bd (Ad v y2.1).2), eM 64000 (.s .ro Ay w), eM 68000 (.s .ro Bd (Ad w y2.1).2)]⟩) (fun y2 => KK (.exit 2) ⟨(.one (.s .ro Ay v)) :: (.one (.s .ro Ay w)) :: dz 3 ((.one (vI y2.1)) :: (.one (vI y2.2)) :: dz 37 ((.one (vI y2.2)) :: (.one (.s .ro Ay v)) :: (.one (vI y2.1)) :: (.one (.ptr (.elem 47000 y2.1.toNat 0) 2 0)) :: (.one (.ptr (.elem 47000 y2.1.toNat 1) 1 0)) :: (.one (.s .ro Bd (Ad v y2.1).2)) :: (.one (vI ((Ad v y2.1).2.length : Int))) :: (.one (vB false)) :: dz 20 [])), [eM 47000 (.s .ro Ay v)]⟩) z := by
 induction n with
 | zero => intros; rfl
 | succ n ih =>
  intro x5_2 x6_2
  refine Eq.trans (b := Ox (U4 k v w KK n) (fun y2 => KK .ret ⟨(.one (.s .ro Ay v)) :: (.one (.s .ro Ay w)) :: (.one .d) :: (.one .d) :: (.one (vB false)) :: (.one (vI y2.1)) :: (.one (vI y2.2.1)) :: dz 37 [.one (vI y2.2.1), .one (.s .ro Ay v), .one (vI y2.1), .one (.ptr (.elem 47000 y2.1.toNat 0) 2 0), .one (.ptr (.elem 47000 y2.1.toNat 1) 1 0), .one (.s .ro Bd (Ad v y2.1).2), .one (vI ((Ad v y2.1).2.length : Int)), .one (vB true), .one .d, .one .d, .one (.s .ro Ay v), .one (vI y2.1), .one (.ptr (.elem 56000 y2.1.toNat 0) 2 0), .one (.ptr (.elem 56000 y2.1.toNat 1) 1 0), .one (.s .ro Bd (Ad v y2.1).2), .one (vI y2.2.1), .one (.ptr (.elem 60000 y2.2.1.toNat 0) 4 0), .agg (B0 (.pair mI (.pair mI O2)) (Ad (Ad v y2.1).2 y2.2.1)), .one (.s .ro Ay w), .one (vI y2.1), .one (.ptr (.elem 64000 y2.1.toNat 0) 2 0), .one (.ptr (.elem 64000 y2.1.toNat 1) 1 0), .one (.s .ro Bd (Ad w y2.1).2), .one (vI y2.2.1), .one (.ptr (.elem 68000 y2.2.1.toNat 0) 4 0), .agg (B0 (.pair mI (.pair mI O2)) (Ad (Ad w y2.1).2 y2.2.1)), .one (vB y2.2.2), .one (vB true)], [eM 47000 (.s .ro Ay v), eM 56000 (.s .ro Ay v), eM 60000 (.s .ro Bd (Ad v y2.1).2), eM 64000 (.s .ro Ay w), eM 68000 (.s .ro Bd (Ad w y2.1).2)]⟩) (fun y2 => KK (.exit 2) ⟨(.one (.s .ro Ay v)) :: (.one (.s .ro Ay w)) :: dz 3 ((.one (vI y2.1)) :: (.one (vI y2.2)) :: dz 37 ((.one (vI y2.2)) :: (.one (.s .ro Ay v)) :: (.one (vI y2.1)) :: (.one (.ptr (.elem 47000 y2.1.toNat 0) 2 0)) :: (.one (.ptr (.elem 47000 y2.1.toNat 1) 1 0)) :: (.one (.s .ro Bd (Ad v y2.1).2)) :: (.one (vI ((Ad v y2.1).2.length : Int))) :: (.one (vB false)) :: dz 20 [])), [eM 47000 (.s .ro Ay v)]⟩) k v w x5_2 x6_2) (by kernel_rfl) ?_
  rw [Qb]
  simp only [Ox, z1, z2, z3, z4, z5, z6, z7, z8, ih]
def X8k (v w : Ab) (x5_0 : Int) : St := ⟨(.one (.s .ro Ay v)) :: (.one (.s .ro Ay w)) :: dz 3 ((.one (vI x5_0)) :: dz 66 []), []⟩
noncomputable def Th {β : Type} (k : Nat) (v w : Ab) (K : KT β) (n : Nat) (x5_0 : Int) : Option β := A2 (F7 k) Tryz.f29 [1, 1, 0, 1, 0] 0 (Ae (F7 k) [1, 1, 0, 1, 0] (Af Tryz.f29) 0 (Xjx k v w K)) n (X8k v w x5_0)
def Nb (k : Nat) (v w : Ab) : Nat → Int → Option (Bool)
 | 0, _ => none
 | n + 1, x5_0 => cond (decide (x5_0 < (v.length : Int))) (Ax x5_0 v (Ax x5_0 w (cond ((Ad v x5_0).1 != (Ad w x5_0).1) (some false) (Ax x5_0 v (Ax x5_0 w (cond (((Ad v x5_0).2.length : Int) != ((Ad w x5_0).2.length : Int)) (some false) ((Qb k v w k x5_0 0).bind fun z2 => Gz (fun y2 => some false) (fun y2 => Nb k v w n (i64.wrap (y2.1 + 1))) z2))))))) (some true)
theorem Xb7 {β : Type} (k n : Nat) (v : Ab) (w : Ab) (y2 : Int × Int × Bool) (K : KT β) :
  (Ae (F7 k) [1, 0, 0, 1, 1, 0] (Ba [1, 1, 0, 1, 0, 0] (Af Tryz.f29)) 0 (Bt (F7 k) Tryz.f29 [1, 1, 0, 1, 0] 0 (Ae (F7 k) [1, 1, 0, 1, 0] (Af Tryz.f29) 0 (Xjx k v w K)) n)) .ret ⟨(.one (.s .ro Ay v)) :: (.one (.s .ro Ay w)) :: (.one .d) :: (.one .d) :: (.one (vB false)) :: (.one (vI y2.1)) :: (.one (vI y2.2.1)) :: dz 37 [.one (vI y2.2.1), .one (.s .ro Ay v), .one (vI y2.1), .one (.ptr (.elem 47000 y2.1.toNat 0) 2 0), .one (.ptr (.elem 47000 y2.1.toNat 1) 1 0), .one (.s .ro Bd (Ad v y2.1).2), .one (vI ((Ad v y2.1).2.length : Int)), .one (vB true), .one .d, .one .d, .one (.s .ro Ay v), .one (vI y2.1), .one (.ptr (.elem 56000 y2.1.toNat 0) 2 0), .one (.ptr (.elem 56000 y2.1.toNat 1) 1 0), .one (.s .ro Bd (Ad v y2.1).2), .one (vI y2.2.1), .one (.ptr (.elem 60000 y2.2.1.toNat 0) 4 0), .agg (B0 (.pair mI (.pair mI O2)) (Ad (Ad v y2.1).2 y2.2.1)), .one (.s .ro Ay w), .one (vI y2.1), .one (.ptr (.elem 64000 y2.1.toNat 0) 2 0), .one (.ptr (.elem 64000 y2.1.toNat 1) 1 0), .one (.s .ro Bd (Ad w y2.1).2), .one (vI y2.2.1), .one (.ptr (.elem 68000 y2.2.1.toNat 0) 4 0), .agg (B0 (.pair mI (.pair mI O2)) (Ad (Ad w y2.1).2 y2.2.1)), .one (vB y2.2.2), .one (vB true)], [eM 47000 (.s .ro Ay v), eM 56000 (.s .ro Ay v), eM 60000 (.s .ro Bd (Ad v y2.1).2), eM 64000 (.s .ro Ay w), eM 68000 (.s .ro Bd (Ad w y2.1).2)]⟩ =
  K (F29_O.put false) := by kernel_rfl
theorem Xdu {β : Type} (k n : Nat) (v : Ab) (w : Ab) (y2 : Int × Int) (K : KT β) :
  (Ae (F7 k) [1, 0, 0, 1, 1, 0] (Ba [1, 1, 0, 1, 0, 0] (Af Tryz.f29)) 0 (Bt (F7 k) Tryz.f29 [1, 1, 0, 1, 0] 0 (Ae (F7 k) [1, 1, 0, 1, 0] (Af Tryz.f29) 0 (Xjx k v w K)) n)) (.exit 2) ⟨(.one (.s .ro Ay v)) :: (.one (.s .ro Ay w)) :: dz 3 ((.one (vI y2.1)) :: (.one (vI y2.2)) :: dz 37 ((.one (vI y2.2)) :: (.one (.s .ro Ay v)) :: (.one (vI y2.1)) :: (.one (.ptr (.elem 47000 y2.1.toNat 0) 2 0)) :: (.one (.ptr (.elem 47000 y2.1.toNat 1) 1 0)) :: (.one (.s .ro Bd (Ad v y2.1).2)) :: (.one (vI ((Ad v y2.1).2.length : Int))) :: (.one (vB false)) :: dz 20 [])), [eM 47000 (.s .ro Ay v)]⟩ =
  Th k v w K n (i64.wrap (y2.1 + 1)) := by kernel_rfl
theorem Xlo {β : Type} (k : Nat) (v w : Ab) (K : KT β) (n : Nat) : ∀ (x5_0 : Int), Th k v w K n x5_0 =
  (Nb k v w n x5_0).bind fun r => K (F29_O.put r) := by
 induction n with
 | zero => intros; rfl
 | succ n ih =>
  intro x5_0
  refine Eq.trans (b := cond (decide (x5_0 < (v.length : Int))) (Ax x5_0 v (Ax x5_0 w (cond ((Ad v x5_0).1 != (Ad w x5_0).1) (K (F29_O.put false)) (Ax x5_0 v (Ax x5_0 w (cond (((Ad v x5_0).2.length : Int) != ((Ad w x5_0).2.length : Int)) (K (F29_O.put false)) (U4 k v w (Ae (F7 k) [1, 0, 0, 1, 1, 0] (Ba [1, 1, 0, 1, 0, 0] (Af Tryz.f29)) 0 (Bt (F7 k) Tryz.f29 [1, 1, 0, 1, 0] 0 (Ae (F7 k) [1, 1, 0, 1, 0] (Af Tryz.f29) 0 (Xjx k v w K)) n)) k x5_0 0))))))) (K (F29_O.put true))) (by kernel_rfl) ?_
  rw [Nb]
  simp only [z1, z2, z3, z4, z5, z6, z7, z8, Xmb, Xb7 k n v w _ K, Xdu k n v w _ K, ih, Ax, Be]
def Xjf {β : Type} (LP0 : Int → Option β) (RET : Bool → Option β) (k : Nat) (v w : Ab) : Option β := cond ((v.length : Int) != (w.length : Int)) (RET false) (LP0 0)
def F29 (k : Nat) (v w : Ab) : Option (Bool) := Xjf (Nb k v w k) some k v w
theorem X54 {β : Type} (k : Nat) (v w : Ab) (K : KT β) : Aj (F7 k) Tryz.f29 (PsT.put Xts (v, w, ())) K = (F29 k v w).bind fun r => K (F29_O.put r) :=
 Eq.trans (b := Xjf (Th k v w K k) (fun r => K (F29_O.put r)) k v w) (by kernel_rfl) (by simp only [F29, Xjf, z1, z2, z3, z4, z5, z6, z7, z8, Xlo])
def X2j (k : Nat) : FD := ⟨29, Xts, F29_O, F29 k⟩
theorem Ydh (k : Nat) : (X2j k).Ok Tryz.prog := ⟨fun x => Ac (Am (Ah (.c (Ydz k) .n)) _ _ _ _) Ak Tryz.func29 rfl rfl (X54 k _ _ some), .of (by kernel_rfl)⟩
abbrev Ycq (k : Nat) : Env := Bc (A0 [X20 k]) Ao .own [] k
abbrev X3s : List PA := []
abbrev F24_O : RO := ⟨[.v], [mB]⟩
def Xi4 {β : Type} (RET : Bool → Option β) (k : Nat) : Option β := (F73 k 5 1).bind fun b1 => cond ((b1.length : Int) == 1) ((F73 k 256 1).bind fun b2 => RET ((b2.length : Int) == 0)) (RET false)
def F24 := Xi4 (β := Bool) some
theorem X64 {β : Type} (k : Nat) (K : KT β) : Aj (Ycq k) Tryz.f24 (PsT.put X3s (())) K = (F24 k).bind fun r => K (F24_O.put r) :=
 Eq.trans (b := Xi4 (fun r => K (F24_O.put r)) k) (by kernel_rfl) (by simp only [F24, Xi4, z1, z2, z3, z4, z5, z6, z7, z8])
def X2r (k : Nat) : FD := ⟨24, X3s, F24_O, F24 k⟩
theorem Ye9 (k : Nat) : (X2r k).Ok Tryz.prog := ⟨fun x => Ac (Am (Ah (.c (Ye4 k) .n)) _ _ _ _) Ak Tryz.func24 rfl rfl (X64 k some), .of (by kernel_rfl)⟩
abbrev F5_E (k : Nat) : Env := Bc (A0 [X3r k, X2w k, X3g k, X2j k, Xjz k, X2r k, Xb2 k, X2q k, Xks k, Xox k]) Ao .own [] k
abbrev F5_A : List PA := [.one (.sl .ro (.int .u8))]
abbrev F5_O : RO := ⟨[.v], [mB]⟩
def X03 {β : Type} (RET : Bool → Option β) (k : Nat) (v : Aa) : Option β := cond (decide ((v.length : Int) > 1048576)) (RET true) ((F26 k v).bind fun b1 => (F27 k b1.1 b1.2.1 b1.2.2.1 b1.2.2.2.1 b1.2.2.2.2).bind fun b2 => (F28 k b1.1 b1.2.1 b1.2.2.1 b1.2.2.2.1 b1.2.2.2.2).bind fun b3 => cond (b2.2 != b3.2) (RET false) ((F29 k b2.1 b3.1).bind fun b4 => cond (!b4) (RET false) ((F30 k b1.1).bind fun b5 => cond (!b5) (cond (b2.2 == 0) ((F24 k).bind fun b6 => RET b6) (RET false)) ((F31 k b1.2.1).bind fun b7 => cond (!b7) (cond (b2.2 == 0) ((F24 k).bind fun b8 => RET b8) (RET false)) ((F25 k b1.2.1 b1.2.2.1 b1.2.2.2.1).bind fun b9 => cond (b9 == 0) (cond (b2.2 == 0) ((F29 k b2.1 b1.1).bind fun b10 => cond b10 ((F24 k).bind fun b11 => RET b11) (RET false)) (RET false)) (Ax b1.2.2.1 b1.2.1 ((F33 k ((Ad b1.2.1 b1.2.2.1).1, b1.2.2.2.2.2) b1.2.2.2.1).bind fun b12 => (F32 k b1.1 b1.2.2.2.1 ((Ad b1.2.1 b1.2.2.1).1, b1.2.2.2.1, 2, 0, 0, 0, false, false, b12)).bind fun b13 => cond (b2.2 == b13.2) ((F29 k b2.1 b13.1).bind fun b14 => cond b14 ((F24 k).bind fun b15 => RET b15) (RET false)) (RET false))))))))
def F5 := X03 (β := Bool) some
theorem Yc0 {β : Type} (k : Nat) (v : Aa) (K : KT β) : Aj (F5_E k) Tryz.f5 (PsT.put F5_A (v, ())) K = (F5 k v).bind fun r => K (F5_O.put r) :=
 Eq.trans (b := X03 (fun r => K (F5_O.put r)) k v) (by kernel_rfl) (by simp only [F5, X03, z1, z2, z3, z4, z5, z6, z7, z8])
def F5_d (k : Nat) : FD := ⟨5, F5_A, F5_O, F5 k⟩
theorem F5_q (k : Nat) : (F5_d k).Ok Tryz.prog := ⟨fun x => Ac (Am (Ah (.c (Yev k) (.c (Ydj k) (.c (Yc3 k) (.c (Ydh k) (.c (Xrx k) (.c (Ye9 k) (.c (Xk8 k) (.c (Yds k) (.c (Xvz k) (.c (X3b k) .n))))))))))) _ _ _ _) Ak Tryz.func5 rfl rfl (Yc0 k _ some), .of (by kernel_rfl)⟩
end
end Go.Proofs.YtdmepjjepogddaaGreat.Gn
end

section
namespace Go.Proofs.YtdmepjjepogddaaGreat.Gn
open Go.Rf Go.IntWalk
set_option linter.unusedVariables false
set_option linter.unusedSimpArgs false
def inB (a b c : Int) : Bool := decide (b ≤ a) && decide (a ≤ c)
theorem Bj (k : Nat) (a b c : Int) : Hc k a b c = some (inB a b c) := by
 unfold Hc inB; (try dsimp only)
 have : decide (a ≥ b) = decide (b ≤ a) := rfl
 rw [this]
 cases decide (b ≤ a) <;> rfl
theorem Cl (k : Nat) (a b c : Int) : Rp k a b c = some (inB a b c) := Bj k a b c
theorem Xer (k : Nat) (a : Int) : F85 k a = some (inB a 1 255) := by unfold F85; (try dsimp only); rw [Cl]; rfl
theorem Eh (k : Nat) (a : Int) : Xw k a = some (inB a 0 65535) := by unfold Xw; (try dsimp only); rw [Cl]; rfl
abbrev A4 : Type := List (den (.int .u8))
theorem Km {α : Type} (c : Bool) (a b : α) : cond c (some a) (some b) = some (cond c a b) := by cases c <;> rfl
theorem Xza (k : Nat) (l : A4) : Xm1 k l = some l := by
 simp only [Xm1, W7]
 rw [decide_eq_true (by omega : (0 : Int) ≤ ((l.length : Nat) : Int))]
 simp
theorem K7 (k : Nat) (l : A4) (h : l.length ≤ 4194304) : Qm k l = some l := by
 simp only [Qm, Xi, Xza, List.nil_append, List.length_nil, Nat.zero_add, Be]
 rw [decide_eq_true (by omega : l.length * 1 ≤ 140737488355328)]
 cases l with
 | nil => rfl
 | cons a r => rw [show ((((a :: r).length : Nat) : Int) == 0) = false by rw [beq_eq_false_iff_ne]; simp only [List.length_cons]; omega]; rfl
theorem bs {α β : Type} {o : Option α} {f : α → Option β} {x : α} (h : o = some x) : o.bind f = f x := by rw [h]; rfl
theorem cf {α : Type} {c : Bool} {a b : α} (h : c = false) : cond c a b = b := by rw [h]; rfl
theorem ct {α : Type} {c : Bool} {a b : α} (h : c = true) : cond c a b = a := by rw [h]; rfl
def BOk (b : A4) : Prop := ∀ x ∈ b, @LE.le Int _ 0 x ∧ @LE.le Int _ x 255
theorem BOk.of {b : A4} (h : Wf (.sl (.int .u8)) b) : BOk b := fun x hx => by
 have := h.2 x hx
 unfold Wf Lit.wf at this
 simp only [Bool.and_eq_true, decide_eq_true_eq] at this
 exact this
abbrev Cz : Type := List (den Ai)
abbrev rtL : Type := List (den Ci)
abbrev E0 : Type := List (den sta)
def Ub : E0 → Nat
 | [] => 0
 | s :: l => s.2.length + Ub l
theorem Xbq : ∀ {l : E0} {s : den sta}, s ∈ l → s.2.length ≤ Ub l
 | a :: l, s, h => by
  rcases List.mem_cons.1 h with rfl | h
  ·simp only [Ub]; omega
  ·have := Xbq h
   simp only [Ub]; omega
def gT (y : Int) (r : den Ci) : den Ci := (y, y + 1, y + 2, y + 3)
def gS (y : Int) (s : den sta) : den sta := (y, X3o gT (fun _ => 4) (y + 1) s.2)
end Go.Proofs.YtdmepjjepogddaaGreat.Gn
end

section
namespace Go.Proofs.YtdmepjjepogddaaGreat.Gn
open Go.Rf Go.IntWalk
set_option linter.unusedVariables false
set_option linter.unusedSimpArgs false
def Dh (v : Int) : A4 := [v / 256, v % 256]
theorem u8W (v : Int) (h : 0 ≤ v ∧ v ≤ 255) : IntKind.u8.wrap v = v := u8_in v h
theorem u8M (v : Int) : IntKind.u8.wrap v = v % 256 := by rw [IntKind.wrap_u8]
theorem Mk (n : Nat) (v : Int) (h : 0 ≤ v ∧ v ≤ 65535) : F93 (n + 4) v 2 = some (Dh v) := by
 have w1 : IntKind.i64.wrap (2 - 1) = 1 := by decide
 have w0 : IntKind.i64.wrap (1 - 1) = 0 := by decide
 have wm : IntKind.i64.wrap (0 - 1) = -1 := by decide
 have hd : v.fdiv 256 = v / 256 := Int.fdiv_eq_ediv_of_nonneg v (by omega)
 have e8 : ((2 : Int) ^ 8) = 256 := by decide
 unfold F93 Xit; (try dsimp only)
 rw [w1]
 refine (ct (by decide)).trans ?_
 have aux : ∀ k m : Nat, J0 k v 2 (m + 1 + 1 + 1) v 1 (List.replicate (Int.toNat 2) (Bl (.int .u8))) = some (Dh v) := fun k m => by
  rw [J0]
  unfold He; (try dsimp only [Ax])
  refine (ct (by decide)).trans ((ct (by decide)).trans ((ct (by decide)).trans ?_))
  try dsimp only
  rw [w0, J0]
  unfold He; (try dsimp only [Ax])
  refine (ct (by decide)).trans ((ct (by decide)).trans ((ct (by simp)).trans ?_))
  try dsimp only
  rw [wm, J0]
  unfold He; (try dsimp only [Ax])
  refine (cf (by decide)).trans ?_
  rw [e8, hd, u8M, u8W (v / 256) (by omega)]
  rfl
 exact aux (n + 4) (n + 1)
theorem Hy (n : Nat) (v : Int) (h : 0 ≤ v ∧ v ≤ 65535) : R9 (n + 4) v 2 = some (Dh v) := by
 have w1 : IntKind.i64.wrap (2 - 1) = 1 := by decide
 have w0 : IntKind.i64.wrap (1 - 1) = 0 := by decide
 have wm : IntKind.i64.wrap (0 - 1) = -1 := by decide
 have hd : v.fdiv 256 = v / 256 := Int.fdiv_eq_ediv_of_nonneg v (by omega)
 have hd1 : v.fdiv 1 = v := by simp
 have e1 : ((2 : Int) ^ (min (IntKind.i64.wrap (8 * 1)).toNat 64)) = 256 := by decide
 have e0 : ((2 : Int) ^ (min (IntKind.i64.wrap (8 * 0)).toNat 64)) = 1 := by decide
 have i1 : inB 2 1 4 = true := by decide
 have i2 : inB v 0 (IntKind.i64.wrap ((IntKind.i64.wrap (1 * 2 ^ (min (IntKind.i64.wrap (8 * 2)).toNat 64))) - 1)) = true := by
  rw [show IntKind.i64.wrap ((IntKind.i64.wrap (1 * 2 ^ (min (IntKind.i64.wrap (8 * 2)).toNat 64))) - 1) = 65535 by decide]
  unfold inB
  rw [decide_eq_true h.1, decide_eq_true h.2]
  rfl
 unfold R9 Xx; (try dsimp only)
 rw [Bj, i1, Option.bind_some, w1]
 refine (cf rfl).trans ((cf (by decide)).trans ?_)
 rw [Bj, i2, Option.bind_some]
 refine (cf rfl).trans ?_
 have aux : ∀ k m : Nat, Gg k v 2 (m + 1 + 1 + 1) 1 [] = some (Dh v) := fun k m => by
  rw [Gg]
  unfold E3; (try dsimp only [Be])
  refine (ct (by decide)).trans ((cf (by decide)).trans ((ct (by simp)).trans ?_))
  try dsimp only
  rw [w0, Gg]
  unfold E3; (try dsimp only [Be])
  refine (ct (by decide)).trans ((cf (by decide)).trans ((ct (by simp)).trans ?_))
  try dsimp only
  rw [wm, Gg]
  unfold E3; (try dsimp only [Be])
  refine (cf (by decide)).trans ?_
  rw [e1, e0, hd, hd1, Int.tmod_eq_of_lt (by omega) (by omega), Int.tmod_eq_emod_of_nonneg h.1, u8W (v / 256) (by omega), u8W (v % 256) (by omega)]
  rfl
 exact aux (n + 4) (n + 1)
def red (n : Int) : Int := if n > 65535 then n - 65535 else n
def smV : Int → A4 → Int
 | s, [] => s
 | s, [x] => red (s + x * 256)
 | s, x :: y :: r => smV (red (s + (x * 256 + y))) r
theorem Qx {n : Int} (h : 0 ≤ n ∧ n ≤ 131070) : 0 ≤ red n ∧ red n ≤ 65535 := by unfold red; split <;> omega
theorem Xzo {s x y : Int} (hs : 0 ≤ s ∧ s ≤ 65535) (hx : 0 ≤ x ∧ x ≤ 255) (hy : 0 ≤ y ∧ y ≤ 255) : red (red (s + x * 256) + y) = red (s + (x * 256 + y)) := by
 unfold red
 split <;> split <;> split <;> omega
theorem byt {l : A4} (hb : BOk l) (j : Nat) (h : j < l.length) : @LE.le Int _ 0 l[j] ∧ @LE.le Int _ l[j] 255 := hb _ (List.getElem_mem h)
theorem Xau (k : Nat) (l : A4) (hb : BOk l) (hl : l.length ≤ 1048576) : ∀ (n j : Nat) (s : Int), j % 2 = 0 → j ≤ l.length → l.length - j < n → (0 ≤ s ∧ s ≤ 65535) → Es k l n s (j : Int) = some (smV s (l.drop j))
 | 0, j, s, _, _, h, _ => by omega
 | 1, j, s, h2, hj, h, hs => by
  have : j = l.length := by omega
  subst this
  rw [Es, List.drop_length]
  unfold E2; (try dsimp only [Ax])
  exact (cf (decide_eq_false (by omega))).trans rfl
 | n + 2, j, s, h2, hj, h, hs => by
  rw [Es]
  unfold E2; (try dsimp only [Ax])
  rcases Nat.lt_or_ge j l.length with hlt | hge
  ·obtain ⟨x, hx⟩ : ∃ x : Int, x = l[j] := ⟨_, rfl⟩
   have bx : 0 ≤ x ∧ x ≤ 255 := by rw [hx]; exact byt hb j hlt
   have d1 : decide ((j : Int) < ((l.length : Nat) : Int)) = true := decide_eq_true (by omega)
   have d0 : decide ((0 : Int) ≤ ((j : Nat) : Int)) = true := decide_eq_true (by omega)
   have ev : (((j : Int).tmod 2) == 0) = true := by rw [Int.tmod_eq_emod_of_nonneg (by omega)]; exact beq_iff_eq.2 (by omega)
   have nxt : ∀ s1 : Int, s1 = red (s + x * 256) → Es k l (n + 1) s1 ((j + 1 : Nat) : Int) = some (smV s (l.drop j)) := fun s1 hs1 => by
    have b1 := Qx (n := s + x * 256) (by omega)
    rw [← hs1] at b1
    rw [Es]
    unfold E2; (try dsimp only [Ax])
    rcases Nat.lt_or_ge (j + 1) l.length with hlt' | hge'
    ·obtain ⟨y, hy⟩ : ∃ y : Int, y = l[j + 1] := ⟨_, rfl⟩
     have by_ : 0 ≤ y ∧ y ≤ 255 := by rw [hy]; exact byt hb (j + 1) hlt'
     have od : ((((j + 1 : Nat) : Int).tmod 2) == 0) = false := by rw [Int.tmod_eq_emod_of_nonneg (by omega)]; exact beq_eq_false_iff_ne.2 (by omega)
     have e2 : smV s (l.drop j) = smV (red (s + (x * 256 + y))) (l.drop (j + 2)) := by
      rw [List.drop_eq_getElem_cons hlt, List.drop_eq_getElem_cons hlt', smV, ← hx, ← hy]
     have b2 := Qx (n := s1 + y) (by omega)
     rw [e2, ← Xzo hs bx by_, ← hs1]
     refine (ct (decide_eq_true (by omega))).trans ((cf od).trans ((ct (decide_eq_true (by omega))).trans ((ct (decide_eq_true (by omega))).trans ?_)))
     rw [Ap l (j + 1) hlt', ← hy, i64_in y (by omega), i64_in (s1 + y) (by omega), i64_in (s1 + y - 65535) (by omega), Gv (j + 1) (by omega)]
     unfold red at b2 ⊢
     by_cases c : s1 + y > 65535
     ·rw [if_pos c] at b2 ⊢
      exact (ct (decide_eq_true c)).trans (Xau k l hb hl n (j + 2) _ (by omega) (by omega) (by omega) b2)
     ·rw [if_neg c] at b2 ⊢
      exact (cf (decide_eq_false c)).trans (Xau k l hb hl n (j + 2) _ (by omega) (by omega) (by omega) b2)
    ·have e1 : l.drop j = [l[j]] := by
      rw [List.drop_eq_getElem_cons hlt, List.drop_eq_nil_of_le (by omega)]
     rw [e1, smV, ← hx, ← hs1]
     exact (cf (decide_eq_false (by omega))).trans rfl
   refine (ct d1).trans ((ct ev).trans ((ct d0).trans ((ct d1).trans ?_)))
   rw [Ap l j hlt, ← hx, i64_in x (by omega), i64_in (x * 256) (by omega), i64_in (s + x * 256) (by omega), i64_in (s + x * 256 - 65535) (by omega), Gv j (by omega)]
   by_cases c : s + x * 256 > 65535
   ·exact (ct (decide_eq_true c)).trans (nxt _ (by unfold red; rw [if_pos c]))
   ·exact (cf (decide_eq_false c)).trans (nxt _ (by unfold red; rw [if_neg c]))
  ·have : j = l.length := by omega
   subst this
   rw [List.drop_length]
   exact (cf (decide_eq_false (by omega))).trans rfl
theorem Me {α : Type} {N : Nat} (hN : 1 ≤ N) : Cc N ([] : List α) = [] := by
 unfold Cc
 rw [show (([] : List α).length + N - 1) / N = 0 from Nat.div_eq_of_lt (by simp; omega)]
 rfl
theorem J7 {α : Type} {N : Nat} (hN : 1 ≤ N) (l : List α) (h : l ≠ []) : Cc N l = l.take N :: Cc N (l.drop N) := by
 have hl : 1 ≤ l.length := List.length_pos_iff.2 h
 have hc : (l.length + N - 1) / N = ((l.drop N).length + N - 1) / N + 1 := by
  rw [List.length_drop]
  by_cases hle : N ≤ l.length
  ·rw [show l.length + N - 1 = (l.length - N + N - 1) + N by omega, Nat.add_div_right _ (by omega)]
  ·rw [show l.length - N = 0 by omega, Nat.zero_add, Nat.div_eq_of_lt (show N - 1 < N by omega)]
   exact Nat.div_eq_of_lt_le (by omega) (by omega)
 unfold Cc
 rw [hc, List.range_succ_eq_map, List.map_cons, List.map_map]
 congr 1
 ·simp [Rz]
 ·refine List.map_congr_left fun j _ => ?_
  simp only [Function.comp, Rz, List.drop_drop]
  congr 2
  rw [Nat.succ_mul]
  omega
theorem Uk (x y : Int) (hx : 0 ≤ x ∧ x ≤ 255) (hy : 0 ≤ y ∧ y ≤ 255) : Co .or .i64 (x * 256) y = x * 256 + y := by
 obtain ⟨a, rfl⟩ := Int.eq_ofNat_of_zero_le hx.1
 obtain ⟨b, rfl⟩ := Int.eq_ofNat_of_zero_le hy.1
 have ha : a ≤ 255 := by omega
 have hb : b ≤ 255 := by omega
 have e : ((a : Int) * 256) = ((a * 256 : Nat) : Int) := by omega
 rw [e]
 have h1 : (BitVec.ofInt 64 ((a * 256 : Nat) : Int) ||| BitVec.ofInt 64 (b : Int)).toNat = a * 256 + b := by
  rw [BitVec.toNat_or]
  simp only [BitVec.ofInt_natCast, BitVec.toNat_ofNat]
  rw [Nat.mod_eq_of_lt (by omega), Nat.mod_eq_of_lt (by omega)]
  have := Nat.shiftLeft_add_eq_or_of_lt (show b < 2 ^ 8 by omega) a
  rw [Nat.shiftLeft_eq] at this
  exact this.symm
 show IntKind.i64.wrap (((BitVec.ofInt 64 ((a * 256 : Nat) : Int) ||| BitVec.ofInt 64 (b : Int)).toNat : Nat) : Int) = _
 rw [h1, i64_in _ (by omega)]
 omega
theorem Xn7 {l : A4} (hb : BOk l) {x : den (.int .u8)} (h : x ∈ l) : ∃ v : Int, v = x ∧ (0 ≤ v ∧ v ≤ 255) := ⟨x, rfl, hb x h⟩
theorem Xiy (n : Nat) (s m : Int) (hs : 0 ≤ s ∧ s ≤ 65535) (hm : 0 ≤ m ∧ m ≤ 65535) : Xbf (n + 4) [s, m] = some (red (s + m)) := by
 have aux : ∀ k q : Nat, Ey k [s, m] (q + 1 + 1 + 1) 0 0 = some (red (s + m)) := fun k q => by
  rw [Ey]
  unfold Ez; (try dsimp only [Ax])
  refine (ct rfl).trans ((ct rfl).trans ((ct rfl).trans ?_))
  rw [show Ad (t := .int .i64) [s, m] 0 = s from rfl, Int.zero_add, i64_in s (by omega)]
  refine (cf (decide_eq_false (by omega))).trans ?_
  try dsimp only
  rw [show IntKind.i64.wrap (0 + 1) = 1 by decide, Ey]
  unfold Ez; (try dsimp only [Ax])
  refine (ct rfl).trans ((ct rfl).trans ((ct rfl).trans ?_))
  rw [show Ad (t := .int .i64) [s, m] 1 = m from rfl, i64_in (s + m) (by omega), i64_in (s + m - 65535) (by omega), show IntKind.i64.wrap (1 + 1) = 2 by decide]
  have Pa : ∀ r : Int, Ey k [s, m] (q + 1) r 2 = some r := fun r => by
   rw [Ey]
   unfold Ez; (try dsimp only [Ax])
   exact (cf rfl).trans rfl
  unfold red
  by_cases c : s + m > 65535
  ·rw [if_pos c]
   exact (ct (decide_eq_true c)).trans (Pa _)
  ·rw [if_neg c]
   exact (cf (decide_eq_false c)).trans (Pa _)
 exact aux (n + 4) (n + 1)
theorem Xjk (n : Nat) (a0 : A4) : ∀ (m : Nat) (l : A4) (s : Int), l.length ≤ m → BOk l → (0 ≤ s ∧ s ≤ 65535) → Fb (n + 4) a0 (Cc 2 l) s = some (65535 - smV s l)
 | _, [], s, _, _, hs => by
  rw [Me (by omega), Fb, smV, i64_in _ (by omega)]
 | 0, _ :: _, _, h, _, _ => by simp at h
 | m + 1, [x], s, h, hb, hs => by
  obtain ⟨x, rfl, bx⟩ := Xn7 hb (x := x) (by simp)
  have e8 : ((2 : Int) ^ 8) = 256 := by decide
  have b1 := Qx (n := s + x * 256) (by omega)
  rw [J7 (by omega) [x] (by simp)]
  simp only [List.take_succ_cons, List.take_nil, List.drop_succ_cons, List.drop_nil]
  rw [Fb]
  refine (ct (by simp)).trans ((cf (by simp)).trans ?_)
  rw [show Ad (t := .int .u8) [x] 0 = x from rfl, e8, i64_in x (by omega), i64_in (x * 256) (by omega), Xiy n s (x * 256) hs (by omega), Option.bind_some, Me (by omega), Fb, smV, i64_in _ (by omega)]
 | m + 1, x :: y :: r, s, h, hb, hs => by
  obtain ⟨x, rfl, bx⟩ := Xn7 hb (x := x) (by simp)
  obtain ⟨y, rfl, by_⟩ := Xn7 hb (x := y) (by simp)
  have e8 : ((2 : Int) ^ 8) = 256 := by decide
  have b1 := Qx (n := s + (x * 256 + y)) (by omega)
  rw [J7 (by omega) (x :: y :: r) (by simp)]
  simp only [List.take_succ_cons, List.take_zero, List.drop_succ_cons, List.drop_zero]
  rw [Fb]
  refine (ct (by simp)).trans ((ct (by simp)).trans ((ct (by simp)).trans ?_))
  rw [show Ad (t := .int .u8) [x, y] 0 = x from rfl, show Ad (t := .int .u8) [x, y] 1 = y from rfl, e8, i64_in x (by omega), i64_in y (by omega), i64_in (x * 256) (by omega), Uk x y bx by_, Xiy n s (x * 256 + y) hs (by omega), Option.bind_some, smV]
  exact Xjk n a0 m r _ (by simp only [List.length_cons] at h; omega) (fun z hz => hb z (by simp [hz])) b1
theorem Xin : ∀ (l : A4) (s : Int), BOk l → (0 ≤ s ∧ s ≤ 65535) → 0 ≤ smV s l ∧ smV s l ≤ 65535
 | [], s, _, hs => hs
 | [x], s, hb, hs => by
  obtain ⟨x, rfl, bx⟩ := Xn7 hb (x := x) (by simp)
  exact Qx (by omega)
 | x :: y :: r, s, hb, hs => by
  obtain ⟨x, rfl, bx⟩ := Xn7 hb (x := x) (by simp)
  obtain ⟨y, rfl, by_⟩ := Xn7 hb (x := y) (by simp)
  exact Xin r _ (fun z hz => hb z (by simp [hz])) (Qx (by omega))
def Mz (l : A4) : Int := 65535 - smV 0 l
theorem Xt8 (n : Nat) (l : A4) (hb : BOk l) (hl : l.length ≤ 1048576) : F94 (n + 4) l = some (Mz l) := by
 unfold F94; (try dsimp only)
 rw [decide_eq_true (by omega : l.length ≤ 140737488355328)]
 exact Xjk n l l.length l 0 (Nat.le_refl _) hb (by omega)
theorem Xj0 (k : Nat) (l : A4) (hb : BOk l) (hl : l.length ≤ 1048576) (hk : 1048576 < k) : Xe4 k l = some (Mz l) := by
 have := Xau k l hb hl k 0 0 rfl (Nat.zero_le _) (by omega) (by omega)
 have h2 := Xin l 0 hb (by omega)
 unfold Xe4 Xl8 Zc; (try dsimp only)
 refine (bs this).trans ?_
 rw [List.drop_zero, i64_in _ (by omega)]
 rfl
theorem Xyn (k : Nat) (a : Int) (h : 0 ≤ a ∧ a ≤ 16777216) : Xm4 k [] a = some [] := by
 unfold Xm4 Xp; (try dsimp only)
 rw [show a - 0 = a by omega, i64_in a (by omega)]
 refine (cf (decide_eq_false (by omega))).trans ?_
 by_cases c : a > 0
 ·refine (ct (decide_eq_true c)).trans ((ct (by rfl)).trans ?_)
  rw [decide_eq_true (by omega : 0 < a), decide_eq_true (by omega : a * (1 : Nat) ≤ 140737488355328)]
  refine (ct (by rfl)).trans ((ct ?_).trans ?_)
  ·rw [Bool.and_eq_true]; exact ⟨by rfl, decide_eq_true (by omega)⟩
  ·simp
 ·exact (cf (decide_eq_false c)).trans rfl
theorem Xs7 (k : Nat) (l : List A4) (hl : l.length ≤ 1048576) : ∀ (n j : Nat) (m : A4), j ≤ l.length → l.length - j < n → m.length + (l.drop j).flatten.length ≤ 4194304 → Pt k l n (j : Int) m = some (m ++ (l.drop j).flatten)
 | 0, j, m, _, h, _ => by omega
 | n + 1, j, m, hj, h, hm => by
  rw [Pt]
  unfold Oz; (try dsimp only [Ax, Be])
  rcases Nat.lt_or_ge j l.length with hlt | hge
  ·rw [List.drop_eq_getElem_cons hlt, List.flatten_cons, List.length_append] at hm
   rw [List.drop_eq_getElem_cons hlt, List.flatten_cons, Ap (t := .sl (.int .u8)) l j hlt, Gv j (by omega)]
   refine (ct (decide_eq_true (by omega))).trans ((ct (decide_eq_true (by omega))).trans ((ct (decide_eq_true (by omega))).trans ((ct (decide_eq_true (by omega))).trans ?_)))
   try dsimp only
   rw [Xs7 k l hl n (j + 1) (m ++ l[j]) hlt (by omega) (by rw [List.length_append]; omega), List.append_assoc]
  ·have : j = l.length := by omega
   subst this
   rw [List.drop_length]
   refine (cf (decide_eq_false (by omega))).trans ?_
   simp
theorem Xrj (k : Nat) (l : List A4) (hk : l.length < k) (hl : l.length ≤ 1048576) (ht : l.flatten.length ≤ 4194304) : ∀ (n j : Nat) (s : Int), j ≤ l.length → l.length - j < n → (0 ≤ s ∧ s + ((l.drop j).flatten.length : Int) ≤ 4194304) → Q4 k l n s (j : Int) = some l.flatten
 | 0, j, s, _, h, _ => by omega
 | n + 1, j, s, hj, h, hm => by
  rw [Q4]
  unfold Ov; (try dsimp only [Ax])
  rcases Nat.lt_or_ge j l.length with hlt | hge
  ·rw [List.drop_eq_getElem_cons hlt, List.flatten_cons, List.length_append] at hm
   rw [Ap (t := .sl (.int .u8)) l j hlt, Gv j (by omega), i64_in (s + ((l[j].length : Nat) : Int)) (by omega)]
   refine (ct (decide_eq_true (by omega))).trans ((ct (decide_eq_true (by omega))).trans ((ct (decide_eq_true (by omega))).trans ((cf (decide_eq_false (by omega))).trans ?_)))
   exact Xrj k l hk hl ht n (j + 1) _ hlt (by omega) (by omega)
  ·have : j = l.length := by omega
   subst this
   rw [List.drop_length] at hm
   refine (cf (decide_eq_false (by omega))).trans ?_
   refine (bs (Xyn k s (by simp at hm; omega))).trans ?_
   have := Xs7 k l hl k 0 [] (Nat.zero_le _) (by omega) (by rw [List.drop_zero]; simpa using ht)
   simpa using this
theorem Qo (k : Nat) (l : List A4) (hk : l.length < k) (hl : l.length ≤ 1048576) (ht : l.flatten.length ≤ 4194304) : F92 k l = some l.flatten := by
 unfold F92 Xkk; (try dsimp only)
 exact Xrj k l hk hl ht k 0 0 (Nat.zero_le _) (by omega) (by rw [List.drop_zero]; omega)
def I5 (v : Int) : den (.int .u8) := IntKind.u8.wrap v
theorem Ks (v : Int) : (Dh v).length = 2 := rfl
theorem BOk.app {x y : A4} (hx : BOk x) (hy : BOk y) : BOk (x ++ y) := fun z hz => (List.mem_append.1 hz).elim (hx z) (hy z)
theorem BOk.nil : BOk [] := fun z hz => by cases hz
theorem BOk.cons {v : Int} {x : A4} (hx : BOk x) : BOk (I5 v :: x) := fun z hz => by
 rcases List.mem_cons.1 hz with rfl | hz
 ·have e : I5 v = v % 256 := u8M v
  rw [e]
  exact ⟨show (0 : Int) ≤ v % 256 by omega, show v % 256 ≤ (255 : Int) by omega⟩
 ·exact hx z hz
theorem Ep {v : Int} (h : 0 ≤ v ∧ v ≤ 65535) : BOk (Dh v) := fun z hz => by
 rcases List.mem_cons.1 hz with rfl | hz
 ·exact ⟨show (0 : Int) ≤ v / 256 by omega, show v / 256 ≤ (255 : Int) by omega⟩
 ·obtain rfl := List.mem_singleton.1 hz
  exact ⟨show (0 : Int) ≤ v % 256 by omega, show v % 256 ≤ (255 : Int) by omega⟩
theorem Xju (k : Nat) (b : Bool) (v : Int) : Xhp k b v = some (if b then v else 0) := by
 unfold Xhp; (try dsimp only)
 cases b <;> rfl
theorem Xaz {l : A4} (hb : BOk l) : 0 ≤ Mz l ∧ Mz l ≤ 65535 := by
 have := Xin l 0 hb (by omega)
 unfold Mz
 omega
end Go.Proofs.YtdmepjjepogddaaGreat.Gn
end

section
namespace Go.Proofs.YtdmepjjepogddaaGreat.Gn
open Go.Rf Go.IntWalk
set_option linter.unusedVariables false
set_option linter.unusedSimpArgs false
def rest (n : Int) : Int := 2 ^ (16 - n).toNat
theorem p2 (m : Nat) (h : m ≤ 16) : (1 : Int) ≤ 2 ^ m ∧ (2 : Int) ^ m ≤ 65536 := (by decide : ∀ m : Fin 17, (1 : Int) ≤ 2 ^ (m : Nat) ∧ (2 : Int) ^ (m : Nat) ≤ 65536) ⟨m, by omega⟩
theorem Sl {n : Int} (h : 0 ≤ n ∧ n ≤ 16) : 1 ≤ rest n ∧ rest n ≤ 65536 := p2 _ (by omega)
theorem X3 {n : Int} (h : 0 ≤ n ∧ n ≤ 16) : IntKind.i64.wrap (1 * 2 ^ (min (16 - n).toNat 64)) = rest n := by
 have := Sl h
 rw [Nat.min_eq_left (by omega), Int.one_mul]
 exact i64_in (rest n) (by omega)
theorem Z0 (k : Nat) {n : Int} (h : 0 ≤ n ∧ n ≤ 16) : Xdx k n = some (rest n) := by
 unfold Xdx Zu; (try dsimp only)
 rw [i64_in (16 - n) (by omega), X3 h]
 exact (cf (decide_eq_false (by omega))).trans rfl
def okR (r : den Ci) : Bool := inB r.2.1 0 16 && inB r.1 0 65535 && (Int.tmod r.1 (rest r.2.1) == 0) && inB r.2.2.1 0 65535 && inB r.2.2.2 1 48
theorem A7 {a b c : Int} (h : inB a b c = true) : b ≤ a ∧ a ≤ c := by simpa [inB] using h
theorem B4 {a b c : Int} (h : b ≤ a ∧ a ≤ c) : inB a b c = true := by simpa [inB] using h
theorem Xas (k : Nat) (r : den Ci) : Zw k r = some (okR r) := by
 obtain ⟨v0, v1, v2, v3⟩ := r
 unfold Zw Y9 okR; (try dsimp only [C7])
 refine (bs (Bj k v1 0 16)).trans ?_
 try dsimp only
 cases h1 : inB v1 0 16 with
 | false => rfl
 | true =>
  have hr := Sl (A7 h1)
  refine (ct rfl).trans ((bs (Bj k v0 0 65535)).trans ?_)
  cases h2 : inB v0 0 65535 with
  | false => rfl
  | true =>
   refine (ct rfl).trans ((bs (Z0 k (A7 h1))).trans ((cf (decide_eq_false (by omega))).trans ?_))
   cases h3 : (Int.tmod v0 (rest v1) == 0) with
   | false => rfl
   | true =>
    refine (ct rfl).trans ((bs (Bj k v2 0 65535)).trans ?_)
    cases h4 : inB v2 0 65535 with
    | false => rfl
    | true => exact (ct rfl).trans ((bs (Bj k v3 1 48)).trans rfl)
theorem X06 (k : Nat) (r : den Ci) : Xm6 k r = some (okR r) := by
 obtain ⟨v0, v1, v2, v3⟩ := r
 unfold Xm6 Zl okR; (try dsimp only [C7])
 refine (bs (Cl k v1 0 16)).trans ?_
 try dsimp only
 cases h1 : inB v1 0 16 with
 | false => rfl
 | true =>
  have hi := A7 h1
  have hr := Sl hi
  refine (ct rfl).trans ((bs (Eh k v0)).trans ?_)
  cases h2 : inB v0 0 65535 with
  | false => rfl
  | true =>
   have e1 := i64_in (16 - v1) (by omega)
   refine (ct rfl).trans ((cf (by rw [e1]; exact decide_eq_false (by omega))).trans ((cf (by rw [e1, X3 hi]; exact decide_eq_false (by omega))).trans ?_))
   rw [e1, X3 hi]
   cases h3 : (Int.tmod v0 (rest v1) == 0) with
   | false => rfl
   | true =>
    refine (ct rfl).trans ((bs (Eh k v2)).trans ?_)
    cases h4 : inB v2 0 65535 with
    | false => rfl
    | true => exact (ct rfl).trans ((bs (Cl k v3 1 48)).trans rfl)
theorem Kg {r : den Ci} (h : okR r = true) : inB r.2.1 0 16 = true ∧ inB r.1 0 65535 = true ∧ inB r.2.2.1 0 65535 = true ∧ inB r.2.2.2 1 48 = true := by
 unfold okR at h
 simp only [Bool.and_eq_true] at h
 exact ⟨h.1.1.1.1, h.1.1.1.2, h.1.2, h.2⟩
def O5 (a b : Int) : Int := if a < b then -1 else if a > b then 1 else 0
def orV (a b : Int) : Int := if a ≠ 0 then a else b
theorem Zj (k : Nat) (a b : Int) : Xaa k a b = some (O5 a b) := by
 unfold Xaa Xab Xl4 O5; (try dsimp only)
 simp only [bne_self_eq_false, Option.bind_some, cond_false]
 by_cases h1 : a < b
 ·rw [decide_eq_true h1, if_pos h1]; rfl
 ·rw [decide_eq_false h1, if_neg h1]
  by_cases h2 : a > b
  ·rw [decide_eq_true h2, if_pos h2]; rfl
  ·rw [decide_eq_false h2, if_neg h2]; rfl
theorem Xx4 (n : Nat) (a b : Int) : Xsi (n + 4) [a, b] = some (orV a b) := by
 have aux : ∀ k m : Nat, F1 k [a, b] (m + 1 + 1 + 1) 0 = some (orV a b) := fun k m => by
  rw [F1]
  unfold Fa orV; (try dsimp only [Ax])
  refine (ct rfl).trans ((ct rfl).trans ((ct rfl).trans ?_))
  rw [show Ad (t := .int .i64) [a, b] 0 = a from rfl]
  by_cases h : a ≠ 0
  ·rw [if_pos h]
   exact (ct (bne_iff_ne.2 h)).trans rfl
  ·rw [if_neg h]
   refine (cf (bne_eq_false_iff_eq.2 (Decidable.not_not.1 h))).trans ?_
   rw [show IntKind.i64.wrap (0 + 1) = 1 by decide, F1]
   unfold Fa; (try dsimp only [Ax])
   refine (ct rfl).trans ((ct rfl).trans ((ct rfl).trans ?_))
   rw [show Ad (t := .int .i64) [a, b] 1 = b from rfl]
   by_cases h2 : b ≠ 0
   ·exact (ct (bne_iff_ne.2 h2)).trans rfl
   ·refine (cf (bne_eq_false_iff_eq.2 (Decidable.not_not.1 h2))).trans ?_
    rw [show IntKind.i64.wrap (1 + 1) = 2 by decide, F1]
    unfold Fa; (try dsimp only [Ax])
    rw [Decidable.not_not.1 h2]
    exact (cf rfl).trans rfl
 exact aux (n + 4) (n + 1)
theorem Xx5 (n : Nat) (p c : den Ci) : Xnn (n + 4) p c = some (orV (O5 p.2.1 c.2.1) (O5 p.1 c.1)) := by
 unfold Xnn X4; (try dsimp only)
 exact (bs (Zj _ _ _)).trans ((bs (Zj _ _ _)).trans ((bs (Xx4 _ _ _)).trans rfl))
def ltR (p1 p0 c1 c0 : Int) : Bool := decide (p1 < c1) || (decide (p1 = c1) && decide (p0 < c0))
theorem ordS {α : Type} (p1 p0 c1 c0 : Int) (x y : α) : cond (decide (p1 > c1)) x (cond (p1 == c1) (cond (decide (p0 ≥ c0)) x y) y) = cond (ltR p1 p0 c1 c0) y x := by
 unfold ltR
 rcases Int.lt_trichotomy p1 c1 with h | h | h
 ·rw [decide_eq_false (by omega : ¬ p1 > c1), decide_eq_true h, show (p1 == c1) = false from beq_eq_false_iff_ne.2 (by omega)]; rfl
 ·rw [decide_eq_false (by omega : ¬ p1 > c1), decide_eq_false (by omega : ¬ p1 < c1), decide_eq_true h, show (p1 == c1) = true from beq_iff_eq.2 h]
  by_cases h2 : p0 < c0
  ·rw [decide_eq_false (by omega : ¬ p0 ≥ c0), decide_eq_true h2]; rfl
  ·rw [decide_eq_true (by omega : p0 ≥ c0), decide_eq_false h2]; rfl
 ·rw [decide_eq_true (by omega : p1 > c1), decide_eq_false (by omega : ¬ p1 < c1), decide_eq_false (by omega : ¬ p1 = c1)]; rfl
theorem ordI {α : Type} (p1 p0 c1 c0 : Int) (x y : α) : cond (decide (orV (O5 p1 c1) (O5 p0 c0) ≥ 0)) x y = cond (ltR p1 p0 c1 c0) y x := by
 unfold ltR orV O5
 rcases Int.lt_trichotomy p1 c1 with h | h | h
 ·rw [if_pos h, if_pos (by decide), decide_eq_true h]; rfl
 ·rw [if_neg (by omega : ¬ p1 < c1), if_neg (by omega : ¬ p1 > c1), if_neg (by decide), decide_eq_false (by omega : ¬ p1 < c1), decide_eq_true h]
  by_cases h2 : p0 < c0
  ·rw [if_pos h2, decide_eq_true h2]; rfl
  ·rw [if_neg h2, decide_eq_false h2]
   by_cases h3 : p0 > c0
   ·rw [if_pos h3]; rfl
   ·rw [if_neg h3]; rfl
 ·rw [if_neg (by omega : ¬ p1 < c1), if_pos h, if_pos (by decide), decide_eq_false (by omega : ¬ p1 < c1), decide_eq_false (by omega : ¬ p1 = c1)]; rfl
theorem rs_l (q : Nat) (v : rtL) (hl : v.length ≤ 1048576) : ∀ (n j : Nat), j ≤ v.length → v.length - j < n → ∃ b, Kz (q + 4) v n (j : Int) = some b ∧ Ke (q + 4) v n (j : Int) = some b ∧ (b = true → (∀ r ∈ v.drop j, okR r = true) ∧ v.length ≤ 8)
 | 0, j, _, h => by omega
 | n + 1, j, hj, h => by
  rw [Kz, Ke]
  unfold K9 Kp; (try dsimp only [Ax])
  rcases Nat.lt_or_ge j v.length with hlt | hge
  ·have d1 : decide ((j : Int) < ((v.length : Nat) : Int)) = true := decide_eq_true (by omega)
   have d0 : decide ((0 : Int) ≤ ((j : Nat) : Int)) = true := decide_eq_true (by omega)
   obtain ⟨b, hb1, hb2, hb3⟩ := rs_l q v hl n (j + 1) hlt (by omega)
   rw [Ap v j hlt, Gv j (by omega), List.drop_eq_getElem_cons hlt, Xas, X06]
   cases ho : okR v[j] with
   | false => exact ⟨false, (ct d1).trans ((ct d0).trans ((ct d1).trans rfl)), (ct d1).trans ((ct d0).trans ((ct d1).trans rfl)), fun h => by cases h⟩
   | true =>
    have hb4 : b = true → (∀ r ∈ v[j] :: v.drop (j + 1), okR r = true) ∧ v.length ≤ 8 := fun hb => ⟨fun r hr => (List.mem_cons.1 hr).elim (fun e => by rw [e]; exact ho) ((hb3 hb).1 r), (hb3 hb).2⟩
    rcases Nat.eq_zero_or_pos j with h0 | h0
    ·have g0 : decide ((j : Int) > 0) = false := decide_eq_false (by omega)
     exact ⟨b, (ct d1).trans ((ct d0).trans ((ct d1).trans ((bs rfl).trans ((cf rfl).trans ((cf g0).trans hb1))))), (ct d1).trans ((ct d0).trans ((ct d1).trans ((bs rfl).trans ((cf rfl).trans ((cf g0).trans hb2))))), hb4⟩
    ·have g0 : decide ((j : Int) > 0) = true := decide_eq_true (by omega)
     have e1 : IntKind.i64.wrap ((j : Int) - 1) = ((j - 1 : Nat) : Int) := by rw [i64_in _ (by omega)]; omega
     have q1 : decide (((j - 1 : Nat) : Int) < ((v.length : Nat) : Int)) = true := decide_eq_true (by omega)
     have q0 : decide ((0 : Int) ≤ ((j - 1 : Nat) : Int)) = true := decide_eq_true (by omega)
     rw [e1, Ap v (j - 1) (by omega), Xx5]
     simp only [d1, d0, q1, q0, g0, cond_true, Option.bind_some, Bool.not_true, cond_false, hb1, hb2]
     refine ⟨cond (ltR v[j - 1].2.1 v[j - 1].1 v[j].2.1 v[j].1) b false, (ordS _ _ _ _ _ _).trans (Km _ _ _), (ordI _ _ _ _ _ _).trans (Km _ _ _), fun hc => ?_⟩
     cases hlt2 : ltR v[j - 1].2.1 v[j - 1].1 v[j].2.1 v[j].1 with
     | false => rw [hlt2] at hc; cases hc
     | true => rw [hlt2] at hc; exact hb4 hc
  ·have : j = v.length := by omega
   subst this
   rw [List.drop_length]
   have d1 : decide (((v.length : Nat) : Int) < ((v.length : Nat) : Int)) = false := decide_eq_false (by omega)
   exact ⟨decide (((v.length : Nat) : Int) ≤ 8), (cf d1).trans rfl, (cf d1).trans rfl, fun h => ⟨fun r hr => (by cases hr), by have := of_decide_eq_true h; omega⟩⟩
theorem X3n (q : Nat) (v : rtL) (hl : v.length ≤ 1048576) (hk : 1048576 < q + 4) : ∃ b, F202 (q + 4) v = some b ∧ Xl1 (q + 4) v = some b ∧ (b = true → (∀ r ∈ v, okR r = true) ∧ v.length ≤ 8) := by
 have := rs_l q v hl (q + 4) 0 (Nat.zero_le _) (by omega)
 rw [List.drop_zero] at this
 exact this
structure StaOk (k : Nat) (s : den sta) : Prop where
 st : F129 k s = some true
 rs : F202 k s.2 = some true
 at1 : inB s.1 0 65535 = true
 ok : ∀ r ∈ s.2, okR r = true
 len : s.2.length ≤ 8
theorem Yer (q : Nat) (s : den sta) (hl : s.2.length ≤ 1048576) (hk : 1048576 < q + 4) : ∃ b, F129 (q + 4) s = some b ∧ F88 (q + 4) s = some b ∧ (b = true → StaOk (q + 4) s) := by
 obtain ⟨b, h1, h2, h3⟩ := X3n q s.2 hl hk
 have e1 : F129 (q + 4) s = some (inB s.1 0 65535 && b) := by
  unfold F129; (try dsimp only)
  refine (bs (Bj _ _ _ _)).trans ?_
  cases inB s.1 0 65535 with
  | false => rfl
  | true => exact (ct rfl).trans ((bs h1).trans rfl)
 have e2 : F88 (q + 4) s = some (inB s.1 0 65535 && b) := by
  unfold F88; (try dsimp only)
  refine (bs (Eh _ _)).trans ?_
  cases inB s.1 0 65535 with
  | false => rfl
  | true => exact (ct rfl).trans ((bs h2).trans rfl)
 refine ⟨_, e1, e2, fun h => ?_⟩
 rw [h] at e1
 rw [Bool.and_eq_true] at h
 rw [h.2] at h1
 exact ⟨e1, h1, h.1, (h3 h.2).1, (h3 h.2).2⟩
def hit (s : den sta) (a : Int) : Bool := @BEq.beq Int _ s.1 a
def fi (a : Int) : E0 → Nat → Int
 | [], _ => -1
 | s :: l, j => cond (hit s a) (j : Int) (fi a l (j + 1))
theorem Xur (k : Nat) (v : E0) (w : Int) (hl : v.length ≤ 1048576) : ∀ (n j : Nat), j ≤ v.length → v.length - j < n → Kv k v w n (j : Int) = some (fi w (v.drop j) j)
 | 0, j, _, h => by omega
 | n + 1, j, hj, h => by
  rw [Kv]
  unfold Lv; (try dsimp only [Ax])
  rcases Nat.lt_or_ge j v.length with hlt | hge
  ·have d1 : decide ((j : Int) < ((v.length : Nat) : Int)) = true := decide_eq_true (by omega)
   have d0 : decide ((0 : Int) ≤ ((j : Nat) : Int)) = true := decide_eq_true (by omega)
   rw [Ap v j hlt, Gv j (by omega), List.drop_eq_getElem_cons hlt]
   refine (ct d1).trans ((ct d0).trans ((ct d1).trans ?_))
   rw [fi, Xur k v w hl n (j + 1) hlt (by omega)]
   exact Km (hit v[j] w) _ _
  ·have : j = v.length := by omega
   subst this
   rw [List.drop_length]
   exact (cf (decide_eq_false (by omega))).trans rfl
theorem X1r (k : Nat) (v : E0) (w : Int) (hl : v.length ≤ 1048576) (hk : 1048576 < k) : Xli k v w = some (fi w v 0) := Xur k v w hl k 0 (Nat.zero_le _) (by omega)
theorem Xui (k : Nat) (v : E0) (wx w : Int) (hl : v.length ≤ 1048576) : ∀ (n j : Nat), j ≤ v.length → v.length - j < n → Lf k v wx n (j : Int) w = some (fi w (v.drop j) j, w)
 | 0, j, _, h => by omega
 | n + 1, j, hj, h => by
  rw [Lf]
  unfold Lg; (try dsimp only [Ax])
  rcases Nat.lt_or_ge j v.length with hlt | hge
  ·have d1 : decide ((j : Int) < ((v.length : Nat) : Int)) = true := decide_eq_true (by omega)
   have d0 : decide ((0 : Int) ≤ ((j : Nat) : Int)) = true := decide_eq_true (by omega)
   rw [Ap v j hlt, Gv j (by omega), List.drop_eq_getElem_cons hlt]
   refine (ct d1).trans ((ct d0).trans ((ct d1).trans ((bs (show Xuy k v[j] w = some (hit v[j] w, w) from rfl)).trans ?_)))
   rw [fi, Xui k v wx w hl n (j + 1) hlt (by omega)]
   cases hit v[j] w <;> rfl
  ·have : j = v.length := by omega
   subst this
   rw [List.drop_length]
   exact (cf (decide_eq_false (by omega))).trans rfl
theorem Xbb (k : Nat) (v : E0) (w : Int) (hl : v.length ≤ 1048576) (hk : 1048576 < k) : F75 k v w = some (fi w v 0) := by
 unfold F75; (try dsimp only)
 exact (bs (Xui k v w w hl k 0 (Nat.zero_le _) (by omega))).trans rfl
theorem Xb4 (a : Int) : ∀ (l : E0) (j : Nat), fi a l j = -1 ∨ ((j : Int) ≤ fi a l j ∧ fi a l j < (j : Int) + (l.length : Int))
 | [], j => .inl rfl
 | s :: l, j => by
  rw [fi]
  cases hit s a with
  | true => right; simp only [cond_true, List.length_cons]; omega
  | false =>
   simp only [cond_false, List.length_cons]
   rcases Xb4 a l (j + 1) with h | h
   ·exact .inl h
   ·right; omega
theorem Wz (k : Nat) (v : E0) (i : Nat) (hi : i < v.length) (hl : v.length ≤ 1048576) : ∀ (n j : Nat), j ≤ i → i - j < n →
  (fi v[i].1 (v.drop j) j < (i : Int) ∧ ∃ y, Nd k v n (i : Int) (j : Int) = some (.inl y)) ∨ (fi v[i].1 (v.drop j) j = (i : Int) ∧ Nd k v n (i : Int) (j : Int) = some (.inr ((i : Int), (i : Int))))
 | 0, j, _, h => by omega
 | n + 1, j, hj, h => by
  have hjl : j < v.length := by omega
  have d1 : decide ((j : Int) < ((v.length : Nat) : Int)) = true := decide_eq_true (by omega)
  have d0 : decide ((0 : Int) ≤ ((j : Nat) : Int)) = true := decide_eq_true (by omega)
  have i1 : decide ((i : Int) < ((v.length : Nat) : Int)) = true := decide_eq_true (by omega)
  have i0 : decide ((0 : Int) ≤ ((i : Nat) : Int)) = true := decide_eq_true (by omega)
  rw [Nd]
  unfold N6; (try dsimp only [Ax])
  rw [Ap v j hjl, Ap v i hi, Gv j (by omega), List.drop_eq_getElem_cons hjl, fi]
  rcases Nat.lt_or_ge j i with hlt | hge
  ·have ji : decide ((j : Int) < (i : Int)) = true := decide_eq_true (by omega)
   cases hh : hit v[j] v[i].1 with
   | true => exact .inl ⟨by simp only [cond_true]; omega, _, (ct ji).trans ((ct d0).trans ((ct d1).trans ((ct i0).trans ((ct i1).trans ((ct hh).trans rfl)))))⟩
   | false =>
    rw [cond_false]
    rcases Wz k v i hi hl n (j + 1) (by omega) (by omega) with ⟨h1, y, h2⟩ | ⟨h1, h2⟩
    ·exact .inl ⟨h1, y, (ct ji).trans ((ct d0).trans ((ct d1).trans ((ct i0).trans ((ct i1).trans ((cf hh).trans h2)))))⟩
    ·exact .inr ⟨h1, (ct ji).trans ((ct d0).trans ((ct d1).trans ((ct i0).trans ((ct i1).trans ((cf hh).trans h2)))))⟩
  ·have e : j = i := by omega
   subst e
   have hh : hit v[j] v[j].1 = true := beq_self_eq_true _
   rw [hh]
   exact .inr ⟨rfl, (cf (decide_eq_false (by omega))).trans rfl⟩
theorem X2v (q : Nat) (v : E0) (hl : v.length ≤ 1048576) (hs : Ub v ≤ 1048576) (hk : 1048576 < q + 4) : ∀ (n j : Nat), j ≤ v.length → v.length - j < n → ∃ b, Mp (q + 4) v n (j : Int) = some b ∧ O4 (q + 4) v n (j : Int) = some b ∧ (b = true → (∀ s ∈ v.drop j, StaOk (q + 4) s) ∧ v.length ≤ 5)
 | 0, j, _, h => by omega
 | n + 1, j, hj, h => by
  rw [Mp, O4]
  unfold Nj; (try dsimp only [Ax])
  rcases Nat.lt_or_ge j v.length with hlt | hge
  ·have d1 : decide ((j : Int) < ((v.length : Nat) : Int)) = true := decide_eq_true (by omega)
   have d0 : decide ((0 : Int) ≤ ((j : Nat) : Int)) = true := decide_eq_true (by omega)
   have hs1 := Xbq (List.getElem_mem hlt)
   obtain ⟨o, ho1, ho2, ho3⟩ := Yer q v[j] (by omega) hk
   obtain ⟨b, hb1, hb2, hb3⟩ := X2v q v hl hs hk n (j + 1) hlt (by omega)
   rw [Ap v j hlt, Gv j (by omega), List.drop_eq_getElem_cons hlt, ho1, ho2]
   have ef := Xbb (q + 4) v v[j].1 hl hk
   have e0 := Wz (q + 4) v j hlt hl (q + 4) 0 (Nat.zero_le _) (by omega)
   rw [List.drop_zero] at e0
   cases o with
   | false => exact ⟨false, (ct d1).trans ((ct d0).trans ((ct d1).trans rfl)), (ct d1).trans ((ct d0).trans ((ct d1).trans rfl)), fun h => by cases h⟩
   | true =>
    rcases e0 with ⟨h1, y, h2⟩ | ⟨h1, h2⟩
    ·exact ⟨false, (ct d1).trans ((ct d0).trans ((ct d1).trans ((bs rfl).trans ((cf rfl).trans ((bs h2).trans rfl))))), (ct d1).trans ((ct d0).trans ((ct d1).trans ((bs rfl).trans ((cf rfl).trans ((bs ef).trans ((ct (decide_eq_true h1)).trans rfl)))))), fun h => by cases h⟩
    ·refine ⟨b, (ct d1).trans ((ct d0).trans ((ct d1).trans ((bs rfl).trans ((cf rfl).trans ((bs h2).trans ?_))))), (ct d1).trans ((ct d0).trans ((ct d1).trans ((bs rfl).trans ((cf rfl).trans ((bs ef).trans ((cf (decide_eq_false (by rw [h1]; omega))).trans hb2)))))), fun hb => ⟨fun s hs => ?_, (hb3 hb).2⟩⟩
     ·show Mp (q + 4) v n (IntKind.i64.wrap ((j : Int) + 1)) = some b
      rw [Gv j (by omega)]
      exact hb1
     ·rcases List.mem_cons.1 hs with e | e
      ·rw [e]; exact ho3 rfl
      ·exact (hb3 hb).1 s e
  ·have : j = v.length := by omega
   subst this
   rw [List.drop_length]
   have d1 : decide (((v.length : Nat) : Int) < ((v.length : Nat) : Int)) = false := decide_eq_false (by omega)
   exact ⟨decide (((v.length : Nat) : Int) ≤ 5), (cf d1).trans rfl, (cf d1).trans rfl, fun h => ⟨fun r hr => (by cases hr), by have := of_decide_eq_true h; omega⟩⟩
theorem Xfk (q : Nat) (v : E0) (hl : v.length ≤ 1048576) (hs : Ub v ≤ 1048576) (hk : 1048576 < q + 4) : ∃ b, F59 (q + 4) v = some b ∧ F31 (q + 4) v = some b ∧ (b = true → (∀ s ∈ v, StaOk (q + 4) s) ∧ v.length ≤ 5) := by
 have := X2v q v hl hs hk (q + 4) 0 (Nat.zero_le _) (by omega)
 rw [List.drop_zero] at this
 exact this
end Go.Proofs.YtdmepjjepogddaaGreat.Gn
end

section
namespace Go.Proofs.YtdmepjjepogddaaGreat.Gn
open Go.Rf Go.IntWalk
set_option linter.unusedVariables false
set_option linter.unusedSimpArgs false
def a8 (b : A4) (j : Nat) : Int := Ad b (j : Int)
def n2 (b : A4) (j : Nat) : Int := a8 b j * 256 + a8 b (j + 1)
theorem N8 {b : A4} (hb : BOk b) {j : Nat} (h : j < b.length) : 0 ≤ a8 b j ∧ a8 b j ≤ 255 := by
 unfold a8; rw [Ap b j h]; exact byt hb j h
theorem atI8 (b : A4) (j : Nat) : @Eq Int (Ad b (j : Int)) (a8 b j) := rfl
theorem cut2 (b : A4) (j : Nat) (h : j + 2 ≤ b.length) : (b.take (j + 2)).drop j = [a8 b j, a8 b (j + 1)] := by
 have h1 : j < (b.take (j + 2)).length := by rw [List.length_take]; omega
 have h2 : j + 1 < (b.take (j + 2)).length := by rw [List.length_take]; omega
 rw [List.drop_eq_getElem_cons h1, List.drop_eq_getElem_cons h2, List.drop_eq_nil_of_le (by rw [List.length_take]; omega)]
 unfold a8
 rw [Ap b j (by omega), Ap b (j + 1) (by omega), List.getElem_take, List.getElem_take]
theorem Xjm (q : Nat) (b : A4) (hb : BOk b) (hl : b.length ≤ 1048576) (j : Nat) (h : j + 2 ≤ b.length) : Xgu (q + 4) b (j : Int) 2 = some (n2 b j) := by
 have b1 := N8 hb (j := j) (by omega)
 have b2 := N8 hb (j := j + 1) (by omega)
 have i1 : inB 2 1 4 = true := by decide
 have i2 : inB (j : Int) 0 (IntKind.i64.wrap (((b.length : Nat) : Int) - 2)) = true := by
  rw [i64_in _ (by omega)]
  unfold inB
  rw [decide_eq_true (by omega), decide_eq_true (by omega)]
  rfl
 have e0 : IntKind.i64.wrap ((j : Int) + 0) = (j : Int) := by rw [i64_in _ (by omega)]; omega
 have e1 : IntKind.i64.wrap ((j : Int) + 1) = ((j + 1 : Nat) : Int) := Gv j (by omega)
 have w1 : IntKind.i64.wrap (0 + 1) = 1 := by decide
 have w2 : IntKind.i64.wrap (1 + 1) = 2 := by decide
 have w3 : IntKind.i64.wrap (0 * 256) = 0 := by decide
 unfold Xgu Xa4; (try dsimp only)
 refine (bs (Bj (q + 4) 2 1 4)).trans ?_
 rw [i1]
 refine (cf rfl).trans ?_
 refine (bs (Bj (q + 4) (j : Int) 0 _)).trans ?_
 rw [i2]
 refine (cf rfl).trans ?_
 have aux : ∀ k m : Nat, F2 k b (j : Int) 2 (m + 1 + 1 + 1) 0 0 = some (n2 b j) := fun k m => by
  rw [F2]
  unfold E1; (try dsimp only [Ax])
  rw [e0, w1, w3]
  refine (ct rfl).trans ((ct (decide_eq_true (by omega))).trans ((ct (decide_eq_true (by omega))).trans ?_))
  rw [atI8 b j, i64_in (a8 b j) (by omega), Int.zero_add, i64_in (a8 b j) (by omega)]
  try dsimp only
  rw [F2]
  unfold E1; (try dsimp only [Ax])
  rw [e1, w2]
  refine (ct rfl).trans ((ct (decide_eq_true (by omega))).trans ((ct (decide_eq_true (by omega))).trans ?_))
  rw [atI8 b (j + 1), i64_in (a8 b (j + 1)) (by omega), i64_in (a8 b j * 256) (by omega), i64_in _ (by omega)]
  try dsimp only
  rw [F2]
  unfold E1; (try dsimp only [Ax])
  exact (cf rfl).trans rfl
 exact aux (q + 4) (q + 1)
theorem Xzr (q : Nat) (b : A4) (hb : BOk b) (hl : b.length ≤ 1048576) (j : Nat) (h : j + 2 ≤ b.length) : Xl0 (q + 4) b (j : Int) 2 = some (n2 b j) := by
 have b1 := N8 hb (j := j) (by omega)
 have b2 := N8 hb (j := j + 1) (by omega)
 have i1 : inB 2 1 4 = true := by decide
 have e8 : ((2 : Int) ^ 8) = 256 := by decide
 have w1 : IntKind.i64.wrap (0 + 1) = 1 := by decide
 have w2 : IntKind.i64.wrap (1 + 1) = 2 := by decide
 have w3 : IntKind.i64.wrap (0 * 256) = 0 := by decide
 have e2 : IntKind.i64.wrap ((j : Int) + 2) = ((j + 2 : Nat) : Int) := by rw [i64_in _ (by omega)]; omega
 have c2 := cut2 b j h
 unfold Xl0 X1; (try dsimp only)
 refine (bs (Cl (q + 4) 2 1 4)).trans ?_
 rw [i1]
 refine (cf rfl).trans ?_
 refine (cf (decide_eq_false (by omega))).trans ?_
 refine (cf (decide_eq_false (by rw [i64_in _ (by omega)]; omega))).trans ?_
 rw [e2]
 refine (ct (by rw [decide_eq_true (by omega), decide_eq_true (by omega)]; rfl)).trans ?_
 refine (ct (by rw [decide_eq_true (by omega), decide_eq_true (by omega)]; rfl)).trans ?_
 have aux : ∀ k m : Nat, Gd k b (j : Int) 2 (m + 1 + 1 + 1) 0 0 = some (n2 b j) := fun k m => by
  rw [Gd]
  unfold E5; (try dsimp only [Ax])
  rw [e2, Int.toNat_natCast, Int.toNat_natCast, c2, e8, w1, w3]
  refine (ct rfl).trans ((ct rfl).trans ((ct rfl).trans ?_))
  rw [show @Eq Int (Ad (t := .int .u8) [a8 b j, a8 b (j + 1)] 0) (a8 b j) from rfl, i64_in (a8 b j) (by omega), show (0 : Int) = 0 * 256 from rfl, Uk 0 (a8 b j) (by omega) b1]
  rw [show (0 : Int) * 256 + a8 b j = a8 b j by omega]
  try dsimp only
  rw [Gd]
  unfold E5; (try dsimp only [Ax])
  rw [e2, Int.toNat_natCast, Int.toNat_natCast, c2, e8, w2]
  refine (ct rfl).trans ((ct rfl).trans ((ct rfl).trans ?_))
  rw [show @Eq Int (Ad (t := .int .u8) [a8 b j, a8 b (j + 1)] 1) (a8 b (j + 1)) from rfl, i64_in (a8 b (j + 1)) (by omega), i64_in (a8 b j * 256) (by omega), Uk (a8 b j) (a8 b (j + 1)) b1 b2]
  try dsimp only
  rw [Gd]
  unfold E5; (try dsimp only [Ax])
  rw [e2, Int.toNat_natCast, Int.toNat_natCast, c2]
  exact (cf rfl).trans rfl
 exact aux (q + 4) (q + 1)
theorem Xjw (k : Nat) (a b : A4) (h9 : a.length ≤ 4194304) (k9 : a.length < k) : Xdo k a b = some (decide (a = b)) := by
 unfold Xdo Y0; (try dsimp only)
 by_cases hlen : a.length = b.length
 ·have := Xse a b (fun n j => Ht k a b n j) hlen
   (fun n j h h' => by
    simp only [Ht, Hk, Ax]
    rw [Ap a j h, Ap b j h', Gv j (by omega)]
    rw [decide_eq_true (by omega : ((j : Nat) : Int) < (a.length : Nat)), decide_eq_true (by omega : ((j : Nat) : Int) < (b.length : Nat)), decide_eq_true (by omega : (0 : Int) ≤ (j : Nat))]
    by_cases hc : a[j] = b[j]
    ·rw [if_pos hc, hc]; simp
    ·rw [if_neg hc, (bne_iff_ne (a := (a[j] : Int)) (b := b[j])).2 hc]; rfl)
   (fun n => by
    simp only [Ht, Hk, Ax]
    rw [decide_eq_false (by omega : ¬ ((a.length : Nat) : Int) < (a.length : Nat))]; rfl) k 0 (Nat.zero_le _) (by omega)
  refine (cf (by rw [hlen]; simp)).trans ?_
  simpa using this
 ·refine (ct (by rw [bne_iff_ne]; omega)).trans ?_
  rw [decide_eq_false (fun h => hlen (by rw [h]))]
end Go.Proofs.YtdmepjjepogddaaGreat.Gn
end

section
namespace Go.Proofs.YtdmepjjepogddaaGreat.Gn
open Go.Rf Go.IntWalk
set_option linter.unusedVariables false
set_option linter.unusedSimpArgs false
def Lj (p : den Ai) : Bool := inB p.1 0 65535 && inB p.2.1 0 65535 && inB p.2.2.1 0 255 && inB p.2.2.2.1 0 255 && inB p.2.2.2.2.1 0 255 && inB p.2.2.2.2.2.1 0 255 && decide ((p.2.2.2.2.2.2.2.2.length : Int) ≤ 48) && (!p.2.2.2.2.2.2.1 || decide ((p.2.2.2.2.2.2.2.2.length : Int) > 0)) && (!p.2.2.2.2.2.2.2.1 || (@BEq.beq Int _ p.2.2.2.2.2.1 0 && !p.2.2.2.2.2.2.1))
theorem C2 (k : Nat) (p : den Ai) : Ha k p = some (Lj p) := by
 obtain ⟨v0, v1, v2, v3, v4, v5, v6, v7, v8⟩ := p
 unfold Ha Xj Lj; (try dsimp only [Az])
 simp only [Bj, Option.bind_some]
 cases inB v0 0 65535; · rfl
 cases inB v1 0 65535; · rfl
 cases inB v2 0 255; · rfl
 cases inB v3 0 255; · rfl
 cases inB v4 0 255; · rfl
 cases inB v5 0 255; · rfl
 cases decide ((v8.length : Int) ≤ 48); · rfl
 cases v6 <;> cases v7 <;> cases decide ((v8.length : Int) > 0) <;> cases @BEq.beq Int _ v5 0 <;> rfl
theorem Mi (k : Nat) (p : den Ai) : F89 k p = some (Lj p) := by
 obtain ⟨v0, v1, v2, v3, v4, v5, v6, v7, v8⟩ := p
 unfold F89 Xka Lj; (try dsimp only [Az])
 simp only [Cl, Eh, Option.bind_some]
 cases inB v0 0 65535; · rfl
 cases inB v1 0 65535; · rfl
 cases inB v2 0 255; · rfl
 cases inB v3 0 255; · rfl
 cases inB v4 0 255; · rfl
 cases inB v5 0 255; · rfl
 cases decide ((v8.length : Int) ≤ 48); · rfl
 cases v6 <;> cases v7 <;> cases decide ((v8.length : Int) > 0) <;> cases @BEq.beq Int _ v5 0 <;> rfl
theorem C1 {v0 v1 v2 v3 v4 v5 : Int} {v6 v7 : Bool} {v8 : A4} (h : Lj (v0, v1, v2, v3, v4, v5, v6, v7, v8) = true) : (0 ≤ v0 ∧ v0 ≤ 65535) ∧ (0 ≤ v1 ∧ v1 ≤ 65535) ∧ (0 ≤ v2 ∧ v2 ≤ 255) ∧ (0 ≤ v3 ∧ v3 ≤ 255) ∧ (0 ≤ v4 ∧ v4 ≤ 255) ∧ (0 ≤ v5 ∧ v5 ≤ 255) ∧ v8.length ≤ 48 ∧ (v6 = true → 0 < v8.length) ∧ (v7 = true → v5 = 0 ∧ v6 = false) := by
 unfold Lj at h
 simp only [Bool.and_eq_true, Bool.or_eq_true, Bool.not_eq_true', decide_eq_true_eq, beq_iff_eq] at h
 obtain ⟨⟨⟨⟨⟨⟨⟨⟨q0, q1⟩, q2⟩, q3⟩, q4⟩, q5⟩, q6⟩, q7⟩, q8⟩ := h
 refine ⟨A7 q0, A7 q1, A7 q2, A7 q3, A7 q4, A7 q5, by omega, fun e => ?_, fun e => ?_⟩
 ·rcases q7 with q | q
  ·rw [e] at q; cases q
  ·omega
 ·rcases q8 with q | q
  ·rw [e] at q; cases q
  ·exact q
theorem Na {v0 v1 v2 v3 v4 v5 : Int} {v6 v7 : Bool} {v8 : A4} (h0 : 0 ≤ v0 ∧ v0 ≤ 65535) (h1 : 0 ≤ v1 ∧ v1 ≤ 65535) (h2 : 0 ≤ v2 ∧ v2 ≤ 255) (h3 : 0 ≤ v3 ∧ v3 ≤ 255) (h4 : 0 ≤ v4 ∧ v4 ≤ 255) (h5 : 0 ≤ v5 ∧ v5 ≤ 255) (h6 : v8.length ≤ 48) (h7 : v6 = true → 0 < v8.length) (h8 : v7 = true → v5 = 0 ∧ v6 = false) : Lj (v0, v1, v2, v3, v4, v5, v6, v7, v8) = true := by
 unfold Lj
 simp only [Bool.and_eq_true, Bool.or_eq_true, Bool.not_eq_true', decide_eq_true_eq, beq_iff_eq]
 refine ⟨⟨⟨⟨⟨⟨⟨⟨B4 h0, B4 h1⟩, B4 h2⟩, B4 h3⟩, B4 h4⟩, B4 h5⟩, by omega⟩, ?_⟩, ?_⟩
 ·cases v6 with
  | false => exact .inl rfl
  | true => have := h7 rfl; right; omega
 ·cases v7 with
  | false => exact .inl rfl
  | true => exact .inr (h8 rfl)
def flP (v6 v7 : Bool) : Int := cond v6 (cond v7 3 1) (cond v7 2 0)
def hdP (v0 v1 v2 v3 v4 v5 : Int) (v6 v7 : Bool) (n : Int) : A4 := Dh v0 ++ Dh v1 ++ [I5 v2, I5 v3, I5 v4, I5 v5, I5 (flP v6 v7), I5 n]
def pkB (v0 v1 v2 v3 v4 v5 : Int) (v6 v7 : Bool) (v8 : A4) : A4 := hdP v0 v1 v2 v3 v4 v5 v6 v7 (v8.length : Int) ++ Dh (Mz (hdP v0 v1 v2 v3 v4 v5 v6 v7 (v8.length : Int))) ++ v8
theorem Z5 (v0 v1 v2 v3 v4 v5 : Int) (v6 v7 : Bool) (n : Int) : (hdP v0 v1 v2 v3 v4 v5 v6 v7 n).length = 10 := rfl
theorem Xk3 {v0 v1 : Int} (h0 : 0 ≤ v0 ∧ v0 ≤ 65535) (h1 : 0 ≤ v1 ∧ v1 ≤ 65535) (v2 v3 v4 v5 : Int) (v6 v7 : Bool) (n : Int) : BOk (hdP v0 v1 v2 v3 v4 v5 v6 v7 n) :=
 ((Ep h0).app (Ep h1)).app BOk.nil.cons.cons.cons.cons.cons.cons
theorem Xke (v0 v1 v2 v3 v4 v5 : Int) (v6 v7 : Bool) (v8 : A4) : (pkB v0 v1 v2 v3 v4 v5 v6 v7 v8).length = 12 + v8.length := by
 unfold pkB
 rw [List.length_append, List.length_append, Z5, Ks]
theorem Xx9 (q : Nat) {v0 v1 v2 v3 v4 v5 : Int} {v6 v7 : Bool} {v8 : A4} (h : Lj (v0, v1, v2, v3, v4, v5, v6, v7, v8) = true) : Xmi (q + 4) (v0, v1, v2, v3, v4, v5, v6, v7, v8) = some (hdP v0 v1 v2 v3 v4 v5 v6 v7 (v8.length : Int)) := by
 obtain ⟨h0, h1, _⟩ := C1 h
 have e : Xl3 (q + 4) (v0, v1, v2, v3, v4, v5, v6, v7, v8) = some (flP v6 v7) := by
  unfold Xl3 flP; (try dsimp only)
  cases v6 <;> cases v7 <;> rfl
 unfold Xmi Xa9; (try dsimp only [Be, Az])
 refine (bs (Hy q v0 h0)).trans ((bs (Hy q v1 h1)).trans ((ct rfl).trans ((bs e).trans ((ct rfl).trans rfl))))
theorem Xz5 (q : Nat) {v0 v1 v2 v3 v4 v5 : Int} {v6 v7 : Bool} {v8 : A4} (h : Lj (v0, v1, v2, v3, v4, v5, v6, v7, v8) = true) (hk : 1048576 < q + 4) : Xm0 (q + 4) (v0, v1, v2, v3, v4, v5, v6, v7, v8) = some (pkB v0 v1 v2 v3 v4 v5 v6 v7 v8) := by
 obtain ⟨h0, h1, _, _, _, _, h6, _⟩ := C1 h
 have hB := Xk3 h0 h1 v2 v3 v4 v5 v6 v7 (v8.length : Int)
 have hl := Z5 v0 v1 v2 v3 v4 v5 v6 v7 (v8.length : Int)
 unfold Xm0 Xaf; (try dsimp only [Be])
 refine (bs (C2 (q + 4) _)).trans ?_
 rw [h]
 refine (cf rfl).trans ((bs (Xx9 q h)).trans ((bs (Xj0 (q + 4) _ hB (by omega) hk)).trans ((bs (Hy q _ (Xaz hB))).trans ?_)))
 refine (ct (decide_eq_true (by rw [hl, Ks]; omega))).trans ((ct (decide_eq_true (by rw [List.length_append, hl, Ks]; show (10 + 2 + v8.length) * 1 ≤ _; omega))).trans rfl)
theorem Xz3 (q : Nat) {v0 v1 v2 v3 v4 v5 : Int} {v6 v7 : Bool} {v8 : A4} (h : Lj (v0, v1, v2, v3, v4, v5, v6, v7, v8) = true) (hk : 1048576 < q + 4) : Xn1 (q + 4) (v0, v1, v2, v3, v4, v5, v6, v7, v8) = some (pkB v0 v1 v2 v3 v4 v5 v6 v7 v8) := by
 obtain ⟨h0, h1, _, _, _, _, h6, _⟩ := C1 h
 have hB := Xk3 h0 h1 v2 v3 v4 v5 v6 v7 (v8.length : Int)
 have hl := Z5 v0 v1 v2 v3 v4 v5 v6 v7 (v8.length : Int)
 have hf : IntKind.i64.wrap ((if v6 = true then 1 else 0) + (if v7 = true then 2 else 0)) = flP v6 v7 := by unfold flP; cases v6 <;> cases v7 <;> decide
 unfold Xn1 Xan; (try dsimp only [Az])
 refine (bs (Mk q v0 h0)).trans ((bs (Mk q v1 h1)).trans ((bs (Xju (q + 4) v6 1)).trans ((bs (Xju (q + 4) v7 2)).trans ?_)))
 rw [hf]
 have c1 := Qo (q + 4) [Dh v0, Dh v1, [I5 v2, I5 v3, I5 v4, I5 v5, I5 (flP v6 v7), I5 (v8.length : Int)]] (show 3 < q + 4 by omega) (by show 3 ≤ 1048576; omega) (by show 10 ≤ 4194304; omega)
 have e1 : [Dh v0, Dh v1, [I5 v2, I5 v3, I5 v4, I5 v5, I5 (flP v6 v7), I5 (v8.length : Int)]].flatten = hdP v0 v1 v2 v3 v4 v5 v6 v7 (v8.length : Int) := rfl
 rw [e1] at c1
 refine (bs c1).trans ((bs (Xt8 q _ hB (by omega))).trans ((bs (Mk q _ (Xaz hB))).trans ?_))
 have e2 : [hdP v0 v1 v2 v3 v4 v5 v6 v7 (v8.length : Int), Dh (Mz (hdP v0 v1 v2 v3 v4 v5 v6 v7 (v8.length : Int))), v8].flatten = pkB v0 v1 v2 v3 v4 v5 v6 v7 v8 := by simp [pkB]
 have c2 := Qo (q + 4) [hdP v0 v1 v2 v3 v4 v5 v6 v7 (v8.length : Int), Dh (Mz (hdP v0 v1 v2 v3 v4 v5 v6 v7 (v8.length : Int))), v8] (show 3 < q + 4 by omega) (by show 3 ≤ 1048576; omega) (by rw [e2, Xke]; omega)
 rw [e2] at c2
 exact (bs c2).trans rfl
def Xn (a b : Int) (n : Nat) : Bool := inB a 1 6 && inB b 0 65535 && decide ((n : Int) ≤ 20)
theorem Xk9 (k : Nat) (a b : Int) (l : A4) : Xgc k (a, b, l) = some (Xn a b l.length) := by
 unfold Xgc Xy Xn; (try dsimp only)
 simp only [Bj, Option.bind_some]
 cases inB a 1 6; · rfl
 cases inB b 0 65535 <;> rfl
theorem Xwy (k : Nat) (a b : Int) (l : A4) : Xm8 k (a, b, l) = some (Xn a b l.length) := by
 unfold Xm8 Xe Xn; (try dsimp only)
 simp only [Cl, Eh, Option.bind_some]
 cases inB a 1 6; · rfl
 cases inB b 0 65535 <;> rfl
def noB (a b : Int) (l : A4) : A4 := cond (Xn a b l.length) ([I5 a] ++ Dh b ++ [I5 (l.length : Int)] ++ l) []
theorem Sn {a b : Int} {n : Nat} (h : Xn a b n = true) : (1 ≤ a ∧ a ≤ 6) ∧ (0 ≤ b ∧ b ≤ 65535) ∧ n ≤ 20 := by
 unfold Xn at h
 simp only [Bool.and_eq_true, decide_eq_true_eq] at h
 exact ⟨A7 h.1.1, A7 h.1.2, by omega⟩
theorem X1w (q : Nat) (a b : Int) (l : A4) : Xme (q + 4) (a, b, l) = some (noB a b l) := by
 unfold Xme Yb noB; (try dsimp only [Be, u_4])
 refine (bs (Xk9 (q + 4) a b l)).trans ?_
 cases h : Xn a b l.length with
 | false => rfl
 | true =>
  obtain ⟨_, h2, h3⟩ := Sn h
  refine (cf rfl).trans ((bs (Hy q b h2)).trans ((ct rfl).trans ((ct rfl).trans ((ct (decide_eq_true ?_)).trans rfl))))
  show (4 + l.length) * 1 ≤ _
  omega
theorem Xiv (q : Nat) (a b : Int) (l : A4) (hk : 1048576 < q + 4) : Xd2 (q + 4) (a, b, l) = some (noB a b l) := by
 unfold Xd2 X9 noB; (try dsimp only [u_4])
 refine (bs (Xwy (q + 4) a b l)).trans ?_
 cases h : Xn a b l.length with
 | false => rfl
 | true =>
  obtain ⟨_, h2, h3⟩ := Sn h
  have e1 : [[I5 a], Dh b, [I5 (l.length : Int)], l].flatten = [I5 a] ++ Dh b ++ [I5 (l.length : Int)] ++ l := by simp
  have c1 := Qo (q + 4) [[I5 a], Dh b, [I5 (l.length : Int)], l] (show 4 < q + 4 by omega) (by show 4 ≤ 1048576; omega) (by rw [e1]; show l.length + 1 + 1 + 1 + 1 ≤ 4194304; omega)
  rw [e1] at c1
  exact (cf rfl).trans ((bs (Mk q b h2)).trans ((bs c1).trans rfl))
theorem Xa8 {a b : Int} {l : A4} (h : Xn a b l.length = true) : (noB a b l).length = 4 + l.length ∧ l.length ≤ 20 := by
 unfold noB
 rw [h]
 exact ⟨show l.length + 1 + 1 + 1 + 1 = 4 + l.length by omega, (Sn h).2.2⟩
def noF (v : A4) : (Int × (Int × A4)) × Bool := cond (decide (4 ≤ v.length) && Xn (a8 v 0) (n2 v 1) (v.drop 4).length && (a8 v 3 == ((v.drop 4).length : Int))) ((a8 v 0, n2 v 1, v.drop 4), true) ((0, 0, []), false)
theorem w8 {v : A4} (hb : BOk v) {j : Nat} (h : j < v.length) : IntKind.i64.wrap (a8 v j) = a8 v j := by
 have := N8 hb h
 exact i64_in _ (by omega)
theorem Xzj (q : Nat) (v : A4) (hb : BOk v) (hl : v.length ≤ 1048576) : Xle (q + 4) v = some (noF v) := by
 unfold Xle Yw noF; (try dsimp only [Be])
 by_cases h : v.length < 4
 ·rw [decide_eq_false (by omega : ¬ 4 ≤ v.length)]
  exact (ct (decide_eq_true (by omega))).trans rfl
 ·rw [decide_eq_true (by omega : 4 ≤ v.length)]
  refine (cf (decide_eq_false (by omega))).trans ((ct (decide_eq_true (by omega))).trans ((bs (Xjm q v hb hl 1 (by omega))).trans ?_))
  refine (ct (by rw [decide_eq_true (by omega : (4 : Int) ≤ (v.length : Int))]; rfl)).trans ((ct (decide_eq_true (by simp only [List.length_nil, List.length_drop]; omega))).trans ?_)
  rw [List.nil_append, show IntKind.i64.wrap (Ad v 0) = a8 v 0 from w8 hb (j := 0) (by omega), show IntKind.i64.wrap (Ad v 3) = a8 v 3 from w8 hb (j := 3) (by omega)]
  refine (bs (Xk9 (q + 4) (a8 v 0) (n2 v 1) (v.drop 4))).trans ?_
  cases Xn (a8 v 0) (n2 v 1) (v.drop 4).length with
  | false => rfl
  | true =>
   refine (cf rfl).trans ((ct (decide_eq_true (by omega))).trans ?_)
   cases hc : (a8 v 3 == ((v.drop 4).length : Int)) with
   | true => exact (cf (by rw [bne, hc]; rfl)).trans rfl
   | false => exact (ct (by rw [bne, hc]; rfl)).trans rfl
theorem four (v : A4) (h : 4 ≤ v.length) : v = a8 v 0 :: a8 v 1 :: a8 v 2 :: a8 v 3 :: v.drop 4 := by
 obtain _ | ⟨a, _ | ⟨b, _ | ⟨c, _ | ⟨d, r⟩⟩⟩⟩ := v
 ·simp at h
 ·simp at h
 ·simp at h
 ·simp at h
 ·rfl
theorem Xxd (q : Nat) (v : A4) (hb : BOk v) (hl : v.length ≤ 1048576) (hk : 1048576 < q + 4) : Xnc (q + 4) v = some (noF v) := by
 unfold Xnc Y6 noF; (try dsimp only)
 by_cases h : v.length < 4
 ·rw [decide_eq_false (by omega : ¬ 4 ≤ v.length)]
  exact (ct (decide_eq_true (by omega))).trans rfl
 ·have hv := four v (by omega)
  have q0 := N8 hb (j := 0) (by omega)
  have q1 := N8 hb (j := 1) (by omega)
  have q2 := N8 hb (j := 2) (by omega)
  have q3 := N8 hb (j := 3) (by omega)
  have hd : (v.drop 4).length = v.length - 4 := List.length_drop
  rw [decide_eq_true (by omega : 4 ≤ v.length)]
  refine (cf (decide_eq_false (by omega))).trans ((ct (decide_eq_true (by omega))).trans ((bs (Xzr q v hb hl 1 (by omega))).trans ?_))
  refine (ct (by rw [decide_eq_true (by omega : (4 : Int) ≤ (v.length : Int))]; rfl)).trans ((bs (K7 (q + 4) (v.drop 4) (by omega))).trans ?_)
  rw [show IntKind.i64.wrap (Ad v 0) = a8 v 0 from w8 hb (j := 0) (by omega)]
  refine (bs (Xiv q (a8 v 0) (n2 v 1) (v.drop 4) hk)).trans ?_
  have hnl : (noB (a8 v 0) (n2 v 1) (v.drop 4)).length ≤ 24 := by
   cases ho : Xn (a8 v 0) (n2 v 1) (v.drop 4).length with
   | false => unfold noB; rw [ho]; simp
   | true => have := Xa8 ho; omega
  refine (bs (Xjw (q + 4) _ v (by omega) (by omega))).trans ?_
  have key : decide (noB (a8 v 0) (n2 v 1) (v.drop 4) = v) = (Xn (a8 v 0) (n2 v 1) (v.drop 4).length && (a8 v 3 == ((v.drop 4).length : Int))) := by
   cases ho : Xn (a8 v 0) (n2 v 1) (v.drop 4).length with
   | false =>
    unfold noB
    rw [ho]
    exact decide_eq_false (fun e => by rw [← e] at h; simp at h)
   | true =>
    obtain ⟨_, h2, h3⟩ := Sn ho
    unfold noB
    rw [ho, Bool.true_and, cond_true]
    have e0 : I5 (a8 v 0) = a8 v 0 := u8W _ q0
    have e1 : n2 v 1 / 256 = a8 v 1 := by show (a8 v 1 * 256 + a8 v 2) / 256 = _; omega
    have e2 : n2 v 1 % 256 = a8 v 2 := by show (a8 v 1 * 256 + a8 v 2) % 256 = _; omega
    have e3 : I5 ((v.drop 4).length : Int) = ((v.drop 4).length : Int) := u8W _ (by omega)
    by_cases c : a8 v 3 = ((v.drop 4).length : Int)
    ·rw [show (a8 v 3 == ((v.drop 4).length : Int)) = true from beq_iff_eq.2 c]
     refine decide_eq_true ?_
     rw [e0, e3, ← c]
     show a8 v 0 :: n2 v 1 / 256 :: n2 v 1 % 256 :: a8 v 3 :: v.drop 4 = v
     rw [e1, e2]
     exact hv.symm
    ·rw [show (a8 v 3 == ((v.drop 4).length : Int)) = false from beq_eq_false_iff_ne.2 c]
     refine decide_eq_false (fun e => c ?_)
     have e4 := congrArg (fun l => a8 l 3) e
     have e5 : I5 ((v.drop 4).length : Int) = a8 v 3 := e4
     exact e5.symm.trans e3
  rw [key]
  cases Xn (a8 v 0) (n2 v 1) (v.drop 4).length <;> cases (a8 v 3 == ((v.drop 4).length : Int)) <;> rfl
def Mb (k2 : Int) (v : A4) : Bool := (noF v).2 && (@BEq.beq Int _ k2 1) && decide ((noF v).1.1 ≥ 3)
theorem Xxl (q : Nat) (p : den Ai) (hb : BOk p.2.2.2.2.2.2.2.2) (hl : p.2.2.2.2.2.2.2.2.length ≤ 1048576) : Xlg (q + 4) p = some (Mb p.2.2.1 p.2.2.2.2.2.2.2.2) := by
 unfold Xlg Yv Mb; (try dsimp only)
 refine (bs (Xzj q _ hb hl)).trans ?_
 cases (noF p.2.2.2.2.2.2.2.2).2; · rfl
 refine (ct rfl).trans ?_
 cases @BEq.beq Int _ p.2.2.1 1 <;> rfl
theorem X0v (q : Nat) (p : den Ai) (hb : BOk p.2.2.2.2.2.2.2.2) (hl : p.2.2.2.2.2.2.2.2.length ≤ 1048576) (hk : 1048576 < q + 4) : Xlr (q + 4) p = some (Mb p.2.2.1 p.2.2.2.2.2.2.2.2) := by
 unfold Xlr Xao Mb; (try dsimp only)
 refine (bs (Xxd q _ hb hl hk)).trans ?_
 cases (noF p.2.2.2.2.2.2.2.2).2; · rfl
 refine (ct rfl).trans ?_
 cases @BEq.beq Int _ p.2.2.1 1 <;> rfl
def noP : den Ai := (0, 0, 0, 0, 0, 0, false, false, [])
def Vu (v0 v1 v2 v3 v4 v5 : Int) (v6 v7 : Bool) (v8 : A4) (w p q : Int) : den Ai × Bool :=
 cond (!Mb v2 v8 && @BEq.beq Int _ v5 0) ((w, v0, 1, 64, v4, 0, false, false, noB p q ((pkB v0 v1 v2 v3 v4 v5 v6 v7 v8).take 20)), true) (noP, false)
theorem tk20 (l : A4) (n : Nat) (hl : l.length = n) : (l.take (if 20 < (n : Int) then 20 else (n : Int)).toNat).drop 0 = l.take 20 ∧ 0 ≤ (if 20 < (n : Int) then 20 else (n : Int)) ∧ (if 20 < (n : Int) then 20 else (n : Int)) ≤ (n : Int) := by
 by_cases c : 20 < (n : Int)
 ·rw [if_pos c]
  exact ⟨rfl, by omega, by omega⟩
 ·rw [if_neg c]
  refine ⟨?_, by omega, by omega⟩
  rw [Int.toNat_natCast, List.drop_zero, List.take_of_length_le (by omega), List.take_of_length_le (by omega)]
theorem Xxh (n : Nat) {v0 v1 v2 v3 v4 v5 : Int} {v6 v7 : Bool} {v8 : A4} (h : Lj (v0, v1, v2, v3, v4, v5, v6, v7, v8) = true) (hb : BOk v8) (hk : 1048576 < n + 4) {w p q : Int} (hw : inB w 0 65535 = true) (hp : 3 ≤ p ∧ p ≤ 6) (hq : 0 ≤ q ∧ q ≤ 65535) :
  Xdt (n + 4) (v0, v1, v2, v3, v4, v5, v6, v7, v8) w p q = some (Vu v0 v1 v2 v3 v4 v5 v6 v7 v8 w p q) := by
 obtain ⟨h0, h1, _, _, _, h5, h6, _⟩ := C1 h
 have hl := Xke v0 v1 v2 v3 v4 v5 v6 v7 v8
 obtain ⟨t1, t2, t3⟩ := tk20 (pkB v0 v1 v2 v3 v4 v5 v6 v7 v8) _ rfl
 have ho : Xn p q ((pkB v0 v1 v2 v3 v4 v5 v6 v7 v8).take 20).length = true := by
  unfold Xn
  rw [B4 (show 1 ≤ p ∧ p ≤ 6 by omega), B4 hq, List.length_take]
  exact decide_eq_true (by omega)
 have hn := Xa8 ho
 unfold Xdt Zx Vu; (try dsimp only)
 refine (bs (Xz5 n h hk)).trans ((ct (by rw [decide_eq_true t2, decide_eq_true t3]; rfl)).trans ?_)
 rw [t1]
 refine (bs (X1w n _ _ _)).trans ((bs (C2 _ _)).trans ?_)
 rw [h]
 refine (cf rfl).trans ((bs (Bj _ _ _ _)).trans ?_)
 rw [hw]
 refine (cf rfl).trans ((bs (Bj _ _ _ _)).trans ?_)
 rw [B4 hp]
 refine (cf rfl).trans ((cf (beq_eq_false_iff_ne.2 (by omega))).trans ((bs (Xxl n _ hb (show v8.length ≤ 1048576 by omega))).trans ?_))
 show cond (Mb v2 v8) _ _ = _
 cases Mb v2 v8 with
 | true => rfl
 | false =>
  refine (cf rfl).trans ?_
  by_cases c : v5 = 0
  ·subst c
   exact (cf (decide_eq_false (by show ¬ (0 : Int) > 0; omega))).trans rfl
  ·rw [show @BEq.beq Int _ v5 0 = false from beq_eq_false_iff_ne.2 c]
   exact (ct (decide_eq_true (by show v5 > 0; omega))).trans rfl
theorem Xjb (n : Nat) {v0 v1 v2 v3 v4 v5 : Int} {v6 v7 : Bool} {v8 : A4} (h : Lj (v0, v1, v2, v3, v4, v5, v6, v7, v8) = true) (hb : BOk v8) (hk : 1048576 < n + 4) {w p q : Int} (hw : inB w 0 65535 = true) (hp : 3 ≤ p ∧ p ≤ 6) (hq : 0 ≤ q ∧ q ≤ 65535) :
  Xc2 (n + 4) (v0, v1, v2, v3, v4, v5, v6, v7, v8) w p q = some (Vu v0 v1 v2 v3 v4 v5 v6 v7 v8 w p q) := by
 obtain ⟨h0, h1, _, _, _, h5, h6, _⟩ := C1 h
 obtain ⟨t1, t2, t3⟩ := tk20 (pkB v0 v1 v2 v3 v4 v5 v6 v7 v8) _ rfl
 unfold Xc2 Xt Vu; (try dsimp only)
 refine (bs (Mi _ _)).trans ?_
 rw [h]
 refine (cf rfl).trans ((bs (Eh _ _)).trans ?_)
 rw [hw]
 refine (cf rfl).trans ?_
 by_cases c : v5 = 0
 ·subst c
  refine (cf (by decide)).trans ((bs (X0v n _ hb (show v8.length ≤ 1048576 by omega) hk)).trans ?_)
  show cond (Mb v2 v8) _ _ = _
  cases Mb v2 v8 with
  | true => rfl
  | false =>
   refine (cf rfl).trans ((bs (Cl _ _ _ _)).trans ?_)
   rw [B4 hp]
   refine (cf rfl).trans ((bs (Eh _ _)).trans ?_)
   rw [B4 hq]
   refine (cf rfl).trans ((bs (Xz3 n h hk)).trans ((ct (by rw [decide_eq_true t2, decide_eq_true t3]; rfl)).trans ?_))
   rw [t1]
   unfold Xwi; (try dsimp only)
   rw [Xiv n _ _ _ hk]
   rfl
 ·rw [show @BEq.beq Int _ v5 0 = false from beq_eq_false_iff_ne.2 c, Bool.and_false]
  exact (ct (bne_iff_ne.2 c)).trans rfl
def Ji (b : den Ai × Bool) : den Sd := cond b.2 (3, 0, [b.1]) (0, 0, [])
theorem Xz9 {k : Nat} {s : den sta} {w : den Ai} {p q : Int} {b : den Ai × Bool} (h : Xdt k w s.1 p q = some b) : Xc3 k s w p q = some (Ji b) := by
 unfold Xc3 Ji; (try dsimp only)
 refine (bs h).trans ?_
 cases b.2 <;> rfl
theorem Xkm {k : Nat} {s : den sta} {w : den Ai} {p q : Int} {b : den Ai × Bool} (h : Xc2 k w s.1 p q = some b) : Xca k s w p q = some (Ji b) := by
 unfold Xca Ji; (try dsimp only)
 refine (bs h).trans ?_
 cases b.2 <;> rfl
end Go.Proofs.YtdmepjjepogddaaGreat.Gn
end

section
namespace Go.Proofs.YtdmepjjepogddaaGreat.Gn
open Go.Rf Go.IntWalk
set_option linter.unusedVariables false
set_option linter.unusedSimpArgs false
theorem Xyj (k : Nat) {r : den Ci} {w : Int} (ho : okR r = true) (hw : inB w 0 65535 = true) : Xnv k r w = some (Rt.Vm w r) := by
 obtain ⟨a, n, g, m⟩ := r
 obtain ⟨h1, h2, _⟩ := Kg ho
 have hn := A7 h1
 have ha := A7 h2
 have hx := A7 hw
 have hr : 1 ≤ rest n ∧ rest n ≤ 65536 := Sl hn
 unfold Xnv Xd Rt.Vm; (try dsimp only)
 refine (bs (Xas k _)).trans ?_
 rw [ho]
 refine (ct rfl).trans ((bs (Bj _ _ _ _)).trans ?_)
 rw [hw]
 have hz : ¬ rest n = 0 := by omega
 refine (ct rfl).trans ((bs (Z0 k hn)).trans ((cf (decide_eq_false hz)).trans ((bs (Z0 k hn)).trans ((cf (decide_eq_false hz)).trans ?_))))
 have e : ∀ x : Int, 0 ≤ x ∧ x ≤ 65535 → IntKind.i64.wrap (x.tdiv (rest n)) = x.fdiv (rest n) := fun x hx => by
  rw [Int.tdiv_eq_ediv_of_nonneg hx.1, Int.fdiv_eq_ediv_of_nonneg x (by omega)]
  have h1 := Int.ediv_nonneg hx.1 (show 0 ≤ rest n by omega)
  have h2 := Int.ediv_le_self (rest n) hx.1
  exact i64_in _ (by omega)
 show some (IntKind.i64.wrap (w.tdiv (rest n)) == IntKind.i64.wrap (Int.tdiv a (rest n))) = some (w.fdiv (rest n) == Int.fdiv a (rest n))
 rw [e w hx, e a ha]
theorem Xn9 (k : Nat) (v : rtL) (w : Int) (hl : v.length ≤ 1048576) (hr : F202 k v = some true) (ho : ∀ r ∈ v, okR r = true) (hw : inB w 0 65535 = true) : ∀ (j n : Nat), j ≤ v.length → j < n → Ia k v w n ((j : Int) - 1) = some (Rt.B6 w 17 (v.take j).reverse)
 | _, 0, _, h => by omega
 | 0, n + 1, _, _ => by
  rw [Ia]
  unfold G2; (try dsimp only [Ax])
  exact (cf (decide_eq_false (by omega))).trans rfl
 | j + 1, n + 1, hj, h => by
  have hlt : j < v.length := by omega
  have d1 : decide ((j : Int) < ((v.length : Nat) : Int)) = true := decide_eq_true (by omega)
  have d0 : decide ((0 : Int) ≤ ((j : Nat) : Int)) = true := decide_eq_true (by omega)
  have e1 : (((j + 1 : Nat) : Int) - 1) = (j : Int) := by omega
  have ok := ho _ (List.getElem_mem hlt)
  have hn := A7 (Kg ok).1
  rw [Ia]
  unfold G2; (try dsimp only [Ax])
  rw [e1, i64_in ((j : Int) - 1) (by omega), Ap v j hlt, Xn9 k v w hl hr ho hw j n (by omega) (by omega), List.take_add_one, List.getElem?_eq_getElem hlt]
  refine (ct (decide_eq_true (by omega))).trans ((bs hr).trans ((ct rfl).trans ((ct d0).trans ((ct d1).trans ((bs (Xyj k ok hw)).trans ?_)))))
  rw [Option.toList_some, List.reverse_append, List.reverse_singleton, List.singleton_append, Rt.B6]
  rw [show decide (@LT.lt Int _ v[j].2.1 17) = true from decide_eq_true (by omega), Bool.true_and]
  cases Rt.Vm w v[j] with
  | true => exact (ct rfl).trans ((ct d0).trans ((ct d1).trans rfl))
  | false => rfl
theorem Xzu (k : Nat) (v : rtL) (w : Int) (hl : v.length ≤ 8) (hr : F202 k v = some true) (ho : ∀ r ∈ v, okR r = true) (hw : inB w 0 65535 = true) (hk : 1048576 < k) : Xmg k v w = some (Rt.B6 w 17 v.reverse) := by
 have := Xn9 k v w (by omega) hr ho hw v.length k (Nat.le_refl _) (by omega)
 rw [List.take_length] at this
 unfold Xmg Xai; (try dsimp only)
 rw [i64_in ((v.length : Int) - 1) (by omega)]
 exact this
theorem Xf9 (k : Nat) (v : rtL) (w : Int) (hl : v.length ≤ 8) (ho : ∀ r ∈ v, okR r = true) : F74 k v w 17 = some (Rt.B6 w 17 v.reverse) := by
 unfold F74 Rt.to; (try dsimp only)
 refine ct ?_
 rw [Bool.and_eq_true]
 refine ⟨List.all_eq_true.2 fun r hr => ?_, decide_eq_true (by omega)⟩
 exact (Kg (ho r hr)).1
theorem N3 (w p : Int) : ∀ {l : rtL}, (Rt.B6 w p l).2 = true → (Rt.B6 w p l).1 ∈ l
 | [], h => by cases h
 | r :: l, h => by
  rw [Rt.B6] at h ⊢
  cases hc : (decide (@LT.lt Int _ r.2.1 p) && Rt.Vm w r) with
  | true => rw [hc] at h; exact List.mem_cons_self ..
  | false => rw [hc] at h; exact List.mem_cons_of_mem _ (N3 w p h)
def I6 (v0 v1 v2 v3 v4 : Int) (v7 : Bool) (a : Int) (m : Bool) (d : A4) : den Ai := (v0, v1, v2, v3, v4, a, m, v7, d)
def C4 (g : Int → Bool → A4 → den Ai) (N : Nat) (f : Bool) : Nat → Int → A4 → Cz
 | 0, _, _ => []
 | c + 1, a, d => if d.length ≤ N then [g a f d] else g a true (d.take N) :: C4 g N f c (a + (N : Int)) (d.drop N)
def Dr (N : Nat) : Nat → Int → A4 → Int
 | 0, a, _ => a
 | c + 1, a, d => if d.length ≤ N then a else Dr N c (a + (N : Int)) (d.drop N)
theorem S4 (N : Nat) : ∀ (c : Nat) (a : Int) (d : A4), a ≤ Dr N c a d
 | 0, a, d => Int.le_refl _
 | c + 1, a, d => by
  rw [Dr]
  split
  ·exact Int.le_refl _
  ·have := S4 N c (a + (N : Int)) (d.drop N)
   omega
theorem Xdr (N : Nat) : ∀ (c : Nat) (a : Int) (d : A4), Dr N c a d ≤ a + (d.length : Int)
 | 0, a, d => by rw [Dr]; omega
 | c + 1, a, d => by
  rw [Dr]
  split
  ·omega
  ·have := Xdr N c (a + (N : Int)) (d.drop N)
   rw [List.length_drop] at this
   omega
def Mj (g : Int → Bool → A4 → den Ai) (N : Nat) (f : Bool) (m : Cz) (c : Nat) (a : Int) (d : A4) : Cz × Bool := cond (decide (Dr N c a d > 255)) ([], false) (m ++ C4 g N f c a d, true)
theorem win (l : A4) (x N : Nat) : (l.take (x + min N (l.length - x))).drop x = (l.drop x).take N := by
 rw [List.drop_take, Nat.add_sub_cancel_left]
 by_cases h : N ≤ l.length - x
 ·rw [Nat.min_eq_left h]
 ·rw [Nat.min_eq_right (by omega), List.take_of_length_le (by rw [List.length_drop]; omega), List.take_of_length_le (by rw [List.length_drop]; omega)]
theorem Xph (k : Nat) (v0 v1 v2 v3 v4 v5 : Int) (v6 v7 : Bool) (v8 : A4) (N : Nat) (h5 : 0 ≤ v5 ∧ v5 ≤ 255) (h8 : v8.length ≤ 48) (hN : 1 ≤ N ∧ N ≤ 48) : ∀ (c n x : Nat) (m : Cz), x = 0 ∨ x < v8.length → v8.length - x < c → c < n → m.length + c ≤ 200 →
  Ew k (v0, v1, v2, v3, v4, v5, v6, v7, v8) (N : Int) n (x : Int) m = some (Mj (I6 v0 v1 v2 v3 v4 v7) N v6 m c (v5 + (x : Int)) (v8.drop x))
 | 0, _, _, _, _, h, _, _ => by omega
 | _, 0, _, _, _, _, h, _ => by omega
 | c + 1, n + 1, x, m, hx, hc, hn, hm => by
  have hxl : x ≤ v8.length := by omega
  rw [Ew]
  unfold Hn; (try dsimp only)
  have step : Fu k (v0, v1, v2, v3, v4, v5, v6, v7, v8) (N : Int) (Ew k (v0, v1, v2, v3, v4, v5, v6, v7, v8) (N : Int) n) some (x : Int) m = some (Mj (I6 v0 v1 v2 v3 v4 v7) N v6 m (c + 1) (v5 + (x : Int)) (v8.drop x)) := by
   have hme : (if ((v8.length : Nat) : Int) < (x : Int) + (N : Int) then ((v8.length : Nat) : Int) else (x : Int) + (N : Int)) = ((x + min N (v8.length - x) : Nat) : Int) := by split <;> omega
   have hd : (v8.drop x).length = v8.length - x := List.length_drop
   have g1 : (decide ((0 : Int) ≤ ((x + min N (v8.length - x) : Nat) : Int)) && decide (((x + min N (v8.length - x) : Nat) : Int) ≤ ((v8.length : Nat) : Int))) = true := by rw [decide_eq_true (by omega), decide_eq_true (by omega)]; rfl
   have g2 : (decide ((0 : Int) ≤ (x : Int)) && decide ((x : Int) ≤ ((x + min N (v8.length - x) : Nat) : Int))) = true := by rw [decide_eq_true (by omega), decide_eq_true (by omega)]; rfl
   have g3 : decide ((([] : A4).length + ((v8.drop x).take N).length) * 1 ≤ 140737488355328) = true := decide_eq_true (by rw [List.length_take, hd, List.length_nil]; omega)
   have g4 : decide ((m.length + 1) * 80 ≤ 140737488355328) = true := decide_eq_true (by omega)
   have lg := S4 N (c + 1) (v5 + (x : Int)) (v8.drop x)
   have nx : ∀ b : Bool, b = (if (v8.drop x).length ≤ N then v6 else true) → ¬ v5 + (x : Int) > 255 → Ew k (v0, v1, v2, v3, v4, v5, v6, v7, v8) (N : Int) n ((x : Int) + (N : Int)) (m ++ [I6 v0 v1 v2 v3 v4 v7 (v5 + (x : Int)) b ((v8.drop x).take N)]) = some (Mj (I6 v0 v1 v2 v3 v4 v7) N v6 m (c + 1) (v5 + (x : Int)) (v8.drop x)) := fun b hb ha => by
    have e1 : (x : Int) + (N : Int) = ((x + N : Nat) : Int) := by omega
    rw [e1]
    by_cases hlast : (v8.drop x).length ≤ N
    ·rw [if_pos hlast] at hb
     obtain ⟨n', rfl⟩ : ∃ n', n = n' + 1 := ⟨n - 1, by omega⟩
     rw [Ew]
     unfold Hn; (try dsimp only)
     refine (cf (beq_eq_false_iff_ne.2 (by omega))).trans ((cf (decide_eq_false (by omega))).trans ?_)
     unfold Mj
     rw [Dr, if_pos hlast, C4, if_pos hlast, decide_eq_false ha, List.take_of_length_le hlast, hb]
     rfl
    ·rw [if_neg hlast] at hb
     have := Xph k v0 v1 v2 v3 v4 v5 v6 v7 v8 N h5 h8 hN c n (x + N) (m ++ [I6 v0 v1 v2 v3 v4 v7 (v5 + (x : Int)) b ((v8.drop x).take N)]) (.inr (by omega)) (by omega) (by omega) (by rw [List.length_append, List.length_singleton]; omega)
     rw [this]
     unfold Mj
     rw [Dr, if_neg hlast, C4, if_neg hlast, hb, List.drop_drop, List.append_assoc, List.singleton_append]
     rw [show v5 + ((x + N : Nat) : Int) = v5 + (x : Int) + (N : Int) by omega]
   unfold Fu; (try dsimp only [Be, Az])
   rw [i64_in ((x : Int) + (N : Int)) (by omega), hme, i64_in (v5 + (x : Int)) (by omega), Int.toNat_natCast, Int.toNat_natCast, win, List.nil_append, List.length_singleton]
   by_cases ha : v5 + (x : Int) > 255
   ·have Pa : some (([] : Cz), false) = some (Mj (I6 v0 v1 v2 v3 v4 v7) N v6 m (c + 1) (v5 + (x : Int)) (v8.drop x)) := by
     unfold Mj
     rw [decide_eq_true (by omega : Dr N (c + 1) (v5 + (x : Int)) (v8.drop x) > 255)]
     rfl
    cases v6 with
    | true => exact (ct rfl).trans ((ct g1).trans ((ct g2).trans ((ct g3).trans ((ct (decide_eq_true ha)).trans Pa))))
    | false => exact (cf rfl).trans ((ct g1).trans ((ct g2).trans ((ct g3).trans ((ct (decide_eq_true ha)).trans Pa))))
   ·cases v6 with
    | true => exact (ct rfl).trans ((ct g1).trans ((ct g2).trans ((ct g3).trans ((cf (decide_eq_false ha)).trans ((ct g4).trans (nx true (by split <;> rfl) ha))))))
    | false =>
     refine (cf rfl).trans ((ct g1).trans ((ct g2).trans ((ct g3).trans ((cf (decide_eq_false ha)).trans ((ct g4).trans (nx _ ?_ ha))))))
     by_cases hlast : (v8.drop x).length ≤ N
     ·rw [if_pos hlast]; exact decide_eq_false (by omega)
     ·rw [if_neg hlast]; exact decide_eq_true (by omega)
  rcases hx with h0 | h0
  ·subst h0
   exact (ct rfl).trans step
  ·by_cases hz : x = 0
   ·subst hz
    exact (ct rfl).trans step
   ·exact (cf (beq_eq_false_iff_ne.2 (by omega))).trans ((ct (decide_eq_true (by omega))).trans step)
theorem Xxa (k : Nat) {v0 v1 v2 v3 v4 v5 : Int} {v6 v7 : Bool} {v8 : A4} {N : Nat} (h : Lj (v0, v1, v2, v3, v4, v5, v6, v7, v8) = true) (hN : 1 ≤ N ∧ N ≤ 48) (h7 : v7 = true → v8.length ≤ N) (hk : 1048576 < k) :
  Xcn k (v0, v1, v2, v3, v4, v5, v6, v7, v8) (N : Int) = some (Mj (I6 v0 v1 v2 v3 v4 v7) N v6 [] 50 v5 v8) := by
 obtain ⟨_, _, _, _, _, h5, h8, _⟩ := C1 h
 have := Xph k v0 v1 v2 v3 v4 v5 v6 v7 v8 N h5 h8 hN 50 k 0 [] (.inl rfl) (by omega) (by omega) (by simp)
 rw [List.drop_zero, show v5 + ((0 : Nat) : Int) = v5 by omega] at this
 unfold Xcn Xap; (try dsimp only)
 refine (bs (C2 k _)).trans ?_
 rw [h]
 refine (cf rfl).trans ((bs (Bj k _ _ _)).trans ?_)
 rw [B4 (show 1 ≤ (N : Int) ∧ (N : Int) ≤ 48 by omega)]
 refine (cf rfl).trans ?_
 by_cases c : (v8.length : Int) > (N : Int)
 ·refine (ct (decide_eq_true c)).trans ?_
  cases v7 with
  | true => have := h7 rfl; omega
  | false => exact (cf rfl).trans this
 ·exact (cf (decide_eq_false c)).trans this
theorem Xku (k : Nat) (l : Cz) : Xck k l = some l := by
 unfold Xck Yy; (try dsimp only)
 rw [decide_eq_true (by omega : (0 : Int) ≤ ((l.length : Nat) : Int)), decide_eq_true (Int.le_refl _)]
 simp
theorem Xs8 (k : Nat) (v0 v1 v2 v3 v4 v5 : Int) (v6 : Bool) (v8 : A4) (N : Nat) (hN : 1 ≤ N) : ∀ (c : Nat) (d : A4) (m : Cz) (a : Int), d ≠ [] → d.length < c → m.length + c ≤ 200 → 0 ≤ a ∧ a + (d.length : Int) ≤ 1000 →
  Gj k (v0, v1, v2, v3, v4, v5, v6, false, v8) (N : Int) (Cc N d) m a = some (Mj (I6 v0 v1 v2 v3 v4 false) N v6 m c a d)
 | 0, _, _, _, _, h, _, _ => by omega
 | c + 1, d, m, a, h0, hc, hm, ha => by
  rw [J7 hN d h0, Gj]
  try dsimp only [Az]
  have htl : (d.take N).length = min N d.length := List.length_take
  refine (bs (K7 k (d.take N) (by omega))).trans ((ct (decide_eq_true (by rw [List.length_singleton]; omega))).trans ?_)
  by_cases hlast : d.length ≤ N
  ·have e0 : d.drop N = [] := List.drop_eq_nil_of_le hlast
   have e1 : d.take N = d := List.take_of_length_le hlast
   rw [e0, Me hN, e1, Gj]
   have hl : (m ++ [(v0, v1, v2, v3, v4, a, true, false, d)]).length = m.length + 1 := by rw [List.length_append, List.length_singleton]
   have hi : IntKind.i64.wrap (((m ++ [(v0, v1, v2, v3, v4, a, true, false, d)]).length : Int) - 1) = ((m.length : Nat) : Int) := by rw [hl, i64_in _ (by omega)]; omega
   have hg : Ad (t := Ai) (m ++ [(v0, v1, v2, v3, v4, a, true, false, d)]) ((m.length : Nat) : Int) = (v0, v1, v2, v3, v4, a, true, false, d) := by rw [Ap _ m.length (by rw [hl]; omega)]; simp
   have hset : (m ++ [(v0, v1, v2, v3, v4, a, true, false, d)]).set m.length (v0, v1, v2, v3, v4, a, v6, false, d) = m ++ [I6 v0 v1 v2 v3 v4 false a v6 d] := by simp [I6]
   have hg2 : Ad (t := Ai) (m ++ [I6 v0 v1 v2 v3 v4 false a v6 d]) ((m.length : Nat) : Int) = I6 v0 v1 v2 v3 v4 false a v6 d := by rw [Ap _ m.length (by rw [List.length_append, List.length_singleton]; omega)]; simp
   try dsimp only
   rw [hi, hg, Int.toNat_natCast]
   refine (ct (decide_eq_true (by omega))).trans ((ct (decide_eq_true (by rw [hl]; omega))).trans ((bs (congrArg some hset)).trans ((cf rfl).trans ?_)))
   rw [hg2]
   unfold Mj
   rw [Dr, if_pos hlast, C4, if_pos hlast]
   by_cases c2 : a > 255
   ·rw [decide_eq_true c2]
    exact (ct (decide_eq_true c2)).trans rfl
   ·rw [decide_eq_false c2]
    exact (cf (decide_eq_false c2)).trans ((bs (Xku k _)).trans rfl)
  ·have hdl : (d.drop N).length = d.length - N := List.length_drop
   have hne : d.drop N ≠ [] := by
    intro e
    rw [e] at hdl
    simp at hdl
    omega
   have ea : IntKind.i64.wrap (a + ((d.take N).length : Int)) = a + (N : Int) := by rw [htl, i64_in _ (by omega)]; omega
   rw [ea, Xs8 k v0 v1 v2 v3 v4 v5 v6 v8 N hN c (d.drop N) _ _ hne (by omega) (by rw [List.length_append, List.length_singleton]; omega) (by omega)]
   unfold Mj
   rw [Dr, if_neg hlast, C4, if_neg hlast, List.append_assoc, List.singleton_append]
   rfl
theorem H9 (k : Nat) (p : den Ai) (hl : p.2.2.2.2.2.2.2.2.length ≤ 1048576) : Se k p = some p := by
 unfold Se; (try dsimp only [Az])
 exact (bs (K7 k _ (by omega))).trans rfl
theorem Oe (k : Nat) (p : den Ai) (hl : p.2.2.2.2.2.2.2.2.length ≤ 1048576) : N0 k p = some p := by
 unfold N0; (try dsimp only [Be, Az])
 refine (ct (decide_eq_true (by rw [List.length_nil]; omega))).trans ?_
 rw [List.nil_append]
theorem Xkz (k : Nat) {v0 v1 v2 v3 v4 v5 : Int} {v6 v7 : Bool} {v8 : A4} {N : Nat} (h : Lj (v0, v1, v2, v3, v4, v5, v6, v7, v8) = true) (hN : 1 ≤ N ∧ N ≤ 48) (h7 : v7 = true → v8.length ≤ N) :
  Xdj k (v0, v1, v2, v3, v4, v5, v6, v7, v8) (N : Int) = some (Mj (I6 v0 v1 v2 v3 v4 v7) N v6 [] 50 v5 v8) := by
 obtain ⟨_, _, _, _, _, h5, h8, _⟩ := C1 h
 unfold Xdj; (try dsimp only)
 by_cases c : v8.length ≤ N
 ·refine (ct (decide_eq_true (by omega))).trans ((bs (H9 k _ (show v8.length ≤ 1048576 by omega))).trans ?_)
  unfold Mj
  rw [Dr, if_pos c, C4, if_pos c, decide_eq_false (by omega : ¬ v5 > 255)]
  rfl
 ·have e7 : v7 = false := by
   cases v7 with
   | false => rfl
   | true => exact absurd (h7 rfl) c
  subst e7
  refine (cf (decide_eq_false (by omega))).trans ((ct ?_).trans ?_)
  ·rw [decide_eq_true (by omega : (1 : Int) ≤ (N : Int)), decide_eq_true (by omega : (N : Int) ≤ 9223372036854775807), decide_eq_true (show v8.length ≤ 140737488355328 by omega)]; rfl
  ·rw [Int.toNat_natCast]
   exact Xs8 k v0 v1 v2 v3 v4 v5 v6 v8 N hN.1 50 v8 [] v5 (fun e => c (by rw [e]; simp)) (by omega) (by simp) (by omega)
end Go.Proofs.YtdmepjjepogddaaGreat.Gn
end

section
namespace Go.Proofs.YtdmepjjepogddaaGreat.Gn
open Go.Rf Go.IntWalk
set_option linter.unusedVariables false
set_option linter.unusedSimpArgs false
def wl (n : Nat) : Int := if n = 0 then 1 else (n : Int)
def wt (p : den Ai) : Int := wl p.2.2.2.2.2.2.2.2.length * ((p.2.2.2.1 : Int) + 1)
theorem Xrk (n : Nat) : 1 ≤ wl n := by unfold wl; split <;> omega
theorem Xdi (v0 v1 v2 v3 v4 : Int) (v7 : Bool) {N : Nat} (hN : 1 ≤ N) (f : Bool) : ∀ (c : Nat) (a : Int) (d : A4), d.length < c → I2 wt (C4 (I6 v0 v1 v2 v3 v4 v7) N f c a d) = wl d.length * (v3 + 1)
 | 0, _, _, h => by omega
 | c + 1, a, d, h => by
  rw [C4]
  by_cases hl : d.length ≤ N
  ·rw [if_pos hl]
   simp only [I2]
   show wl d.length * (v3 + 1) + 0 = _
   omega
  ·rw [if_neg hl]
   have hd : (d.drop N).length = d.length - N := List.length_drop
   have ht : (d.take N).length = N := by rw [List.length_take]; omega
   simp only [I2]
   rw [Xdi v0 v1 v2 v3 v4 v7 hN f c (a + (N : Int)) (d.drop N) (by omega)]
   show wl (d.take N).length * (v3 + 1) + _ = _
   rw [ht, hd, ← Int.add_mul]
   congr 1
   unfold wl
   split <;> split <;> split <;> omega
theorem Xbl (g : Int → Bool → A4 → den Ai) {N : Nat} (hN : 1 ≤ N) (f : Bool) {p : den Ai} : ∀ (c : Nat) (a : Int) (d : A4), p ∈ C4 g N f c a d → ∃ a' m d', p = g a' m d' ∧ a ≤ a' ∧ a' ≤ Dr N c a d ∧ d'.length ≤ d.length ∧ (d ≠ [] → d' ≠ []) ∧ (m = f ∨ d' ≠ []) ∧ (∀ x ∈ d', x ∈ d)
 | 0, _, _, h => by simp [C4] at h
 | c + 1, a, d, h => by
  rw [C4] at h
  rw [Dr]
  by_cases hl : d.length ≤ N
  ·rw [if_pos hl] at h ⊢
   obtain rfl := List.mem_singleton.1 h
   exact ⟨a, f, d, rfl, Int.le_refl _, Int.le_refl _, Nat.le_refl _, id, .inl rfl, fun x hx => hx⟩
  ·rw [if_neg hl] at h ⊢
   have hd : (d.drop N).length = d.length - N := List.length_drop
   have ht : (d.take N).length = N := by rw [List.length_take]; omega
   have hge := S4 N c (a + (N : Int)) (d.drop N)
   rcases List.mem_cons.1 h with e | h
   ·have hne : d.take N ≠ [] := fun e => by rw [e] at ht; simp at ht; omega
    exact ⟨a, true, d.take N, e, Int.le_refl _, by omega, by omega, fun _ => hne, .inr hne, fun x hx => List.mem_of_mem_take hx⟩
   ·have hne : d.drop N ≠ [] := fun e => by rw [e] at hd; simp at hd; omega
    obtain ⟨a', m, d', h1, h2, h3, h4, h5, h6, h7⟩ := Xbl g hN f c (a + (N : Int)) (d.drop N) h
    exact ⟨a', m, d', h1, by omega, h3, by omega, fun _ => h5 hne, h6, fun x hx => List.mem_of_mem_drop (h7 x hx)⟩
def Oc (p : den Ai) : den Ai := (p.1, p.2.1, p.2.2.1, IntKind.i64.wrap ((p.2.2.2.1 : Int) - 1), p.2.2.2.2)
theorem Tt {v3 : Int} (h3 : 0 ≤ v3 ∧ v3 ≤ 255) (v0 v1 v2 v4 : Int) (v7 : Bool) (N : Nat) (f : Bool) : ∀ (c : Nat) (a : Int) (d : A4), (C4 (I6 v0 v1 v2 v3 v4 v7) N f c a d).map Oc = C4 (I6 v0 v1 v2 (v3 - 1) v4 v7) N f c a d
 | 0, _, _ => rfl
 | c + 1, a, d => by
  have e : ∀ (a : Int) (m : Bool) (d : A4), Oc (I6 v0 v1 v2 v3 v4 v7 a m d) = I6 v0 v1 v2 (v3 - 1) v4 v7 a m d := fun a m d => by
   show (v0, v1, v2, IntKind.i64.wrap (v3 - 1), v4, a, m, v7, d) = _
   rw [i64_in (v3 - 1) (by omega)]
   rfl
  rw [C4, C4]
  split
  ·rw [List.map_cons, e]; rfl
  ·rw [List.map_cons, e, Tt h3 v0 v1 v2 v4 v7 N f c]
theorem Xf1 (k : Nat) (s : den sta) (w : den Ai) (z : den Ci) : ∀ (n : Nat) (d r : Cz), d.length + r.length ≤ 1000 → r.length < n → Er k s w n ((d.length + r.length : Nat) : Int) (d.length : Int) z (d ++ r) = some ((2 : Int), (z.2.2.1 : Int), d ++ r.map Oc)
 | 0, _, _, _, h => by omega
 | n + 1, d, [], hl, h => by
  rw [Er]
  unfold Hg; (try dsimp only [Ax])
  simp
 | n + 1, d, p :: r, hl, h => by
  rw [Er]
  unfold Hg; (try dsimp only [Ax])
  rw [List.length_cons] at hl h
  have hj : d.length < (d ++ p :: r).length := by simp
  have hg : Ad (t := Ai) (d ++ p :: r) (d.length : Int) = p := by rw [Ap _ d.length hj]; simp
  have hset : (d ++ p :: r).set d.length (Oc p) = (d ++ [Oc p]) ++ r := by simp
  have ih := Xf1 k s w z n (d ++ [Oc p]) r (by simp; omega) (by omega)
  have e1 : (((d ++ [Oc p]).length + r.length : Nat) : Int) = ((d.length + (p :: r).length : Nat) : Int) := by simp; omega
  have e2 : ((d ++ [Oc p]).length : Int) = ((d.length + 1 : Nat) : Int) := by simp
  rw [e1, e2] at ih
  rw [hg, Gv d.length (by omega), Int.toNat_natCast]
  refine (ct (decide_eq_true (by simp only [List.length_cons]; omega))).trans ?_
  have d0 : decide ((0 : Int) ≤ (d.length : Int)) = true := decide_eq_true (by omega)
  have d1 : decide ((d.length : Int) < ((d ++ p :: r).length : Int)) = true := decide_eq_true (by omega)
  refine (ct d0).trans ((ct d1).trans ((ct d0).trans ((ct d1).trans ?_)))
  refine (congrArg (fun l => Er k s w n ((d.length + (p :: r).length : Nat) : Int) ((d.length + 1 : Nat) : Int) z l) hset).trans (ih.trans ?_)
  rw [List.map_cons, List.append_assoc, List.singleton_append]
def Xz2 (p : den Ai) (d : den Sd) : Prop :=
 (@Eq Int d.1 0 ∧ d.2.2 = []) ∨ (@Eq Int d.1 1 ∧ d.2.2 = [p]) ∨ (@Eq Int d.1 3 ∧ ∃ n : den Ai, d.2.2 = [n] ∧ n.2.2.2.2.2.2.2.2.length ≤ 1048576) ∨
  (@Eq Int d.1 2 ∧ (∀ r ∈ d.2.2, Lj r = true ∧ BOk r.2.2.2.2.2.2.2.2) ∧ I2 wt d.2.2 + 1 ≤ wt p ∧ d.2.2.length ≤ 50)
theorem Jp (p : den Ai) (v0 v1 v2 v3 v4 v5 : Int) (v6 v7 : Bool) (v8 : A4) (w a b : Int) : Xz2 p (Ji (Vu v0 v1 v2 v3 v4 v5 v6 v7 v8 w a b)) := by
 unfold Vu
 cases (!Mb v2 v8 && @BEq.beq Int _ v5 0) with
 | false => exact .inl ⟨rfl, rfl⟩
 | true =>
  refine .inr (.inr (.inl ⟨rfl, _, rfl, ?_⟩))
  show (noB a b ((pkB v0 v1 v2 v3 v4 v5 v6 v7 v8).take 20)).length ≤ _
  cases ho : Xn a b ((pkB v0 v1 v2 v3 v4 v5 v6 v7 v8).take 20).length with
  | false => unfold noB; rw [ho]; simp
  | true => have := Xa8 ho; omega
theorem Kd (g : Int → Bool → A4 → den Ai) (N : Nat) (f : Bool) : ∀ (c : Nat) (a : Int) (d : A4), (C4 g N f c a d).length ≤ c
 | 0, _, _ => Nat.le_refl _
 | c + 1, a, d => by
  rw [C4]
  split
  ·simp
  ·have := Kd g N f c (a + (N : Int)) (d.drop N)
   rw [List.length_cons]
   omega
theorem Xof {v0 v1 v2 v3 v4 v5 : Int} {v6 v7 : Bool} {v8 : A4} {N : Nat} (h : Lj (v0, v1, v2, v3, v4, v5, v6, v7, v8) = true) (hb : BOk v8) (hN : 1 ≤ N ∧ N ≤ 48) (h7 : v7 = true → v8.length ≤ N) (h3 : ¬ v3 < 2) (gw : Int) (ha : ¬ Dr N 50 v5 v8 > 255) :
  Xz2 (v0, v1, v2, v3, v4, v5, v6, v7, v8) (2, gw, C4 (I6 v0 v1 v2 (v3 - 1) v4 v7) N v6 50 v5 v8) := by
 obtain ⟨q0, q1, q2, q3, q4, q5, q6, q7, q8⟩ := C1 h
 refine .inr (.inr (.inr ⟨rfl, fun r hr => ?_, ?_, Kd _ _ _ _ _ _⟩))
 ·cases v7 with
  | true =>
   have hr : r ∈ C4 (I6 v0 v1 v2 (v3 - 1) v4 true) N v6 50 v5 v8 := hr
   rw [C4, if_pos (h7 rfl)] at hr
   obtain rfl := List.mem_singleton.1 hr
   exact ⟨Na q0 q1 q2 (by omega) q4 q5 q6 q7 q8, hb⟩
  | false =>
   obtain ⟨a', m, d', rfl, e1, e2, e3, e4, e5, e6⟩ := Xbl (I6 v0 v1 v2 (v3 - 1) v4 false) hN.1 v6 50 v5 v8 hr
   refine ⟨Na q0 q1 q2 (by omega) q4 (by omega) (by omega) (fun hm => ?_) (fun e => by cases e), fun x hx => hb x (e6 x hx)⟩
   refine List.length_pos_iff.2 ?_
   rcases e5 with e5 | e5
   ·exact e4 (List.length_pos_iff.1 (q7 (e5.symm.trans hm)))
   ·exact e5
 ·show I2 wt (C4 (I6 v0 v1 v2 (v3 - 1) v4 v7) N v6 50 v5 v8) + 1 ≤ wl v8.length * (v3 + 1)
  rw [Xdi v0 v1 v2 (v3 - 1) v4 v7 hN.1 v6 50 v5 v8 (by omega)]
  have := Xrk v8.length
  rw [show v3 - 1 + 1 = v3 by omega, Int.mul_add, Int.mul_one]
  omega
theorem fwd (q : Nat) {s : den sta} (hs : StaOk (q + 4) s) {v0 v1 v2 v3 v4 v5 : Int} {v6 v7 : Bool} {v8 : A4} (h : Lj (v0, v1, v2, v3, v4, v5, v6, v7, v8) = true) (hb : BOk v8) (hk : 1048576 < q + 4) :
  ∃ d : den Sd, Xim (q + 4) s (v0, v1, v2, v3, v4, v5, v6, v7, v8) = some d ∧ Xa2 (q + 4) s (v0, v1, v2, v3, v4, v5, v6, v7, v8) = some d ∧ Xz2 (v0, v1, v2, v3, v4, v5, v6, v7, v8) d := by
 obtain ⟨q0, q1, q2, q3, q4, q5, q6, q7, q8⟩ := C1 h
 have hp : Ha (q + 4) (v0, v1, v2, v3, v4, v5, v6, v7, v8) = some true := by rw [C2, h]
 have h58 := H9 (q + 4) (v0, v1, v2, v3, v4, v5, v6, v7, v8) (show v8.length ≤ 1048576 by omega)
 have h39 := Oe (q + 4) (v0, v1, v2, v3, v4, v5, v6, v7, v8) (show v8.length ≤ 1048576 by omega)
 have sg := fun (a b : Int) (ha : 3 ≤ a ∧ a ≤ 6) (hb2 : 0 ≤ b ∧ b ≤ 65535) => Xz9 (Xxh q h hb hk hs.at1 ha hb2)
 have ig := fun (a b : Int) (ha : 3 ≤ a ∧ a ≤ 6) (hb2 : 0 ≤ b ∧ b ≤ 65535) => Xkm (Xjb q h hb hk hs.at1 ha hb2)
 unfold Xim Z6 Xa2 S3; (try dsimp only)
 rw [hs.st, hp]
 by_cases c1 : v1 = s.1
 ·have b1 : (v1 == s.1) = true := beq_iff_eq.2 c1
  exact ⟨(1, 0, [(v0, v1, v2, v3, v4, v5, v6, v7, v8)]), (bs rfl).trans ((cf rfl).trans ((bs rfl).trans ((cf rfl).trans ((ct b1).trans ((bs h39).trans rfl))))), (ct b1).trans ((bs h58).trans rfl), .inr (.inl ⟨rfl, rfl⟩)⟩
 have b1 : (v1 == s.1) = false := beq_eq_false_iff_ne.2 c1
 by_cases c2 : v3 < 2
 ·have b2 : decide (v3 < 2) = true := decide_eq_true c2
  exact ⟨_, (bs rfl).trans ((cf rfl).trans ((bs rfl).trans ((cf rfl).trans ((cf b1).trans ((ct b2).trans ((bs (sg 4 0 (by omega) (by omega))).trans rfl)))))), (cf b1).trans ((ct b2).trans ((bs (ig 4 0 (by omega) (by omega))).trans rfl)), Jp _ _ _ _ _ _ _ _ _ _ _ _ _⟩
 have b2 : decide (v3 < 2) = false := decide_eq_false c2
 have fs := Xzu (q + 4) s.2 v1 hs.len hs.rs hs.ok (B4 q1) hk
 have fi := Xf9 (q + 4) s.2 v1 hs.len hs.ok
 have fm := N3 v1 17 (l := s.2.reverse)
 generalize Rt.B6 v1 17 s.2.reverse = r at fs fi fm
 obtain ⟨r, fd⟩ := r
 cases fd with
 | false =>
  exact ⟨_, (bs rfl).trans ((cf rfl).trans ((bs rfl).trans ((cf rfl).trans ((cf b1).trans ((cf b2).trans ((bs fs).trans ((ct rfl).trans ((bs (sg 3 0 (by omega) (by omega))).trans rfl)))))))), (cf b1).trans ((cf b2).trans ((bs fi).trans ((ct rfl).trans ((bs (ig 3 0 (by omega) (by omega))).trans rfl)))), Jp _ _ _ _ _ _ _ _ _ _ _ _ _⟩
 | true =>
  have hm := List.mem_reverse.1 (fm rfl)
  obtain ⟨r0, r1, gw, mtu⟩ := r
  have hmtu : @LE.le Int _ 1 mtu ∧ @LE.le Int _ mtu 48 := A7 (Kg (hs.ok _ hm)).2.2.2
  obtain ⟨N, hN⟩ : ∃ N : Nat, mtu = (N : Int) := ⟨Int.toNat mtu, (Int.toNat_of_nonneg (by omega)).symm⟩
  subst hN
  have hN : 1 ≤ N ∧ N ≤ 48 := by omega
  have w3 : IntKind.i64.wrap (v3 - 1) = v3 - 1 := i64_in _ (by omega)
  have hok' : Lj (v0, v1, v2, v3 - 1, v4, v5, v6, v7, v8) = true := Na q0 q1 q2 (by omega) q4 q5 q6 q7 q8
  have sj : (v7 = true → v8.length ≤ N) → ∃ d : den Sd, Nr (q + 4) s (v0, v1, v2, v3, v4, v5, v6, v7, v8) some ((r0, r1, gw, (N : Int)), true) = some d ∧ (Xdj (q + 4) (v0, v1, v2, v3, v4, v5, v6, v7, v8) (N : Int)).bind (fun b6 => cond (!b6.2) (some ((0 : Int), (0 : Int), ([] : Cz))) (Er (q + 4) s (v0, v1, v2, v3, v4, v5, v6, v7, v8) (q + 4) (b6.1.length : Int) 0 (r0, r1, gw, (N : Int)) b6.1)) = some d ∧ Xz2 (v0, v1, v2, v3, v4, v5, v6, v7, v8) d := fun h7 => by
   have e1 := Xxa (q + 4) hok' hN h7 hk
   have e2 := Xkz (q + 4) h hN h7
   unfold Nr; (try dsimp only)
   unfold Mj at e1 e2
   by_cases ha : Dr N 50 v5 v8 > 255
   ·rw [decide_eq_true ha] at e1 e2
    refine ⟨(0, 0, []), (bs h39).trans ?_, (bs e2).trans rfl, .inl ⟨rfl, rfl⟩⟩
    show (Xcn (q + 4) (v0, v1, v2, IntKind.i64.wrap (v3 - 1), v4, v5, v6, v7, v8) (N : Int)).bind _ = _
    rw [w3]
    exact (bs e1).trans rfl
   ·rw [decide_eq_false ha] at e1 e2
    refine ⟨(2, gw, C4 (I6 v0 v1 v2 (v3 - 1) v4 v7) N v6 50 v5 v8), (bs h39).trans ?_, (bs e2).trans ?_, Xof h hb hN h7 c2 gw ha⟩
    ·show (Xcn (q + 4) (v0, v1, v2, IntKind.i64.wrap (v3 - 1), v4, v5, v6, v7, v8) (N : Int)).bind _ = _
     rw [w3]
     exact (bs e1).trans rfl
    ·have hl := Kd (I6 v0 v1 v2 v3 v4 v7) N v6 50 v5 v8
     have := Xf1 (q + 4) s (v0, v1, v2, v3, v4, v5, v6, v7, v8) (r0, r1, gw, (N : Int)) (q + 4) [] (C4 (I6 v0 v1 v2 v3 v4 v7) N v6 50 v5 v8) (by simp; omega) (by omega)
     simp only [List.nil_append, List.length_nil, Nat.zero_add] at this
     rw [Tt q3] at this
     exact (cf rfl).trans this
  by_cases c3 : (v8.length : Int) > (N : Int)
  ·have b3 : decide ((v8.length : Int) > (N : Int)) = true := decide_eq_true c3
   cases v7 with
   | true =>
    exact ⟨_, (bs rfl).trans ((cf rfl).trans ((bs rfl).trans ((cf rfl).trans ((cf b1).trans ((cf b2).trans ((bs fs).trans ((cf rfl).trans ((ct b3).trans ((ct rfl).trans ((bs (sg 6 (N : Int) (by omega) (by omega))).trans rfl)))))))))), (cf b1).trans ((cf b2).trans ((bs fi).trans ((cf rfl).trans ((ct b3).trans ((ct rfl).trans ((bs (ig 6 (N : Int) (by omega) (by omega))).trans rfl)))))), Jp _ _ _ _ _ _ _ _ _ _ _ _ _⟩
   | false =>
    obtain ⟨d, e1, e2, e3⟩ := sj (fun e => by cases e)
    exact ⟨d, (bs rfl).trans ((cf rfl).trans ((bs rfl).trans ((cf rfl).trans ((cf b1).trans ((cf b2).trans ((bs fs).trans ((cf rfl).trans ((ct b3).trans ((cf rfl).trans e1))))))))), (cf b1).trans ((cf b2).trans ((bs fi).trans ((cf rfl).trans ((ct b3).trans ((cf rfl).trans e2))))), e3⟩
  ·have b3 : decide ((v8.length : Int) > (N : Int)) = false := decide_eq_false c3
   obtain ⟨d, e1, e2, e3⟩ := sj (fun e => by omega)
   exact ⟨d, (bs rfl).trans ((cf rfl).trans ((bs rfl).trans ((cf rfl).trans ((cf b1).trans ((cf b2).trans ((bs fs).trans ((cf rfl).trans ((cf b3).trans e1)))))))), (cf b1).trans ((cf b2).trans ((bs fi).trans ((cf rfl).trans ((cf b3).trans e2)))), e3⟩
end Go.Proofs.YtdmepjjepogddaaGreat.Gn
end

section
namespace Go.Proofs.YtdmepjjepogddaaGreat.Gn
open Go.Rf Go.IntWalk
set_option linter.unusedVariables false
set_option linter.unusedSimpArgs false
abbrev Vy : Type := List (den (.pair (.int .i64) Ai))
def nM (d1 : Int) (l : Cz) (m : den Dg) : den Dg := cond (d1 == 1) (m.1 ++ l, m.2) (cond (d1 == 3) (m.1, m.2.1 ++ l, m.2.2) m)
def nA (d1 t : Int) (n : Nat) (A : Bn) : Bn := cond (d1 == 1) A (cond (d1 == 3) A (cond (decide (t ≥ 0)) (A ++ List.replicate n t) A))
def nR (d1 t : Int) (l : Cz) (R : Cz) : Cz := cond (d1 == 1) R (cond (d1 == 3) R (cond (decide (t ≥ 0)) (R ++ l) R))
theorem Xzl (d1 : Int) (a : den Ai) (l : Cz) (m : den Dg) : nM d1 l (nM d1 [a] m) = nM d1 (a :: l) m := by
 unfold nM
 cases d1 == 1 <;> cases d1 == 3 <;> simp
theorem Xxt (d1 t : Int) (n : Nat) (A : Bn) : nA d1 t n (nA d1 t 1 A) = nA d1 t (n + 1) A := by
 unfold nA
 cases d1 == 1 <;> cases d1 == 3 <;> cases decide (t ≥ 0) <;> simp [List.replicate_succ]
theorem Xzq (d1 t : Int) (a : den Ai) (l : Cz) (R : Cz) : nR d1 t l (nR d1 t [a] R) = nR d1 t (a :: l) R := by
 unfold nR
 cases d1 == 1 <;> cases d1 == 3 <;> cases decide (t ≥ 0) <;> simp
theorem X4e (d1 : Int) (l : Cz) (m : den Dg) : (nM d1 l m).1.length ≤ m.1.length + l.length ∧ (nM d1 l m).2.1.length ≤ m.2.1.length + l.length := by
 unfold nM
 cases d1 == 1 <;> cases d1 == 3 <;> simp
theorem X85 (d1 t : Int) (n : Nat) (A : Bn) : (nA d1 t n A).length ≤ A.length + n := by
 unfold nA
 cases d1 == 1 <;> cases d1 == 3 <;> cases decide (t ≥ 0) <;> simp
theorem X7b (d1 t : Int) (l : Cz) (R : Cz) : (nR d1 t l R).length ≤ R.length + l.length := by
 unfold nR
 cases d1 == 1 <;> cases d1 == 3 <;> cases decide (t ≥ 0) <;> simp
theorem Wi (k : Nat) (v : E0) (w : Int) (p : den Ai) (x t : Int) (d : den Sd) (hl : d.2.2.length ≤ 100) : ∀ (n j : Nat) (m : den Dg) (A : Bn) (R : Cz), j ≤ d.2.2.length → d.2.2.length - j < n → m.1.length + (d.2.2.length - j) ≤ 100000 → m.2.1.length + (d.2.2.length - j) ≤ 100000 → A.length + (d.2.2.length - j) ≤ 100000 → R.length + (d.2.2.length - j) ≤ 100000 →
  Qq k v w p n x t (j : Int) m d A R = some (x, t, (d.2.2.length : Int), d, nM d.1 (d.2.2.drop j) m, nA d.1 t (d.2.2.drop j).length A, nR d.1 t (d.2.2.drop j) R)
 | 0, j, m, A, R, _, h, _, _, _, _ => by omega
 | n + 1, j, m, A, R, hj, h, h1, h2, h3, h4 => by
  rw [Qq]
  unfold Nq; (try dsimp only [Ax, Be])
  rcases Nat.lt_or_ge j d.2.2.length with hlt | hge
  ·have d1 : decide ((j : Int) < ((d.2.2.length : Nat) : Int)) = true := decide_eq_true (by omega)
   have d0 : decide ((0 : Int) ≤ ((j : Nat) : Int)) = true := decide_eq_true (by omega)
   rw [Ap (t := Ai) d.2.2 j hlt, Gv j (by omega), List.drop_eq_getElem_cons hlt]
   have l1 := X4e d.1 [d.2.2[j]] m
   have l2 := X85 d.1 t 1 A
   have l3 := X7b d.1 t [d.2.2[j]] R
   rw [List.length_singleton] at l1 l3
   have ih := Wi k v w p x t d hl n (j + 1) (nM d.1 [d.2.2[j]] m) (nA d.1 t 1 A) (nR d.1 t [d.2.2[j]] R) hlt (by omega) (by omega) (by omega) (by omega) (by omega)
   rw [Xzl, Xxt, Xzq] at ih
   refine Eq.trans ?_ ih
   refine (ct d1).trans ?_
   unfold nM nA nR
   have c1 : ((d.1 : Int) == 1) = true ∨ ((d.1 : Int) == 1) = false := by cases ((d.1 : Int) == 1) <;> simp
   rcases c1 with c1 | c1
   ·refine (ct c1).trans ((ct d0).trans ((ct d1).trans ((ct (decide_eq_true (by (try simp only [List.length_singleton]); omega))).trans ?_)))
    rw [c1]
    rfl
   ·have c3 : ((d.1 : Int) == 3) = true ∨ ((d.1 : Int) == 3) = false := by cases ((d.1 : Int) == 3) <;> simp
    rw [c1]
    rcases c3 with c3 | c3
    ·refine (cf rfl).trans ((ct c3).trans ((ct d0).trans ((ct d1).trans ((ct (decide_eq_true (by (try simp only [List.length_singleton]); omega))).trans ?_))))
     rw [c3]
     rfl
    ·rw [c3]
     by_cases ht : t ≥ 0
     ·refine (cf rfl).trans ((cf rfl).trans ((ct (decide_eq_true ht)).trans ((ct (decide_eq_true (by (try simp only [List.length_singleton]); omega))).trans ((ct d0).trans ((ct d1).trans ((ct (decide_eq_true (by (try simp only [List.length_singleton]); omega))).trans ?_))))))
      rw [decide_eq_true ht]
      rfl
     ·refine (cf rfl).trans ((cf rfl).trans ((cf (decide_eq_false ht)).trans ?_))
      rw [decide_eq_false ht]
      rfl
  ·have : j = d.2.2.length := by omega
   subst this
   rw [List.drop_length]
   refine (cf (decide_eq_false (by omega))).trans ?_
   unfold nM nA nR
   cases (d.1 : Int) == 1 <;> cases (d.1 : Int) == 3 <;> cases decide (t ≥ 0) <;> simp
theorem Mx (k : Nat) (v : E0) (w : Int) (p : den Ai) (t : Int) (m : den Dg) (ps : Cz) (hl : ps.length ≤ 100) : ∀ (n j : Nat) (Q : Vy), j ≤ ps.length → ps.length - j < n → Q.length + (ps.length - j) ≤ 100000 →
  K0 k v w p n t (ps.length : Int) (j : Int) m ps Q = some (t, (ps.length : Int), (ps.length : Int), m, ps, Q ++ (ps.drop j).map fun r => (t, r))
 | 0, j, Q, _, h, _ => by omega
 | n + 1, j, Q, hj, h, h1 => by
  rw [K0]
  unfold Kq; (try dsimp only [Ax, Be])
  rcases Nat.lt_or_ge j ps.length with hlt | hge
  ·have d1 : decide ((j : Int) < ((ps.length : Nat) : Int)) = true := decide_eq_true (by omega)
   have d0 : decide ((0 : Int) ≤ ((j : Nat) : Int)) = true := decide_eq_true (by omega)
   rw [Ap (t := Ai) ps j hlt, Gv j (by omega), List.drop_eq_getElem_cons hlt]
   refine (ct d1).trans ((ct d0).trans ((ct d1).trans ((ct (decide_eq_true (by rw [List.length_singleton]; omega))).trans ?_)))
   rw [Mx k v w p t m ps hl n (j + 1) _ hlt (by omega) (by rw [List.length_append, List.length_singleton]; omega), List.map_cons, List.append_assoc, List.singleton_append]
  ·have : j = ps.length := by omega
   subst this
   rw [List.drop_length]
   refine (cf (decide_eq_false (by omega))).trans ?_
   simp
theorem Xp0 (k : Nat) (v : Cz) (hv : v.length ≤ 100000) (hs : ∀ r ∈ v, r.2.2.2.2.2.2.2.2.length ≤ 1048576) : ∀ (n j : Nat) (m : Cz), j ≤ v.length → v.length - j < n → m.length + (v.length - j) ≤ 100000 → Kt k v n (j : Int) m = some (m ++ v.drop j)
 | 0, j, m, _, h, _ => by omega
 | n + 1, j, m, hj, h, hm => by
  rw [Kt]
  unfold Lu; (try dsimp only [Ax, Be])
  rcases Nat.lt_or_ge j v.length with hlt | hge
  ·have d1 : decide ((j : Int) < ((v.length : Nat) : Int)) = true := decide_eq_true (by omega)
   have d0 : decide ((0 : Int) ≤ ((j : Nat) : Int)) = true := decide_eq_true (by omega)
   rw [Ap v j hlt, Gv j (by omega), List.drop_eq_getElem_cons hlt]
   refine (ct d1).trans ((ct d0).trans ((ct d1).trans ((bs (H9 k v[j] (hs _ (List.getElem_mem hlt)))).trans ((ct (decide_eq_true (by rw [List.length_singleton]; omega))).trans ?_))))
   rw [Xp0 k v hv hs n (j + 1) _ hlt (by omega) (by rw [List.length_append, List.length_singleton]; omega), List.append_assoc, List.singleton_append]
  ·have : j = v.length := by omega
   subst this
   rw [List.drop_length, List.append_nil]
   exact (cf (decide_eq_false (by omega))).trans ((bs (Xku k m)).trans rfl)
theorem Ic (k : Nat) (v : Cz) (hv : v.length ≤ 100000) (hs : ∀ r ∈ v, r.2.2.2.2.2.2.2.2.length ≤ 1048576) (hk : 1048576 < k) : Sa k v = some v := by
 have := Xp0 k v hv hs k 0 [] (Nat.zero_le _) (by omega) (by simpa using hv)
 unfold Sa X6; (try dsimp only)
 simpa using this
theorem X4i {a b : Int} (ha : 1 ≤ a ∧ a ≤ 48) (hb : 0 ≤ b ∧ b ≤ 255) : 1 ≤ a * (b + 1) ∧ a * (b + 1) ≤ 12288 := by
 have h1 := Int.mul_pos (show 0 < a by omega) (show 0 < b + 1 by omega)
 have h2 := Int.mul_le_mul ha.2 (show b + 1 ≤ 256 by omega) (show 0 ≤ b + 1 by omega) (show (0 : Int) ≤ 48 by omega)
 omega
theorem X3l {r : den Ai} (h : Lj r = true) : 1 ≤ wt r ∧ wt r ≤ 12288 := by
 obtain ⟨v0, v1, v2, v3, v4, v5, v6, v7, v8⟩ := r
 obtain ⟨_, _, _, h3, _, _, h8, _⟩ := C1 h
 exact X4i ⟨Xrk _, by show wl v8.length ≤ 48; unfold wl; split <;> omega⟩ h3
theorem Xpb {r : den Ai} (h : Lj r = true) : 1 ≤ wt r := (X3l h).1
theorem Ydb {r : den Ai} (h : Lj r = true) : wt r ≤ 12288 := (X3l h).2
theorem Xbj {α : Type} (s : α → Int) : ∀ a b : List α, I2 s (a ++ b) = I2 s a + I2 s b
 | [], b => by simp [I2]
 | x :: a, b => by simp only [List.cons_append, I2, Xbj s a b]; omega
theorem Sh : ∀ l : Cz, (∀ r ∈ l, Lj r = true) → (l.length : Int) ≤ I2 wt l
 | [], _ => by simp [I2]
 | r :: l, h => by
  have h1 := Xpb (h r (by simp))
  have h2 := Sh l (fun x hx => h x (by simp [hx]))
  simp only [I2, List.length_cons]
  omega
def TOk (t : den Dg) : Prop := t.1.length ≤ 100000 ∧ t.2.1.length ≤ 100000 ∧ (∀ r ∈ t.1, r.2.2.2.2.2.2.2.2.length ≤ 1048576) ∧ (∀ r ∈ t.2.1, r.2.2.2.2.2.2.2.2.length ≤ 1048576)
def stp (t : den Dg) : Int := t.2.2
theorem trav (q : Nat) (v : E0) (w : Int) (p : den Ai) (hv : ∀ s ∈ v, StaOk (q + 4) s) (hvl : v.length ≤ 5) (hk : 1048576 < q + 4) : ∀ (c n n' x : Nat) (m : den Dg) (A : Bn) (R : Cz), A.length = R.length → x ≤ R.length → (∀ a ∈ A.drop x, @LE.le Int _ 0 a ∧ @LT.lt Int _ a (v.length : Int)) → (∀ r ∈ R.drop x, Lj r = true ∧ BOk r.2.2.2.2.2.2.2.2) →
  I2 wt (R.drop x) ≤ (c : Int) → c < n → c < n' → x + c ≤ 20000 → m.1.length + c ≤ 20000 → m.2.1.length + c ≤ 20000 → (∀ r ∈ m.1, r.2.2.2.2.2.2.2.2.length ≤ 1048576) → (∀ r ∈ m.2.1, r.2.2.2.2.2.2.2.2.length ≤ 1048576) → (0 ≤ stp m ∧ stp m + (c : Int) ≤ 20000) →
  ∃ t : den Dg, Eg (q + 4) v w p n (x : Int) m A R = some t ∧ Bo (q + 4) v w p n' m (List.zip (A.drop x) (R.drop x)) = some t ∧ TOk t := by
 intro c
 induction c with
 | zero =>
  intro n n' x m A R hAR hx hA hR hs hn hn' hxc hm1 hm2 hl1 hl2 hst
  obtain ⟨n, rfl⟩ : ∃ i, n = i + 1 := ⟨n - 1, by omega⟩
  obtain ⟨n', rfl⟩ : ∃ i, n' = i + 1 := ⟨n' - 1, by omega⟩
  have hlen := Sh (R.drop x) (fun r hr => (hR r hr).1)
  have hdl : (R.drop x).length = R.length - x := List.length_drop
  have e : R.drop x = [] := List.length_eq_zero_iff.1 (by omega)
  rw [Eg, Bo, e, List.zip_nil_right]
  refine ⟨m, (cf (decide_eq_false (by omega))).trans rfl, (cf (by rfl)).trans ((bs (Ic _ _ (by omega) hl1 hk)).trans ((bs (Ic _ _ (by omega) hl2 hk)).trans rfl)), by omega, by omega, hl1, hl2⟩
 | succ c ih =>
  intro n n' x m A R hAR hx hA hR hs hn hn' hxc hm1 hm2 hl1 hl2 hst
  obtain ⟨n, rfl⟩ : ∃ i, n = i + 1 := ⟨n - 1, by omega⟩
  obtain ⟨n', rfl⟩ : ∃ i, n' = i + 1 := ⟨n' - 1, by omega⟩
  have hlen := Sh (R.drop x) (fun r hr => (hR r hr).1)
  have hdl : (R.drop x).length = R.length - x := List.length_drop
  rcases Nat.eq_or_lt_of_le hx with hx0 | hxl
  ·have e : R.drop x = [] := List.length_eq_zero_iff.1 (by omega)
   rw [Eg, Bo, e, List.zip_nil_right]
   exact ⟨m, (cf (decide_eq_false (by omega))).trans rfl, (cf (by rfl)).trans ((bs (Ic _ _ (by omega) hl1 hk)).trans ((bs (Ic _ _ (by omega) hl2 hk)).trans rfl)), by omega, by omega, hl1, hl2⟩
  ·have hxA : x < A.length := by omega
   have eR : R.drop x = R[x] :: R.drop (x + 1) := List.drop_eq_getElem_cons hxl
   have eA : A.drop x = A[x] :: A.drop (x + 1) := List.drop_eq_getElem_cons hxA
   have ha := hA A[x] (by rw [eA]; exact List.mem_cons_self ..)
   have hr := hR R[x] (by rw [eR]; exact List.mem_cons_self ..)
   have hA' : ∀ a ∈ A.drop (x + 1), @LE.le Int _ 0 a ∧ @LT.lt Int _ a (v.length : Int) := fun a h => hA a (by rw [eA]; exact List.mem_cons_of_mem _ h)
   have hR' : ∀ r ∈ R.drop (x + 1), Lj r = true ∧ BOk r.2.2.2.2.2.2.2.2 := fun r h => hR r (by rw [eR]; exact List.mem_cons_of_mem _ h)
   have hlen' := Sh (R.drop (x + 1)) (fun r hr => (hR' r hr).1)
   rw [eR] at hs
   simp only [I2] at hs
   obtain ⟨a, hae⟩ : ∃ a : Int, a = A[x] := ⟨_, rfl⟩
   have hd1 : ((R.drop (x + 1)).length : Int) = (R.length : Int) - (x : Int) - 1 := by rw [List.length_drop]; omega
   have gA : Ad A (x : Int) = A[x] := Ap A x hxA
   have gR : Ad R (x : Int) = R[x] := Ap R x hxl
   rw [eA, eR, List.zip_cons_cons]
   rw [← hae] at ha gA ⊢
   generalize R[x] = r at hr hs gR ⊢
   obtain ⟨i, rfl⟩ : ∃ i : Nat, a = (i : Int) := ⟨a.toNat, by omega⟩
   have hi : i < v.length := by omega
   have ok := hv _ (List.getElem_mem hi)
   have hwr := Xpb hr.1
   obtain ⟨r0, r1, r2, r3, r4, r5, r6, r7, r8⟩ := r
   have hr8 := (C1 hr.1).2.2.2.2.2.2.1
   obtain ⟨d, f1, f2, good⟩ := fwd q ok hr.1 hr.2 hk
   have f3 := X1r (q + 4) v d.2.1 (by omega) hk
   have f4 := Xbb (q + 4) v d.2.1 (by omega) hk
   have f5 := Xb4 d.2.1 v 0
   generalize fi d.2.1 v 0 = t at f3 f4 f5
   have d1 : decide ((x : Int) < ((R.length : Nat) : Int)) = true := decide_eq_true (by omega)
   have dA : decide ((x : Int) < ((A.length : Nat) : Int)) = true := decide_eq_true (by omega)
   have d0 : decide ((0 : Int) ≤ ((x : Nat) : Int)) = true := decide_eq_true (by omega)
   have i1 : decide ((i : Int) < ((v.length : Nat) : Int)) = true := decide_eq_true (by omega)
   have i0 : decide ((0 : Int) ≤ ((i : Nat) : Int)) = true := decide_eq_true (by omega)
   have hdl2 : d.2.2.length ≤ 50 := by
    rcases good with ⟨_, e⟩ | ⟨_, e⟩ | ⟨_, z, e, _⟩ | ⟨_, _, _, e⟩
    ·rw [e]; simp
    ·rw [e]; simp
    ·rw [e]; simp
    ·exact e
   have l2 := Wi (q + 4) v w p (x : Int) t d (by omega) (q + 4) 0 (m.1, m.2.1, m.2.2 + 1) A R (Nat.zero_le _) (by omega) (by show m.1.length + _ ≤ _; omega) (by show m.2.1.length + _ ≤ _; omega) (by omega) (by omega)
   rw [List.drop_zero] at l2
   have w1 : IntKind.i64.wrap (m.2.2 + 1) = m.2.2 + 1 := i64_in _ (show -9223372036854775808 ≤ stp m + 1 ∧ stp m + 1 ≤ 9223372036854775807 by omega)
   have SP : ∀ z, Eg (q + 4) v w p n ((x + 1 : Nat) : Int) (nM d.1 d.2.2 (m.1, m.2.1, m.2.2 + 1)) (nA d.1 t d.2.2.length A) (nR d.1 t d.2.2 R) = some z → Eg (q + 4) v w p (n + 1) (x : Int) m A R = some z := fun z hz => by
    rw [Eg, gA, gR, Ap v i hi, w1]
    refine (ct d1).trans ((ct d0).trans ((ct dA).trans ((ct i0).trans ((ct i1).trans ((ct d0).trans ((ct d1).trans ((bs f1).trans ((bs f3).trans ((bs l2).trans ?_)))))))))
    show Eg (q + 4) v w p n (IntKind.i64.wrap ((x : Int) + 1)) _ _ _ = _
    rw [Gv x (by omega)]
    exact hz
   generalize hZ : (List.zip (A.drop (x + 1)) (R.drop (x + 1)) : Vy) = Z
   have hZl : Z.length ≤ 30000 := by rw [← hZ, List.length_zip]; omega
   have tl : ((((i : Int), r0, r1, r2, r3, r4, r5, r6, r7, r8) :: Z : Vy).take (((((i : Int), r0, r1, r2, r3, r4, r5, r6, r7, r8) :: Z : Vy).length : Int)).toNat).drop 1 = Z := by rw [Int.toNat_natCast, List.take_length]; rfl
   have z0 : decide (((((i : Int), r0, r1, r2, r3, r4, r5, r6, r7, r8) :: Z : Vy).length : Int) > 0) = true := decide_eq_true (by rw [List.length_cons]; omega)
   have z1 : decide ((0 : Int) < ((((i : Int), r0, r1, r2, r3, r4, r5, r6, r7, r8) :: Z : Vy).length : Int)) = true := decide_eq_true (by rw [List.length_cons]; omega)
   have z2 : (decide ((0 : Int) ≤ 1) && decide ((1 : Int) ≤ ((((i : Int), r0, r1, r2, r3, r4, r5, r6, r7, r8) :: Z : Vy).length : Int))) = true := by rw [List.length_cons, decide_eq_true (by omega : (1 : Int) ≤ ((Z.length + 1 : Nat) : Int))]; rfl
   have g0 : Ad (t := .pair (.int .i64) Ai) (((i : Int), r0, r1, r2, r3, r4, r5, r6, r7, r8) :: Z) 0 = ((i : Int), r0, r1, r2, r3, r4, r5, r6, r7, r8) := rfl
   rw [Bo, g0, w1, tl]
   dsimp only
   rw [Ap v i hi]
   have m2 : 0 ≤ stp m + 1 ∧ stp m + 1 + (c : Int) ≤ 20000 := by omega
   have hs2 : I2 wt (R.drop (x + 1)) ≤ (c : Int) := by omega
   have stay : ∃ z : den Dg, Eg (q + 4) v w p n ((x + 1 : Nat) : Int) (m.1, m.2.1, m.2.2 + 1) A R = some z ∧ Bo (q + 4) v w p n' (m.1, m.2.1, m.2.2 + 1) Z = some z ∧ TOk z := by
    rw [← hZ]
    exact ih n n' (x + 1) (m.1, m.2.1, m.2.2 + 1) A R hAR hxl hA' hR' hs2 (by omega) (by omega) (by omega) (by show m.1.length + _ ≤ _; omega) (by show m.2.1.length + _ ≤ _; omega) hl1 hl2 m2
   rcases good with ⟨k0, e⟩ | ⟨k1, e⟩ | ⟨k3, b, e, eb⟩ | ⟨k2, e1, e2, e3⟩
   ·obtain ⟨z, s1, s2, s3⟩ := stay
    rw [e] at SP
    have eM : nM d.1 [] (m.1, m.2.1, m.2.2 + 1) = (m.1, m.2.1, m.2.2 + 1) := by unfold nM; rw [k0]; rfl
    have eA2 : nA d.1 t ([] : Cz).length A = A := by unfold nA; rw [k0]; cases ht : decide (t ≥ 0) <;> simp
    have eR2 : nR d.1 t [] R = R := by unfold nR; rw [k0]; cases ht : decide (t ≥ 0) <;> simp
    rw [eM, eA2, eR2] at SP
    refine ⟨z, SP z s1, ?_, s3⟩
    refine (ct z0).trans ((ct z1).trans ((ct z2).trans ((ct i0).trans ((ct i1).trans ((bs f2).trans ?_)))))
    rw [k0]
    exact s2
   ·rw [e] at SP
    have eM : nM d.1 [(r0, r1, r2, r3, r4, r5, r6, r7, r8)] (m.1, m.2.1, m.2.2 + 1) = (m.1 ++ [(r0, r1, r2, r3, r4, r5, r6, r7, r8)], m.2.1, m.2.2 + 1) := by unfold nM; rw [k1]; rfl
    have eA2 : nA d.1 t ([(r0, r1, r2, r3, r4, r5, r6, r7, r8)] : Cz).length A = A := by unfold nA; rw [k1]; rfl
    have eR2 : nR d.1 t [(r0, r1, r2, r3, r4, r5, r6, r7, r8)] R = R := by unfold nR; rw [k1]; rfl
    rw [eM, eA2, eR2] at SP
    obtain ⟨z, s1, s2, s3⟩ := ih n n' (x + 1) (m.1 ++ [(r0, r1, r2, r3, r4, r5, r6, r7, r8)], m.2.1, m.2.2 + 1) A R hAR hxl hA' hR' hs2 (by omega) (by omega) (by omega) (by show (m.1 ++ _).length + _ ≤ _; rw [List.length_append, List.length_singleton]; omega) (by show m.2.1.length + _ ≤ _; omega)
     (fun y hy => (List.mem_append.1 hy).elim (hl1 y) (fun hy => by obtain rfl := List.mem_singleton.1 hy; show r8.length ≤ _; omega)) hl2 m2
    rw [hZ] at s2
    refine ⟨z, SP z s1, ?_, s3⟩
    refine (ct z0).trans ((ct z1).trans ((ct z2).trans ((ct i0).trans ((ct i1).trans ((bs f2).trans ?_)))))
    rw [k1, e]
    exact (ct rfl).trans ((ct (decide_eq_true (by rw [List.length_singleton]; omega))).trans s2)
   ·rw [e] at SP
    have eM : nM d.1 [b] (m.1, m.2.1, m.2.2 + 1) = (m.1, m.2.1 ++ [b], m.2.2 + 1) := by unfold nM; rw [k3]; rfl
    have eA2 : nA d.1 t ([b] : Cz).length A = A := by unfold nA; rw [k3]; rfl
    have eR2 : nR d.1 t [b] R = R := by unfold nR; rw [k3]; rfl
    rw [eM, eA2, eR2] at SP
    obtain ⟨z, s1, s2, s3⟩ := ih n n' (x + 1) (m.1, m.2.1 ++ [b], m.2.2 + 1) A R hAR hxl hA' hR' hs2 (by omega) (by omega) (by omega) (by show m.1.length + _ ≤ _; omega) (by show (m.2.1 ++ _).length + _ ≤ _; rw [List.length_append, List.length_singleton]; omega)
     hl1 (fun y hy => (List.mem_append.1 hy).elim (hl2 y) (fun hy => by obtain rfl := List.mem_singleton.1 hy; exact eb)) m2
    rw [hZ] at s2
    refine ⟨z, SP z s1, ?_, s3⟩
    refine (ct z0).trans ((ct z1).trans ((ct z2).trans ((ct i0).trans ((ct i1).trans ((bs f2).trans ?_)))))
    rw [k3, e]
    exact (cf rfl).trans ((ct rfl).trans ((ct (decide_eq_true (by rw [List.length_singleton]; omega))).trans s2))
   ·have eM : nM d.1 d.2.2 (m.1, m.2.1, m.2.2 + 1) = (m.1, m.2.1, m.2.2 + 1) := by unfold nM; rw [k2]; rfl
    by_cases ht : t ≥ 0
    ·have eA2 : nA d.1 t d.2.2.length A = A ++ List.replicate d.2.2.length t := by unfold nA; rw [k2, decide_eq_true ht]; rfl
     have eR2 : nR d.1 t d.2.2 R = R ++ d.2.2 := by unfold nR; rw [k2, decide_eq_true ht]; rfl
     rw [eM, eA2, eR2] at SP
     have dA2 : (A ++ List.replicate d.2.2.length t).drop (x + 1) = A.drop (x + 1) ++ List.replicate d.2.2.length t := List.drop_append_of_le_length (by omega)
     have dR2 : (R ++ d.2.2).drop (x + 1) = R.drop (x + 1) ++ d.2.2 := List.drop_append_of_le_length (by omega)
     have zz : (List.zip ((A ++ List.replicate d.2.2.length t).drop (x + 1)) ((R ++ d.2.2).drop (x + 1)) : Vy) = Z ++ d.2.2.map fun r => (t, r) := by
      rw [dA2, dR2, List.zip_append (by rw [List.length_drop, List.length_drop]; omega), hZ]
      congr 1
      generalize d.2.2 = l
      induction l with
      | nil => rfl
      | cons y l ihl => rw [List.length_cons, List.replicate_succ, List.zip_cons_cons, List.map_cons, ihl]
     obtain ⟨z, s1, s2, s3⟩ := ih n n' (x + 1) (m.1, m.2.1, m.2.2 + 1) (A ++ List.replicate d.2.2.length t) (R ++ d.2.2) (by rw [List.length_append, List.length_append, List.length_replicate, hAR]) (by rw [List.length_append]; omega)
      (fun y hy => by
       rw [dA2] at hy
       rcases List.mem_append.1 hy with hy | hy
       ·exact hA' y hy
       ·rw [List.eq_of_mem_replicate hy]; show 0 ≤ t ∧ t < (v.length : Int); omega)
      (fun y hy => by
       rw [dR2] at hy
       exact (List.mem_append.1 hy).elim (hR' y) (e1 y))
      (by rw [dR2, Xbj]; omega) (by omega) (by omega) (by omega) (by show m.1.length + _ ≤ _; omega) (by show m.2.1.length + _ ≤ _; omega) hl1 hl2 m2
     rw [zz] at s2
     have l3 := Mx (q + 4) v w p t (m.1, m.2.1, m.2.2 + 1) d.2.2 (by omega) (q + 4) 0 Z (Nat.zero_le _) (by omega) (by omega)
     rw [List.drop_zero] at l3
     refine ⟨z, SP z s1, ?_, s3⟩
     refine (ct z0).trans ((ct z1).trans ((ct z2).trans ((ct i0).trans ((ct i1).trans ((bs f2).trans ?_)))))
     rw [k2]
     exact (cf rfl).trans ((cf rfl).trans ((ct rfl).trans ((bs f4).trans ((ct (decide_eq_true ht)).trans ((bs l3).trans s2)))))
    ·have eA2 : nA d.1 t d.2.2.length A = A := by unfold nA; rw [k2, decide_eq_false ht]; rfl
     have eR2 : nR d.1 t d.2.2 R = R := by unfold nR; rw [k2, decide_eq_false ht]; rfl
     rw [eM, eA2, eR2] at SP
     obtain ⟨z, s1, s2, s3⟩ := stay
     refine ⟨z, SP z s1, ?_, s3⟩
     refine (ct z0).trans ((ct z1).trans ((ct z2).trans ((ct i0).trans ((ct i1).trans ((bs f2).trans ?_)))))
     rw [k2]
     exact (cf rfl).trans ((cf rfl).trans ((ct rfl).trans ((bs f4).trans ((cf (decide_eq_false ht)).trans s2))))
end Go.Proofs.YtdmepjjepogddaaGreat.Gn
end

section
namespace Go.Proofs.YtdmepjjepogddaaGreat.Gn
open Go.Rf Go.IntWalk
set_option linter.unusedVariables false
set_option linter.unusedSimpArgs false
def Ch (g : Int → Bool → A4 → den Ai) : Int → Cz → A4 → Bool → Prop
 | _, [], c, f => c = [] ∧ f = true
 | x, p :: l, c, f => ∃ m d c', p = g x m d ∧ c = d ++ c' ∧ ((m = true ∧ d ≠ [] ∧ Ch g (x + (d.length : Int)) l c' f) ∨ (m = false ∧ l = [] ∧ c' = [] ∧ f = false))
theorem Jn (g : Int → Bool → A4 → den Ai) : ∀ {l : Cz} {x : Int} {c : A4} {l' : Cz} {c' : A4} {f : Bool}, Ch g x l c true → Ch g (x + (c.length : Int)) l' c' f → Ch g x (l ++ l') (c ++ c') f
 | [], x, c, l', c', f, h, h' => by
  obtain ⟨rfl, _⟩ := h
  simpa using h'
 | p :: l, x, c, l', c', f, h, h' => by
  obtain ⟨m, d, c2, rfl, rfl, h | h⟩ := h
  ·refine ⟨m, d, c2 ++ c', rfl, by rw [List.append_assoc], .inl ⟨h.1, h.2.1, Jn g h.2.2 ?_⟩⟩
   rw [List.length_append] at h'
   rw [show x + (d.length : Int) + (c2.length : Int) = x + ((d.length + c2.length : Nat) : Int) by omega]
   exact h'
  ·exact absurd h.2.2.2 (by decide)
theorem I8 (g : Int → Bool → A4 → den Ai) {x : Int} {m : Bool} {d : A4} (h : m = true → d ≠ []) : Ch g x [g x m d] d m := by
 refine ⟨m, d, [], rfl, by simp, ?_⟩
 cases m with
 | true => exact .inl ⟨rfl, h rfl, rfl, rfl⟩
 | false => exact .inr ⟨rfl, rfl, rfl, rfl⟩
theorem Xkv (g : Int → Bool → A4 → den Ai) {N : Nat} (hN : 1 ≤ N) (f : Bool) : ∀ (n : Nat) (a : Int) (d : A4), d.length < n → (f = true → d ≠ []) → Ch g a (C4 g N f n a d) d f
 | 0, _, _, h, _ => by omega
 | n + 1, a, d, h, hf => by
  rw [C4]
  by_cases hl : d.length ≤ N
  ·rw [if_pos hl]
   exact I8 g hf
  ·rw [if_neg hl]
   have ht : (d.take N).length = N := by rw [List.length_take]; omega
   have hd : (d.drop N).length = d.length - N := List.length_drop
   refine ⟨true, d.take N, d.drop N, rfl, (List.take_append_drop N d).symm, .inl ⟨rfl, fun e => by rw [e] at ht; simp at ht; omega, ?_⟩⟩
   rw [ht]
   exact Xkv g hN f n _ _ (by omega) (fun _ e => by rw [e] at hd; simp at hd; omega)
theorem Fo (g : Int → Bool → A4 → den Ai) : ∀ {l : Cz} {x : Int} {c : A4} {f : Bool}, Ch g x l c f → l.length ≤ c.length + 1
 | [], _, _, _, _ => Nat.zero_le _
 | p :: l, x, c, f, h => by
  obtain ⟨m, d, c2, rfl, rfl, h | h⟩ := h
  ·have := Fo g h.2.2
   have := List.length_pos_iff.2 h.2.1
   rw [List.length_append, List.length_cons]
   omega
  ·rw [h.2.1]; simp
theorem Xs (g : Int → Bool → A4 → den Ai) : ∀ {l : Cz} {x : Int} {c : A4} {f : Bool} {p : den Ai}, Ch g x l c f → p ∈ l → ∃ x' m d, p = g x' m d ∧ x ≤ x' ∧ x' + (d.length : Int) ≤ x + (c.length : Int) ∧ (m = true → d ≠ []) ∧ ∀ b ∈ d, b ∈ c
 | [], _, _, _, _, _, h => by cases h
 | p :: l, x, c, f, r, h, hr => by
  obtain ⟨m, d, c2, rfl, rfl, h | h⟩ := h
  ·rcases List.mem_cons.1 hr with rfl | hr
   ·exact ⟨x, m, d, rfl, Int.le_refl _, by rw [List.length_append]; omega, fun _ => h.2.1, fun b hb => List.mem_append_left _ hb⟩
   ·obtain ⟨x', m', d', e1, e2, e3, e4, e5⟩ := Xs g h.2.2 hr
    exact ⟨x', m', d', e1, by omega, by rw [List.length_append]; omega, e4, fun b hb => List.mem_append_right _ (e5 b hb)⟩
  ·rw [h.2.1] at hr
   obtain rfl := List.mem_singleton.1 hr
   exact ⟨x, m, d, rfl, Int.le_refl _, by rw [List.length_append]; omega, (fun e => by rw [h.1] at e; cases e), fun b hb => List.mem_append_left _ hb⟩
theorem fwdV (q : Nat) {s : den sta} (hs : StaOk (q + 4) s) {v0 v1 v2 v3 v4 v5 : Int} {v6 : Bool} {v8 : A4} (h : Lj (v0, v1, v2, v3, v4, v5, v6, false, v8) = true) (hb : BOk v8) (hk : 1048576 < q + 4) (ha : v5 + (v8.length : Int) ≤ 255) :
    ∃ d : den Sd, Xa2 (q + 4) s (v0, v1, v2, v3, v4, v5, v6, false, v8) = some d ∧
      ((v1 = s.1 ∧ d = (1, 0, [(v0, v1, v2, v3, v4, v5, v6, false, v8)])) ∨
       (v1 ≠ s.1 ∧ (v3 < 2 ∨ (Rt.B6 v1 17 s.2.reverse).2 = false) ∧ (@Eq Int d.1 0 ∨ @Eq Int d.1 3)) ∨
       (v1 ≠ s.1 ∧ ¬ v3 < 2 ∧ (Rt.B6 v1 17 s.2.reverse).2 = true ∧ ∃ N : Nat, (1 ≤ N ∧ N ≤ 48) ∧ @Eq Int (Rt.B6 v1 17 s.2.reverse).1.2.2.2 (N : Int) ∧ d = (2, (Rt.B6 v1 17 s.2.reverse).1.2.2.1, C4 (I6 v0 v1 v2 (v3 - 1) v4 false) N v6 50 v5 v8))) := by
  obtain ⟨q0, q1, q2, q3, q4, q5, q6, q7, q8⟩ := C1 h
  have h58 := H9 (q + 4) (v0, v1, v2, v3, v4, v5, v6, false, v8) (show v8.length ≤ 1048576 by omega)
  have ig := fun (a b : Int) (ha : 3 ≤ a ∧ a ≤ 6) (hb2 : 0 ≤ b ∧ b ≤ 65535) => Xkm (Xjb q h hb hk hs.at1 ha hb2)
  have gk : ∀ b : den Ai × Bool, @Eq Int (Ji b).1 0 ∨ @Eq Int (Ji b).1 3 := fun b => by
    unfold Ji
    cases b.2 with
    | true => exact .inr rfl
    | false => exact .inl rfl
  unfold Xa2 S3; (try dsimp only)
  by_cases c1 : v1 = s.1
  · have b1 : (v1 == s.1) = true := beq_iff_eq.2 c1
    exact ⟨_, (ct b1).trans ((bs h58).trans rfl), .inl ⟨c1, rfl⟩⟩
  have b1 : (v1 == s.1) = false := beq_eq_false_iff_ne.2 c1
  by_cases c2 : v3 < 2
  · exact ⟨_, (cf b1).trans ((ct (decide_eq_true c2)).trans ((bs (ig 4 0 (by omega) (by omega))).trans rfl)), .inr (.inl ⟨c1, .inl c2, gk _⟩)⟩
  have b2 : decide (v3 < 2) = false := decide_eq_false c2
  have fi := Xf9 (q + 4) s.2 v1 hs.len hs.ok
  have fm := N3 v1 17 (l := s.2.reverse)
  generalize Rt.B6 v1 17 s.2.reverse = r at fi fm ⊢
  obtain ⟨r, fd⟩ := r
  cases fd with
  | false => exact ⟨_, (cf b1).trans ((cf b2).trans ((bs fi).trans ((ct rfl).trans ((bs (ig 3 0 (by omega) (by omega))).trans rfl)))), .inr (.inl ⟨c1, .inr rfl, gk _⟩)⟩
  | true =>
    have hm := List.mem_reverse.1 (fm rfl)
    obtain ⟨r0, r1, gw, mtu⟩ := r
    have hmtu : @LE.le Int _ 1 mtu ∧ @LE.le Int _ mtu 48 := A7 (Kg (hs.ok _ hm)).2.2.2
    obtain ⟨N, hN⟩ : ∃ N : Nat, mtu = (N : Int) := ⟨Int.toNat mtu, (Int.toNat_of_nonneg (by omega)).symm⟩
    subst hN
    have hN : 1 ≤ N ∧ N ≤ 48 := by omega
    have e2 := Xkz (q + 4) h hN (fun e => by cases e)
    have hla := Xdr N 50 v5 v8
    unfold Mj at e2
    rw [decide_eq_false (by omega : ¬ Dr N 50 v5 v8 > 255)] at e2
    have hl := Kd (I6 v0 v1 v2 v3 v4 false) N v6 50 v5 v8
    have := Xf1 (q + 4) s (v0, v1, v2, v3, v4, v5, v6, false, v8) (r0, r1, gw, (N : Int)) (q + 4) [] (C4 (I6 v0 v1 v2 v3 v4 false) N v6 50 v5 v8) (by simp; omega) (by omega)
    simp only [List.nil_append, List.length_nil, Nat.zero_add] at this
    rw [Tt q3] at this
    refine ⟨(2, gw, C4 (I6 v0 v1 v2 (v3 - 1) v4 false) N v6 50 v5 v8), ?_, .inr (.inr ⟨c1, c2, rfl, N, hN, rfl, rfl⟩)⟩
    by_cases c3 : (v8.length : Int) > (N : Int)
    · exact (cf b1).trans ((cf b2).trans ((bs fi).trans ((cf rfl).trans ((ct (decide_eq_true c3)).trans ((cf rfl).trans ((bs e2).trans ((cf rfl).trans this)))))))
    · exact (cf b1).trans ((cf b2).trans ((bs fi).trans ((cf rfl).trans ((cf (decide_eq_false c3)).trans ((bs e2).trans ((cf rfl).trans this))))))
def Ec (v : E0) (s : den sta) (to h : Int) : Option (Int × Nat) :=
 cond (decide (h < 2)) none (cond (Rt.B6 to 17 s.2.reverse).2 (cond (decide (fi (Rt.B6 to 17 s.2.reverse).1.2.2.1 v 0 ≥ 0)) (some (fi (Rt.B6 to 17 s.2.reverse).1.2.2.1 v 0, Int.toNat (Rt.B6 to 17 s.2.reverse).1.2.2.2)) none) none)
theorem Oq {α : Type} {c : Bool} {x : Option α} {t : α} (h : cond c x none = some t) : c = true ∧ x = some t := by
 cases c with
 | true => exact ⟨rfl, h⟩
 | false => cases h
theorem Ycw (q : Nat) {v : E0} (w : Int) (p : den Ai) (hv : ∀ s ∈ v, StaOk (q + 4) s) (hvl : v.length ≤ 5) (hk : 1048576 < q + 4) {n a : Nat} {s : den sta} (hs : v[a]? = some s) {m : den Dg} {v0 v1 v2 v3 v4 v5 : Int} {v6 : Bool} {v8 : A4}
    (h : Lj (v0, v1, v2, v3, v4, v5, v6, false, v8) = true) (hb : BOk v8) (ha : v5 + (v8.length : Int) ≤ 255) {Z : Vy} (hZ : Z.length ≤ 1000) (hm : m.1.length ≤ 1000) {t : den Dg}
    (ht : Bo (q + 4) v w p (n + 1) m (((a : Int), v0, v1, v2, v3, v4, v5, v6, false, v8) :: Z) = some t) :
    ∃ m' : den Dg, ∃ Q' : Vy, Bo (q + 4) v w p n m' Q' = some t ∧
      ((v1 = s.1 ∧ m'.1 = m.1 ++ [(v0, v1, v2, v3, v4, v5, v6, false, v8)] ∧ Q' = Z) ∨
       (v1 ≠ s.1 ∧ m'.1 = m.1 ∧ ((Ec v s v1 v3 = none ∧ Q' = Z) ∨ ∃ b : Nat, ∃ N : Nat, Ec v s v1 v3 = some ((b : Int), N) ∧ b < v.length ∧ 1 ≤ N ∧ 2 ≤ v3 ∧ Q' = Z ++ (C4 (I6 v0 v1 v2 (v3 - 1) v4 false) N v6 50 v5 v8).map fun r => ((b : Int), r)))) := by
  obtain ⟨hi, hse⟩ := List.getElem?_eq_some_iff.1 hs
  have ok := hv _ (List.getElem_mem hi)
  rw [hse] at ok
  obtain ⟨d, f2, hd⟩ := fwdV q ok h hb hk ha
  have i1 : decide ((a : Int) < ((v.length : Nat) : Int)) = true := decide_eq_true (by omega)
  have i0 : decide ((0 : Int) ≤ ((a : Nat) : Int)) = true := decide_eq_true (by omega)
  have tl : ((((a : Int), v0, v1, v2, v3, v4, v5, v6, false, v8) :: Z : Vy).take (((((a : Int), v0, v1, v2, v3, v4, v5, v6, false, v8) :: Z : Vy).length : Int)).toNat).drop 1 = Z := by rw [Int.toNat_natCast, List.take_length]; rfl
  have z0 : decide (((((a : Int), v0, v1, v2, v3, v4, v5, v6, false, v8) :: Z : Vy).length : Int) > 0) = true := decide_eq_true (by rw [List.length_cons]; omega)
  have z1 : decide ((0 : Int) < ((((a : Int), v0, v1, v2, v3, v4, v5, v6, false, v8) :: Z : Vy).length : Int)) = true := decide_eq_true (by rw [List.length_cons]; omega)
  have z2 : (decide ((0 : Int) ≤ 1) && decide ((1 : Int) ≤ ((((a : Int), v0, v1, v2, v3, v4, v5, v6, false, v8) :: Z : Vy).length : Int))) = true := by rw [List.length_cons, decide_eq_true (by omega : (1 : Int) ≤ ((Z.length + 1 : Nat) : Int))]; rfl
  have g0 : Ad (t := .pair (.int .i64) Ai) (((a : Int), v0, v1, v2, v3, v4, v5, v6, false, v8) :: Z) 0 = ((a : Int), v0, v1, v2, v3, v4, v5, v6, false, v8) := rfl
  rw [Bo, g0, tl] at ht
  dsimp only at ht
  rw [Ap v a hi, hse] at ht
  replace ht := Eq.trans (Eq.symm ((ct z0).trans ((ct z1).trans ((ct z2).trans ((ct i0).trans ((ct i1).trans (bs f2))))))) ht
  rcases hd with ⟨c1, rfl⟩ | ⟨c1, c2, c3⟩ | ⟨c1, c2, c3, N, hN, eN, rfl⟩
  · obtain ⟨_, ht⟩ := Oq ht
    exact ⟨_, _, ht, .inl ⟨c1, rfl, rfl⟩⟩
  · have hh : Ec v s v1 v3 = none := by
      unfold Ec
      by_cases c : v3 < 2
      · rw [decide_eq_true c]; rfl
      · rw [decide_eq_false c, c2.resolve_left c]; rfl
    rcases c3 with c3 | c3
    · rw [c3] at ht
      exact ⟨_, _, ht, .inr ⟨c1, rfl, .inl ⟨hh, rfl⟩⟩⟩
    · rw [c3] at ht
      obtain ⟨_, ht⟩ := Oq ht
      exact ⟨_, _, ht, .inr ⟨c1, rfl, .inl ⟨hh, rfl⟩⟩⟩
  · have f4 := Xbb (q + 4) v (Rt.B6 v1 17 s.2.reverse).1.2.2.1 (by omega) hk
    have f5 := Xb4 (Rt.B6 v1 17 s.2.reverse).1.2.2.1 v 0
    have hh : Ec v s v1 v3 = cond (decide (fi (Rt.B6 v1 17 s.2.reverse).1.2.2.1 v 0 ≥ 0)) (some (fi (Rt.B6 v1 17 s.2.reverse).1.2.2.1 v 0, N)) none := by
      unfold Ec
      rw [decide_eq_false c2, c3, cond_false, cond_true]
      have : Int.toNat (Rt.B6 v1 17 s.2.reverse).1.2.2.2 = N := by rw [eN]; rfl
      rw [this]
    have ht : (F75 (q + 4) v (Rt.B6 v1 17 s.2.reverse).1.2.2.1).bind _ = some t := ht
    rw [f4, Option.bind_some] at ht
    generalize fi (Rt.B6 v1 17 s.2.reverse).1.2.2.1 v 0 = b at *
    by_cases cb : b ≥ 0
    · obtain ⟨b, rfl⟩ : ∃ i : Nat, b = (i : Int) := ⟨b.toNat, by omega⟩
      rw [decide_eq_true cb] at ht hh
      have hl := Kd (I6 v0 v1 v2 (v3 - 1) v4 false) N v6 50 v5 v8
      have l3 := Mx (q + 4) v w p (b : Int) (m.1, m.2.1, IntKind.i64.wrap (m.2.2 + 1)) (C4 (I6 v0 v1 v2 (v3 - 1) v4 false) N v6 50 v5 v8) (by omega) (q + 4) 0 Z (Nat.zero_le _) (by omega) (by omega)
      rw [List.drop_zero] at l3
      have ht := (bs l3).symm.trans ht
      exact ⟨_, _, ht, .inr ⟨c1, rfl, .inr ⟨b, N, hh, by omega, hN.1, by omega, rfl⟩⟩⟩
    · rw [decide_eq_false cb] at ht hh
      exact ⟨_, _, ht, .inr ⟨c1, rfl, .inl ⟨hh, rfl⟩⟩⟩
end Go.Proofs.YtdmepjjepogddaaGreat.Gn
end

section
namespace Go.Proofs.YtdmepjjepogddaaGreat.Gn
open Go.Rf Go.IntWalk
set_option linter.unusedVariables false
set_option linter.unusedSimpArgs false
def Bh (fr to kd id h : Int) : Int → Bool → A4 → den Ai := I6 fr to kd h id false
def Vn (a : Nat) (l : Cz) : Vy := l.map fun r => ((a : Int), r)
theorem Xc5 {v : E0} {s : den sta} {to h : Int} {b : Int} {N : Nat} (e : Ec v s to h = some (b, N)) : 2 ≤ h ∧ 0 ≤ b ∧ b < (v.length : Int) := by
 unfold Ec at e
 by_cases c : h < 2
 ·rw [decide_eq_true c] at e; cases e
 ·rw [decide_eq_false c, cond_false] at e
  obtain ⟨_, e⟩ := Oq e
  have f5 := Xb4 (Rt.B6 to 17 s.2.reverse).1.2.2.1 v 0
  by_cases c2 : fi (Rt.B6 to 17 s.2.reverse).1.2.2.1 v 0 ≥ 0
  ·rw [decide_eq_true c2, cond_true] at e
   simp only [Option.some.injEq, Prod.mk.injEq] at e
   omega
  ·rw [decide_eq_false c2] at e; cases e
def Tf (v : E0) (to : Int) : Nat → Nat → Bool
 | 0, a => (v[a]?).any fun s => @BEq.beq Int _ s.1 to
 | n + 1, a => (v[a]?).any fun s => @BEq.beq Int _ s.1 to || ((Ec v s to ((n + 1 : Nat) : Int)).any fun z => Tf v to n z.1.toNat)
theorem Xt2 {v : E0} {to : Int} {a : Nat} {s : den sta} (hs : v[a]? = some s) (e : to = s.1) : ∀ n, Tf v to n a = true
 | 0 => by rw [Tf, hs]; exact beq_iff_eq.2 e.symm
 | n + 1 => by rw [Tf, hs, Option.any_some, show @BEq.beq Int _ s.1 to = true from beq_iff_eq.2 e.symm]; rfl
theorem Xtk {v : E0} {to : Int} {a : Nat} {s : den sta} (hs : v[a]? = some s) (e : to ≠ s.1) : ∀ n : Nat, Ec v s to (n : Int) = none → Tf v to n a = false
 | 0, _ => by rw [Tf, hs]; exact beq_eq_false_iff_ne.2 (Ne.symm e)
 | n + 1, h => by rw [Tf, hs, Option.any_some, show @BEq.beq Int _ s.1 to = false from beq_eq_false_iff_ne.2 (Ne.symm e), h]; rfl
theorem Xud {v : E0} {to : Int} {a b N : Nat} {s : den sta} (hs : v[a]? = some s) (e : to ≠ s.1) (n : Nat) (h : Ec v s to ((n + 1 : Nat) : Int) = some ((b : Int), N)) : Tf v to (n + 1) a = Tf v to n b := by
 rw [Tf, hs, Option.any_some, show @BEq.beq Int _ s.1 to = false from beq_eq_false_iff_ne.2 (Ne.symm e), h]
 rfl
def Inv (v : E0) (fr to kd id : Int) (c : A4) (β : Bool) (arr : Cz) (Q : Vy) : Prop :=
  (Q = [] ∧ ((arr = [] ∧ β = false) ∨ (∃ h : Int, (0 ≤ h ∧ h ≤ 64) ∧ Ch (Bh fr to kd id h) 0 arr c false) ∧ β = true)) ∨
  ∃ (a : Nat) (s : den sta) (h : Int) (c1 c2 : A4) (A : Cz), v[a]? = some s ∧ (0 ≤ h ∧ h ≤ 64 ∧ Tf v to h.toNat a = β) ∧ c = c1 ++ c2 ∧ Ch (Bh fr to kd id h) (c1.length : Int) A c2 false ∧
    ((to = s.1 ∧ Ch (Bh fr to kd id h) 0 arr c1 true ∧ Q = Vn a A) ∨
     (to ≠ s.1 ∧ arr = [] ∧ ((Ec v s to h = none ∧ Q = Vn a A) ∨
       ∃ (b N : Nat) (B : Cz), Ec v s to h = some ((b : Int), N) ∧ b < v.length ∧ 1 ≤ h ∧ Ch (Bh fr to kd id (h - 1)) 0 B c1 true ∧ Q = Vn a A ++ Vn b B)))
theorem Xjj {v : E0} {fr to kd id : Int} {c : A4} {a : Nat} {h : Int} {A : Cz} (ha : a < v.length) (hh : 0 ≤ h ∧ h ≤ 64) (hA : Ch (Bh fr to kd id h) 0 A c false) : Inv v fr to kd id c (Tf v to h.toNat a) [] (Vn a A) := by
 refine .inr ⟨a, v[a], h, [], c, A, List.getElem?_eq_getElem ha, ⟨hh.1, hh.2, rfl⟩, rfl, hA, ?_⟩
 by_cases e : to = v[a].1
 ·exact .inl ⟨e, ⟨rfl, rfl⟩, rfl⟩
 ·refine .inr ⟨e, rfl, ?_⟩
  cases ho : Ec v v[a] to h with
  | none => exact .inl ⟨rfl, rfl⟩
  | some z =>
   obtain ⟨b, N⟩ := z
   obtain ⟨h1, h2, h3⟩ := Xc5 ho
   obtain ⟨b, rfl⟩ : ∃ i : Nat, b = (i : Int) := ⟨b.toNat, by omega⟩
   exact .inr ⟨b, N, [], rfl, by omega, by omega, ⟨rfl, rfl⟩, by simp [Vn]⟩
theorem Yc6 (g : Int → Bool → A4 → den Ai) {x : Int} {l : Cz} {c : A4} (h : Ch g x l c false) : l ≠ [] := fun e => by
 subst e
 exact absurd h.2 (by decide)
theorem Sq (q : Nat) {v : E0} (w : Int) (p : den Ai) (hv : ∀ s ∈ v, StaOk (q + 4) s) (hvl : v.length ≤ 5) (hk : 1048576 < q + 4) {fr to kd id : Int} {c : A4} (hfr : 0 ≤ fr ∧ fr ≤ 65535) (hto : 0 ≤ to ∧ to ≤ 65535) (hkd : 0 ≤ kd ∧ kd ≤ 255) (hid : 0 ≤ id ∧ id ≤ 255) (hc : c.length ≤ 48) (hb : BOk c) :
  ∀ (n : Nat) (m : den Dg) (Q : Vy) (t : den Dg) (β : Bool), Inv v fr to kd id c β m.1 Q → Bo (q + 4) v w p n m Q = some t → (t.1 = [] ∧ β = false) ∨ (∃ h : Int, (0 ≤ h ∧ h ≤ 64) ∧ Ch (Bh fr to kd id h) 0 t.1 c false) ∧ β = true
 | 0, _, _, _, _, _, ht => by rw [Bo] at ht; cases ht
 | n + 1, m, Q, t, β, hI, ht => by
  rcases hI with ⟨rfl, hF⟩ | ⟨a, s, h, c1, c2, A, hs, hh, hcc, hA, hM⟩
  ·
   rw [Bo] at ht
   have hsz : m.1.length ≤ 100000 ∧ ∀ r ∈ m.1, r.2.2.2.2.2.2.2.2.length ≤ 1048576 := by
    rcases hF with ⟨e, _⟩ | ⟨⟨h, _, hF⟩, _⟩
    ·rw [e]; exact ⟨by simp, fun r hr => by cases hr⟩
    ·have := Fo _ hF
     refine ⟨by omega, fun r hr => ?_⟩
     obtain ⟨x', m', d, rfl, _, e3, _⟩ := Xs _ hF hr
     show d.length ≤ 1048576
     omega
   have e1 := Ic (q + 4) m.1 hsz.1 hsz.2 hk
   have ht := Eq.trans (Eq.symm ((cf (show decide ((([] : Vy).length : Int) > 0) = false from rfl)).trans (bs e1))) ht
   cases e2 : Sa (q + 4) m.2.1 with
   | none => rw [e2] at ht; cases ht
   | some z =>
    rw [e2, Option.bind_some, Option.some.injEq] at ht
    rw [← ht]
    exact hF
  ·have hAne := Yc6 _ hA
   cases A with
   | nil => exact absurd rfl hAne
   | cons r A =>
    obtain ⟨m0, d, c2', rfl, rfl, hA2⟩ := hA
    have hlen : c1.length + d.length + c2'.length ≤ 48 := by rw [hcc] at hc; simp only [List.length_append] at hc; omega
    have hbd : BOk d := fun z hz => hb z (by rw [hcc]; simp [hz])
    have hmd : m0 = true → d ≠ [] := fun e => by
     rcases hA2 with h2 | h2
     ·exact h2.2.1
     ·rw [h2.1] at e; cases e
    have okp : Lj (Bh fr to kd id h (c1.length : Int) m0 d) = true := Na hfr hto hkd (by omega) hid (by omega) (by omega) (fun e => List.length_pos_iff.2 (hmd e)) (fun e => by cases e)
    have hAl : A.length ≤ 49 := by
     rcases hA2 with h2 | h2
     ·have := Fo _ h2.2.2; omega
     ·rw [h2.2.1]; simp
    have st := fun (Z : Vy) (hZ : Z.length ≤ 1000) (hm : m.1.length ≤ 1000) (ht : Bo (q + 4) v w p (n + 1) m (((a : Int), Bh fr to kd id h (c1.length : Int) m0 d) :: Z) = some t) => Ycw q w p hv hvl hk hs okp hbd (by omega) hZ hm ht
    have e0 : (c1 ++ d).length = c1.length + d.length := List.length_append
    rcases hM with ⟨e1, harr, rfl⟩ | ⟨e1, harr, hM⟩
    ·
     have hml := Fo _ harr
     obtain ⟨m', Q', s1, s2⟩ := st (Vn a A) (by simp [Vn]; omega) (by omega) ht
     rcases s2 with ⟨_, s3, rfl⟩ | ⟨s3, _⟩
     ·have one := I8 (Bh fr to kd id h) (x := 0 + (c1.length : Int)) hmd
      rw [Int.zero_add] at one
      have arr' : Ch (Bh fr to kd id h) 0 m'.1 (c1 ++ d) m0 := by
       rw [s3]
       exact Jn _ harr (by rw [Int.zero_add]; exact one)
      refine Sq q w p hv hvl hk hfr hto hkd hid hc hb n m' _ t β ?_ s1
      rcases hA2 with ⟨rfl, _, h2⟩ | ⟨rfl, rfl, rfl, _⟩
      ·refine .inr ⟨a, s, h, c1 ++ d, c2', A, hs, hh, by rw [List.append_assoc]; exact hcc, ?_, .inl ⟨e1, arr', rfl⟩⟩
       rw [e0, Int.natCast_add]
       exact h2
      ·refine .inl ⟨rfl, .inr ⟨⟨h, ⟨hh.1, hh.2.1⟩, ?_⟩, by rw [← hh.2.2]; exact Xt2 hs e1 _⟩⟩
       rw [hcc, List.append_nil]
       exact arr'
     ·exact absurd e1 s3
    ·
     have hm1 : m.1.length ≤ 1000 := by rw [harr]; simp
     rcases hM with ⟨ho, rfl⟩ | ⟨b, N, B, ho, hbl, h1, hB, rfl⟩
     ·obtain ⟨m', Q', s1, s2⟩ := st (Vn a A) (by simp [Vn]; omega) hm1 ht
      rcases s2 with ⟨s3, _⟩ | ⟨_, s3, s4⟩
      ·exact absurd s3 e1
      ·rcases s4 with ⟨_, rfl⟩ | ⟨b, N, s5, _⟩
       ·refine Sq q w p hv hvl hk hfr hto hkd hid hc hb n m' _ t β ?_ s1
        rw [s3, harr]
        rcases hA2 with ⟨rfl, _, h2⟩ | ⟨rfl, rfl, rfl, _⟩
        ·refine .inr ⟨a, s, h, c1 ++ d, c2', A, hs, hh, by rw [List.append_assoc]; exact hcc, ?_, .inr ⟨e1, rfl, .inl ⟨ho, rfl⟩⟩⟩
         rw [e0, Int.natCast_add]
         exact h2
        ·exact .inl ⟨rfl, .inl ⟨rfl, by rw [← hh.2.2]; exact Xtk hs e1 _ (by rw [Int.toNat_of_nonneg hh.1]; exact ho)⟩⟩
       ·rw [show Ec v s to h = none from ho] at s5; cases s5
     ·have hBl := Fo _ hB
      have ht : Bo (q + 4) v w p (n + 1) m (((a : Int), Bh fr to kd id h (c1.length : Int) m0 d) :: (Vn a A ++ Vn b B)) = some t := ht
      obtain ⟨m', Q', s1, s2⟩ := st (Vn a A ++ Vn b B) (by simp [Vn]; omega) hm1 ht
      rcases s2 with ⟨s3, _⟩ | ⟨_, s3, s4⟩
      ·exact absurd s3 e1
      ·rcases s4 with ⟨s5, _⟩ | ⟨b', N', s5, hb', hN', h3, rfl⟩
       ·rw [show Ec v s to h = _ from ho] at s5; cases s5
       ·rw [show Ec v s to h = _ from ho] at s5
        simp only [Option.some.injEq, Prod.mk.injEq] at s5
        obtain ⟨s5, rfl⟩ := s5
        obtain rfl : b = b' := by omega
        have cc := Xkv (Bh fr to kd id (h - 1)) hN' m0 50 (0 + (c1.length : Int)) d (by omega) hmd
        have B' := Jn _ hB cc
        rw [Int.zero_add] at B'
        have eQ : Vn a A ++ Vn b B ++ (C4 (I6 fr to kd (h - 1) id false) N m0 50 (c1.length : Int) d).map (fun r => ((b : Int), r)) = Vn a A ++ Vn b (B ++ C4 (Bh fr to kd id (h - 1)) N m0 50 (c1.length : Int) d) := by
         rw [List.append_assoc]
         simp [Vn, Bh]
        have s1 : Bo (q + 4) v w p n m' (Vn a A ++ Vn b B ++ (C4 (I6 fr to kd (h - 1) id false) N m0 50 (c1.length : Int) d).map (fun r => ((b : Int), r))) = some t := s1
        rw [eQ] at s1
        refine Sq q w p hv hvl hk hfr hto hkd hid hc hb n m' _ t β ?_ s1
        rw [s3, harr]
        rcases hA2 with ⟨rfl, _, h2⟩ | ⟨rfl, rfl, rfl, _⟩
        ·refine .inr ⟨a, s, h, c1 ++ d, c2', A, hs, hh, by rw [List.append_assoc]; exact hcc, ?_, .inr ⟨e1, rfl, .inr ⟨b, N, _, ho, hbl, h1, B', rfl⟩⟩⟩
         rw [e0, Int.natCast_add]
         exact h2
        ·rw [hcc, List.append_nil]
         have hn := Xjj (a := b) (fr := fr) (to := to) (kd := kd) (id := id) hbl (by omega : 0 ≤ h - 1 ∧ h - 1 ≤ 64) B'
         obtain ⟨i, hi⟩ : ∃ i : Nat, h = ((i + 1 : Nat) : Int) := ⟨(h - 1).toNat, by omega⟩
         have hr : Tf v to (h - 1).toNat b = β := by
          rw [← hh.2.2, hi]
          rw [hi] at ho
          rw [show (((i + 1 : Nat) : Int) - 1).toNat = i by omega, Int.toNat_natCast]
          exact (Xud hs e1 i ho).symm
         rw [hr] at hn
         exact hn
end Go.Proofs.YtdmepjjepogddaaGreat.Gn
end
