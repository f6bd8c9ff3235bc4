/-
  What the proof of this row needs, part 5: the typed evaluator of the translated code, the functions that the law reaches as plain functions, and what they answer.
-/
import Derived.KernelRfl
import Derived.Test.YtdmepjjepogddaaGreatRows
import Derived.JoinedOf
import Derived.Test.YtdmepjjepogddaaGreatA4
section
set_option linter.unusedVariables false
set_option linter.unusedSimpArgs false
namespace Go.Proofs.YtdmepjjepogddaaGreat.Gn
open Go.Rf IntKind
noncomputable section
abbrev X0f (k : Nat) : Env := { Ba (A0 [Xoj k, Xej k, Kh k, Xj0 k, Xps k, Ng k, Z6 k, Xk4 k, Xpv k, Xkq k]) Ap .own [] k with frz := [70] }
abbrev Xlw : List PA := [.one (.sl .ro Ay), .agg (.pair mI C3), .one mI]
abbrev F141_O : RO := ⟨[.v, .a, .v], [.sl .own Ay, .pair mI m_7, mB]⟩
def Lu {β : Type} (k : Nat) (v : Ae) (w : (den Ad)) (p : Int) (RET : (Ae × (den Ad) × Bool) → Option β) (b5 : Ae × Int) : Option β := (I2 k b5.1 w).bind fun b8 => cond (decide (b8.1 < 0)) (B3 (b8.2.1.length) ([([b8.2.2], i64.wrap (b5.2 + 15))].length) 32 (cond (decide (0 ≤ (if 0 < (i64.wrap (((b8.2.1 ++ [([b8.2.2], i64.wrap (b5.2 + 15))]).length : Int) - 3)) then i64.wrap (((b8.2.1 ++ [([b8.2.2], i64.wrap (b5.2 + 15))]).length : Int) - 3) else 0)) && decide ((if 0 < (i64.wrap (((b8.2.1 ++ [([b8.2.2], i64.wrap (b5.2 + 15))]).length : Int) - 3)) then i64.wrap (((b8.2.1 ++ [([b8.2.2], i64.wrap (b5.2 + 15))]).length : Int) - 3) else 0) ≤ ((b8.2.1 ++ [([b8.2.2], i64.wrap (b5.2 + 15))]).length : Int))) ((Mu k (((b8.2.1 ++ [([b8.2.2], i64.wrap (b5.2 + 15))]).take ((((b8.2.1 ++ [([b8.2.2], i64.wrap (b5.2 + 15))]).length : Int)).toNat)).drop ((if 0 < (i64.wrap (((b8.2.1 ++ [([b8.2.2], i64.wrap (b5.2 + 15))]).length : Int) - 3)) then i64.wrap (((b8.2.1 ++ [([b8.2.2], i64.wrap (b5.2 + 15))]).length : Int) - 3) else 0).toNat))).bind fun b9 => RET (b9, (0, 0, 0, 0, 0, 0, false, false, []), false)) none)) (Az b8.1 b8.2.1 ((Xhh k (An b8.2.1 b8.1) b8.2.2).bind fun b10 => cond (!b10.2) ((Xrs k b8.2.1 b8.1 (i64.wrap (b8.1 + 1))).bind fun b11 => (Mu k b11).bind fun b12 => RET (b12, (0, 0, 0, 0, 0, 0, false, false, []), false)) ((Xhg k b10.1).bind fun b13 => cond b13.2 ((Xrs k b8.2.1 b8.1 (i64.wrap (b8.1 + 1))).bind fun b14 => (Mu k b14).bind fun b15 => RET (b15, b13.1, true)) (Az b8.1 b8.2.1 ((Mu k (b8.2.1.set b8.1.toNat b10.1)).bind fun b16 => RET (b16, (0, 0, 0, 0, 0, 0, false, false, []), false))))))
def Nf {β : Type} (RET : (Ae × (den Ad) × Bool) → Option β) (k : Nat) (v : Ae) (w : (den Ad)) (p : Int) : Option β := (X7 k v).bind fun b1 => cond (!b1) (RET ([], (0, 0, 0, 0, 0, 0, false, false, []), false)) ((F89 k w).bind fun b2 => cond (!b2) (RET ([], (0, 0, 0, 0, 0, 0, false, false, []), false)) ((Tm k p 0 999985).bind fun b3 => cond (!b3) (RET ([], (0, 0, 0, 0, 0, 0, false, false, []), false)) ((Mu k v).bind fun b4 => (Yk k b4 p).bind fun b5 => cond (w.2.2.2.2.2.1 == 0) (cond (!w.2.2.2.2.2.2.1) ((Mu k b5.1).bind fun b6 => (Pq k w).bind fun b7 => RET (b6, b7, true)) (Lu k v w p RET b5)) (Lu k v w p RET b5))))
def Q8 := Nf (β := Ae × (den Ad) × Bool) some
theorem Xt6 {β : Type} (k : Nat) (v : Ae) (w : (den Ad)) (p : Int) (K : KT β) : Ag (X0f k) Tryz.f141 (PsT.put Xlw (v, w, p, ())) K = (Q8 k v w p).bind fun r => K (F141_O.put r) :=
 Eq.trans (b := Nf (fun r => K (F141_O.put r)) k v w p) (by kernel_rfl) (by simp only [Q8, Nf, Lu, z1, z2, z3, z4, z5, z6, z7, z8, Ax])
def Xjf (k : Nat) : FD := ⟨141, Xlw, F141_O, Q8 k⟩
theorem X1w (k : Nat) : (Xjf k).Ok Tryz.prog := ⟨fun x => Aa (Vq [70] (Ak (.c (Xzz k) (.c (Xl5 k) (.c (Mp k) (.c (Xyk k) (.c (Xz3 k) (.c (Sp k) (.c (Xor k) (.c (X2f k) (.c (Xz0 k) (.c (Xw1 k) .n))))))))))) _ _ _ _) Ah Tryz.func141 rfl rfl (Xt6 k _ _ _ some), .of (by kernel_rfl)⟩
def X4e : Nat → Hint
 | 0 => ⟨(15, .own .own Ay []) :: (pl 35 3 []), pl 33000 1 []⟩
 | _ => ⟨[], []⟩
abbrev Xei (k : Nat) : Env := Ba (A0 [Xoe k, Xjf k, Rx k]) X4e .own [] k
abbrev Xpy : List PA := [.one (.sl .ro sta), .one mI, .one mI, .one mI, .one mI, .one (.sl .ro (.int .u8))]
abbrev F66_O : RO := ⟨[.v, .v], [.sl .own (.int .u8), mB]⟩
noncomputable def X4o {β : Type} (k : Nat) (v : Ab) (w p q o : Int) (c : Ac) (K : KT β) : Ex → St → Option β := Bi (Xei k) Tryz.f66 (PsT.put Xpy (v, w, p, q, o, c, ())) K
def X05 (v : Ab) (w p q o : Int) (c : Ac) (x36_0 x37_0 : Int) (m33000_0 : Am) (m15900_0 : Ae) : St := ⟨dz 15 ((.one (.a (.cell 15900) 0 0 none)) :: dz 19 ((.one (.a (.cell 33000) 0 0 none)) :: (.one (vI x36_0)) :: (.one (vI x37_0)) :: dz 16 [])), [eM 33000 (.s .own Ad m33000_0), eM 15900 (.s .own Ay m15900_0)]⟩
noncomputable def Ql {β : Type} (k : Nat) (v : Ab) (w p q o : Int) (c : Ac) (K : KT β) (n : Nat) (x36_0 x37_0 : Int) (m33000_0 : Am) (m15900_0 : Ae) : Option β := A1 (Xei k) Tryz.f66 [1, 1, 1, 0, 1, 0] 0 (Ai (Xei k) [1, 1, 1, 0, 1, 0] (Al Tryz.f66) 0 (X4o k v w p q o c K)) n (X05 v w p q o c x36_0 x37_0 m33000_0 m15900_0)
def Hz {β : Type} (NX : Int → Int → Am → Ae → Option β) (RET : (Ac × Bool) → Option β) (k : Nat) (v : Ab) (w p q o : Int) (c : Ac) (x36_0 x37_0 : Int) (m33000_0 : Am) (m15900_0 : Ae) : Option β := cond (decide (x37_0 < x36_0)) (Az x37_0 m33000_0 ((Q8 k m15900_0 (An m33000_0 x37_0) 0).bind fun b2 => cond b2.2.2 ((Q4 k b2.2.1.2.2.2.2.2.2.2.2).bind fun b3 => RET (b3, true)) (NX x36_0 (i64.wrap (x37_0 + 1)) m33000_0 b2.1))) (RET ([], false))
def H7 (k : Nat) (v : Ab) (w p q o : Int) (c : Ac) : Nat → Int → Int → Am → Ae → Option (Ac × Bool)
 | 0, _, _, _, _ => none
 | n + 1, x36_0, x37_0, m33000_0, m15900_0 => Hz (H7 k v w p q o c n) some k v w p q o c x36_0 x37_0 m33000_0 m15900_0
theorem Xhq {β : Type} (k : Nat) (v : Ab) (w p q o : Int) (c : Ac) (K : KT β) (n : Nat) : ∀ (x36_0 x37_0 : Int) (m33000_0 : Am) (m15900_0 : Ae), Ql k v w p q o c K n x36_0 x37_0 m33000_0 m15900_0 =
  (H7 k v w p q o c n x36_0 x37_0 m33000_0 m15900_0).bind fun r => K (F66_O.put r) := by
 induction n with
 | zero => intros; rfl
 | succ n ih =>
  intro x36_0 x37_0 m33000_0 m15900_0
  refine Eq.trans (b := Hz (Ql k v w p q o c K n) (fun r => K (F66_O.put r)) k v w p q o c x36_0 x37_0 m33000_0 m15900_0) (by kernel_rfl) ?_
  rw [H7]
  simp only [Hz, z1, z2, z3, z4, z5, z6, z7, z8, ih]
def Xe8 {β : Type} (LP0 : Int → Int → Am → Ae → Option β) (k : Nat) (v : Ab) (w p q o : Int) (c : Ac) : Option β := Az w v ((Xg6 k v w ((An v w).1, p, q, 64, o, 0, false, false, c)).bind fun b1 => LP0 (b1.1.length : Int) 0 b1.1 [])
def F66 (k : Nat) (v : Ab) (w p q o : Int) (c : Ac) : Option (Ac × Bool) := Xe8 (H7 k v w p q o c k) k v w p q o c
theorem Xwt {β : Type} (k : Nat) (v : Ab) (w p q o : Int) (c : Ac) (K : KT β) : Ag (Xei k) Tryz.f66 (PsT.put Xpy (v, w, p, q, o, c, ())) K = (F66 k v w p q o c).bind fun r => K (F66_O.put r) :=
 Eq.trans (b := Xe8 (Ql k v w p q o c K k) k v w p q o c) (by kernel_rfl) (by simp only [F66, Xe8, z1, z2, z3, z4, z5, z6, z7, z8, Xhq])
def Xu4 (k : Nat) : FD := ⟨66, Xpy, F66_O, F66 k⟩
theorem X5k (k : Nat) : (Xu4 k).Ok Tryz.prog := ⟨fun x => Aa (Aj (Ak (.c (X28 k) (.c (X1w k) (.c (Xv k) .n)))) _ _ _ _) Ah Tryz.func66 rfl rfl (Xwt k _ _ _ _ _ _ some), .of (by kernel_rfl)⟩
abbrev X4a (k : Nat) : Env := Ba (A0 [Xv8 k, Kh k, Sq k, Xu4 k]) Ap .own [] k
abbrev Xv7 : List PA := [.one (.sl .ro sta), .one mI, .one mI, .one mI, .one mI, .one (.sl .ro (.int .u8))]
abbrev F16_O : RO := ⟨[.v, .v], [.sl .own (.int .u8), mB]⟩
def Xfi {β : Type} (RET : (Ac × Bool) → Option β) (k : Nat) (v : Ab) (w p q o : Int) (c : Ac) : Option β := (F31 k v).bind fun b1 => cond (!b1) (RET ([], false)) ((Tm k w 0 (i64.wrap ((v.length : Int) - 1))).bind fun b2 => cond (!b2) (RET ([], false)) ((F65 k p).bind fun b3 => cond (!b3) (RET ([], false)) ((Tm k q 0 255).bind fun b4 => cond (!b4) (RET ([], false)) ((Tm k o 0 255).bind fun b5 => cond (!b5) (RET ([], false)) (cond (decide ((c.length : Int) > 48)) (RET ([], false)) ((F66 k v w p q o c).bind fun b6 => RET b6))))))
def F16 := Xfi (β := Ac × Bool) some
theorem Xzl {β : Type} (k : Nat) (v : Ab) (w p q o : Int) (c : Ac) (K : KT β) : Ag (X4a k) Tryz.f16 (PsT.put Xv7 (v, w, p, q, o, c, ())) K = (F16 k v w p q o c).bind fun r => K (F16_O.put r) :=
 Eq.trans (b := Xfi (fun r => K (F16_O.put r)) k v w p q o c) (by kernel_rfl) (by simp only [F16, Xfi, z1, z2, z3, z4, z5, z6, z7, z8])
def Xv5 (k : Nat) : FD := ⟨16, Xv7, F16_O, F16 k⟩
theorem X48 (k : Nat) : (Xv5 k).Ok Tryz.prog := ⟨fun x => Aa (Aj (Ak (.c (X5h k) (.c (Mp k) (.c (Tf k) (.c (X5k k) .n))))) _ _ _ _) Ah Tryz.func16 rfl rfl (Xzl k _ _ _ _ _ _ some), .of (by kernel_rfl)⟩
end
end Go.Proofs.YtdmepjjepogddaaGreat.Gn
end

section
set_option linter.unusedVariables false
set_option linter.unusedSimpArgs false
namespace Go.Proofs.YtdmepjjepogddaaGreat.Gn
open Go.Rf IntKind
noncomputable section
abbrev Xyc (k : Nat) : Env := Ba Bl Ap .own [] k
abbrev Xpa : List PA := [.one (.sl .ro B4), .one mI]
abbrev F128_O : RO := ⟨[.v], [mI]⟩
def Xh {β : Type} (RET : Int → Option β) (k : Nat) (v : Au) (w : Int) : Option β := cond (decide ((i64.wrap (w - (v.length : Int))) < 0)) (RET (-1)) (RET (i64.wrap (w - (v.length : Int))))
def Xb3 := Xh (β := Int) some
theorem Xup {β : Type} (k : Nat) (v : Au) (w : Int) (K : KT β) : Ag (Xyc k) Tryz.f128 (PsT.put Xpa (v, w, ())) K = (Xb3 k v w).bind fun r => K (F128_O.put r) :=
 Eq.trans (b := Xh (fun r => K (F128_O.put r)) k v w) (by kernel_rfl) (by simp only [Xb3, Xh, z1, z2, z3, z4, z5, z6, z7, z8])
def Xni (k : Nat) : FD := ⟨128, Xpa, F128_O, Xb3 k⟩
theorem Xzo (k : Nat) : (Xni k).Ok Tryz.prog := ⟨fun x => Aa (Aj .none _ _ _ _) Ah Tryz.func128 rfl rfl (Xup k _ _ some), .of (by kernel_rfl)⟩
abbrev X3z (k : Nat) : Env := Ba (A0 [Xni k]) Ap .own [] k
abbrev Xv2 : List PA := [.agg (.pair mI (.sl .ro B4)), .one mI]
abbrev F58_O : RO := ⟨[.v], [mI]⟩
def F58 (k : Nat) (v : (den sta)) (w : Int) : Option (Int) := (Xb3 k v.2 w).bind fun b1 => cond (decide (b1 < 0)) (some (-1)) (some b1)
theorem X1d {β : Type} (k : Nat) (v : (den sta)) (w : Int) (K : KT β) : Ag (X3z k) Tryz.f58 (PsT.put Xv2 (v, w, ())) K = (F58 k v w).bind fun r => K (F58_O.put r) :=
 Eq.trans (b := (Xb3 k v.2 w).bind fun b1 => cond (decide (b1 < 0)) (K (F58_O.put (-1))) (K (F58_O.put b1))) (by kernel_rfl) (by simp only [F58, z1, z2, z3, z4, z5, z6, z7, z8])
def Xwd (k : Nat) : FD := ⟨58, Xv2, F58_O, F58 k⟩
theorem X55 (k : Nat) : (Xwd k).Ok Tryz.prog := ⟨fun x => Aa (Aj (Ak (.c (Xzo k) .n)) _ _ _ _) Ah Tryz.func58 rfl rfl (X1d k _ _ some), .of (by kernel_rfl)⟩
def X5i : Nat → Hint
 | 0 => ⟨pl 0 2 (pl 5 1 []), []⟩
 | _ => ⟨[], []⟩
abbrev Xfe (k : Nat) : Env := Ba (A0 [Xwd k]) X5i .own [] k
abbrev Xnr : List PA := [.one (.sl .ro sta), .one mI]
abbrev F12_O : RO := ⟨[.v], [mI]⟩
noncomputable def X4d {β : Type} (k : Nat) (v : Ab) (w : Int) (K : KT β) : Ex → St → Option β := Bi (Xfe k) Tryz.f12 (PsT.put Xnr (v, w, ())) K
def X1h (v : Ab) (w : Int) (x1_0 x5_0 : Int) : St := ⟨(.one (.s .ro sta v)) :: (.one (vI x1_0)) :: dz 3 ((.one (vI x5_0)) :: dz 21 []), []⟩
noncomputable def P9 {β : Type} (k : Nat) (v : Ab) (w : Int) (K : KT β) (n : Nat) (x1_0 x5_0 : Int) : Option β := A1 (Xfe k) Tryz.f12 [1, 1, 1, 0, 1, 0] 0 (Ai (Xfe k) [1, 1, 1, 0, 1, 0] (Al Tryz.f12) 0 (X4d k v w K)) n (X1h v w x1_0 x5_0)
def Mm {β : Type} (NX : Int → Int → Option β) (RET : Int → Option β) (k : Nat) (v : Ab) (w : Int) (x1_0 x5_0 : Int) : Option β := cond (decide (x5_0 < (v.length : Int))) (Az x5_0 v ((F58 k (An v x5_0) x1_0).bind fun b1 => cond (decide (b1 < 0)) (RET (-1)) (NX b1 (i64.wrap (x5_0 + 1))))) (RET x1_0)
def N8 (k : Nat) (v : Ab) (w : Int) : Nat → Int → Int → Option (Int)
 | 0, _, _ => none
 | n + 1, x1_0, x5_0 => Mm (N8 k v w n) some k v w x1_0 x5_0
theorem Xg1 {β : Type} (k : Nat) (v : Ab) (w : Int) (K : KT β) (n : Nat) : ∀ (x1_0 x5_0 : Int), P9 k v w K n x1_0 x5_0 =
  (N8 k v w n x1_0 x5_0).bind fun r => K (F12_O.put r) := by
 induction n with
 | zero => intros; rfl
 | succ n ih =>
  intro x1_0 x5_0
  refine Eq.trans (b := Mm (P9 k v w K n) (fun r => K (F12_O.put r)) k v w x1_0 x5_0) (by kernel_rfl) ?_
  rw [N8]
  simp only [Mm, z1, z2, z3, z4, z5, z6, z7, z8, ih]
def Xel {β : Type} (LP0 : Int → Int → Option β) (RET : Int → Option β) (k : Nat) (v : Ab) (w : Int) : Option β := cond (decide ((i64.wrap (w - (v.length : Int))) < 0)) (RET (-1)) (LP0 (i64.wrap (w - (v.length : Int))) 0)
def F12 (k : Nat) (v : Ab) (w : Int) : Option (Int) := Xel (N8 k v w k) some k v w
theorem X0v {β : Type} (k : Nat) (v : Ab) (w : Int) (K : KT β) : Ag (Xfe k) Tryz.f12 (PsT.put Xnr (v, w, ())) K = (F12 k v w).bind fun r => K (F12_O.put r) :=
 Eq.trans (b := Xel (P9 k v w K k) (fun r => K (F12_O.put r)) k v w) (by kernel_rfl) (by simp only [F12, Xel, z1, z2, z3, z4, z5, z6, z7, z8, Xg1])
def Xvk (k : Nat) : FD := ⟨12, Xnr, F12_O, F12 k⟩
theorem X4i (k : Nat) : (Xvk k).Ok Tryz.prog := ⟨fun x => Aa (Aj (Ak (.c (X55 k) .n)) _ _ _ _) Ah Tryz.func12 rfl rfl (X0v k _ _ some), .of (by kernel_rfl)⟩
abbrev Xx4 (k : Nat) : Env := Ba Bl Ap .own [] k
abbrev Xjs : List PA := [.agg m_1]
abbrev F207_O : RO := ⟨[.a], [m_1]⟩
def Xnx (k : Nat) (v : (den B4)) : Option ((den B4)) := some v
theorem Xqg {β : Type} (k : Nat) (v : (den B4)) (K : KT β) : Ag (Xx4 k) Tryz.f207 (PsT.put Xjs (v, ())) K = (Xnx k v).bind fun r => K (F207_O.put r) :=
 Eq.trans (b := K (F207_O.put v)) (by kernel_rfl) (by simp only [Xnx, z1, z2, z3, z4, z5, z6, z7, z8])
def Xo5 (k : Nat) : FD := ⟨207, Xjs, F207_O, Xnx k⟩
theorem X18 (k : Nat) : (Xo5 k).Ok Tryz.prog := ⟨fun x => Aa (Aj .none _ _ _ _) Ah Tryz.func207 rfl rfl (Xqg k _ some), .of (by kernel_rfl)⟩
def X1t : Nat → Hint
 | 0 => ⟨pl 0 1 (pl 3 2 []), pl 7000 1 []⟩
 | _ => ⟨[], []⟩
abbrev Wb (k : Nat) : Env := Ba (A0 [Xo5 k]) X1t .own [] k
abbrev Xap : List PA := [.one (.sl .ro B4)]
abbrev F139_O : RO := ⟨[.v], [.sl .own B4]⟩
noncomputable def X3i {β : Type} (k : Nat) (v : Au) (K : KT β) : Ex → St → Option β := Bi (Wb k) Tryz.f139 (PsT.put Xap (v, ())) K
def Xs0 (v : Au) (x4_0 : Int) (m7000_0 : Au) : St := ⟨(.one (.s .ro B4 v)) :: (.one .d) :: (.one .d) :: (.one (.a (.cell 7000) 0 0 none)) :: (.one (vI x4_0)) :: dz 18 [], [eM 7000 (.s .own B4 m7000_0)]⟩
noncomputable def N4 {β : Type} (k : Nat) (v : Au) (K : KT β) (n : Nat) (x4_0 : Int) (m7000_0 : Au) : Option β := A1 (Wb k) Tryz.f139 [1, 1, 0, 1, 0] 0 (Ai (Wb k) [1, 1, 0, 1, 0] (Al Tryz.f139) 0 (X3i k v K)) n (Xs0 v x4_0 m7000_0)
def Gi {β : Type} (NX : Int → Au → Option β) (RET : Au → Option β) (k : Nat) (v : Au) (x4_0 : Int) (m7000_0 : Au) : Option β := cond (decide (x4_0 < (v.length : Int))) (Az x4_0 v ((Xnx k (An v x4_0)).bind fun b1 => Az x4_0 m7000_0 (NX (i64.wrap (x4_0 + 1)) (m7000_0.set x4_0.toNat b1)))) (RET m7000_0)
def Hj (k : Nat) (v : Au) : Nat → Int → Au → Option (Au)
 | 0, _, _ => none
 | n + 1, x4_0, m7000_0 => Gi (Hj k v n) some k v x4_0 m7000_0
theorem Xdr {β : Type} (k : Nat) (v : Au) (K : KT β) (n : Nat) : ∀ (x4_0 : Int) (m7000_0 : Au), N4 k v K n x4_0 m7000_0 =
  (Hj k v n x4_0 m7000_0).bind fun r => K (F139_O.put r) := by
 induction n with
 | zero => intros; rfl
 | succ n ih =>
  intro x4_0 m7000_0
  refine Eq.trans (b := Gi (N4 k v K n) (fun r => K (F139_O.put r)) k v x4_0 m7000_0) (by kernel_rfl) ?_
  rw [Hj]
  simp only [Gi, z1, z2, z3, z4, z5, z6, z7, z8, ih]
def Uc {β : Type} (LP0 : Int → Au → Option β) (k : Nat) (v : Au) : Option β := cond (decide (0 ≤ (v.length : Int)) && decide ((v.length : Int) = (v.length : Int)) && decide ((v.length : Int) * (32 : Nat) ≤ 140737488355328)) (LP0 0 (List.replicate ((v.length : Int).toNat) (Bf B4))) none
def Xdj (k : Nat) (v : Au) : Option (Au) := Uc (Hj k v k) k v
theorem Xtk {β : Type} (k : Nat) (v : Au) (K : KT β) : Ag (Wb k) Tryz.f139 (PsT.put Xap (v, ())) K = (Xdj k v).bind fun r => K (F139_O.put r) :=
 Eq.trans (b := Uc (N4 k v K k) k v) (by kernel_rfl) (by simp only [Xdj, Uc, z1, z2, z3, z4, z5, z6, z7, z8, Xdr])
def Xph (k : Nat) : FD := ⟨139, Xap, F139_O, Xdj k⟩
theorem X2u (k : Nat) : (Xph k).Ok Tryz.prog := ⟨fun x => Aa (Aj (Ak (.c (X18 k) .n)) _ _ _ _) Ah Tryz.func139 rfl rfl (Xtk k _ some), .of (by kernel_rfl)⟩
abbrev X3y (k : Nat) : Env := Ba (A0 [Xph k]) Ap .own [] k
abbrev Xu9 : List PA := [.agg (.pair mI (.sl .ro B4))]
abbrev F63_O : RO := ⟨[.a], [.pair mI (.sl .own B4)]⟩
def F63 (k : Nat) (v : (den sta)) : Option ((den sta)) := (Xdj k v.2).bind fun b1 => some (v.1, b1)
theorem Xwi {β : Type} (k : Nat) (v : (den sta)) (K : KT β) : Ag (X3y k) Tryz.f63 (PsT.put Xu9 (v, ())) K = (F63 k v).bind fun r => K (F63_O.put r) :=
 Eq.trans (b := (Xdj k v.2).bind fun b1 => K (F63_O.put (v.1, b1))) (by kernel_rfl) (by simp only [F63, z1, z2, z3, z4, z5, z6, z7, z8])
def Xwb (k : Nat) : FD := ⟨63, Xu9, F63_O, F63 k⟩
theorem X37 (k : Nat) : (Xwb k).Ok Tryz.prog := ⟨fun x => Aa (Aj (Ak (.c (X2u k) .n)) _ _ _ _) Ah Tryz.func63 rfl rfl (Xwi k _ some), .of (by kernel_rfl)⟩
def X40 : Nat → Hint
 | 0 => ⟨pl 0 1 (pl 3 2 []), pl 7000 1 []⟩
 | _ => ⟨[], []⟩
abbrev Xeq (k : Nat) : Env := Ba (A0 [Xwb k]) X40 .own [] k
abbrev Xol : List PA := [.one (.sl .ro sta)]
abbrev F14_O : RO := ⟨[.v], [.sl .own sta]⟩
noncomputable def X5v {β : Type} (k : Nat) (v : Ab) (K : KT β) : Ex → St → Option β := Bi (Xeq k) Tryz.f14 (PsT.put Xol (v, ())) K
def X0u (v : Ab) (x4_0 : Int) (m7000_0 : Ab) : St := ⟨(.one (.s .ro sta v)) :: (.one .d) :: (.one .d) :: (.one (.a (.cell 7000) 0 0 none)) :: (.one (vI x4_0)) :: dz 18 [], [eM 7000 (.s .own sta m7000_0)]⟩
noncomputable def Q5 {β : Type} (k : Nat) (v : Ab) (K : KT β) (n : Nat) (x4_0 : Int) (m7000_0 : Ab) : Option β := A1 (Xeq k) Tryz.f14 [1, 1, 0, 1, 0] 0 (Ai (Xeq k) [1, 1, 0, 1, 0] (Al Tryz.f14) 0 (X5v k v K)) n (X0u v x4_0 m7000_0)
def I3 {β : Type} (NX : Int → Ab → Option β) (RET : Ab → Option β) (k : Nat) (v : Ab) (x4_0 : Int) (m7000_0 : Ab) : Option β := cond (decide (x4_0 < (v.length : Int))) (Az x4_0 v ((F63 k (An v x4_0)).bind fun b1 => Az x4_0 m7000_0 (NX (i64.wrap (x4_0 + 1)) (m7000_0.set x4_0.toNat b1)))) (RET m7000_0)
def Kt (k : Nat) (v : Ab) : Nat → Int → Ab → Option (Ab)
 | 0, _, _ => none
 | n + 1, x4_0, m7000_0 => I3 (Kt k v n) some k v x4_0 m7000_0
theorem Xiq {β : Type} (k : Nat) (v : Ab) (K : KT β) (n : Nat) : ∀ (x4_0 : Int) (m7000_0 : Ab), Q5 k v K n x4_0 m7000_0 =
  (Kt k v n x4_0 m7000_0).bind fun r => K (F14_O.put r) := by
 induction n with
 | zero => intros; rfl
 | succ n ih =>
  intro x4_0 m7000_0
  refine Eq.trans (b := I3 (Q5 k v K n) (fun r => K (F14_O.put r)) k v x4_0 m7000_0) (by kernel_rfl) ?_
  rw [Kt]
  simp only [I3, z1, z2, z3, z4, z5, z6, z7, z8, ih]
def Xga {β : Type} (LP0 : Int → Ab → Option β) (k : Nat) (v : Ab) : Option β := cond (decide (0 ≤ (v.length : Int)) && decide ((v.length : Int) = (v.length : Int)) && decide ((v.length : Int) * (32 : Nat) ≤ 140737488355328)) (LP0 0 (List.replicate ((v.length : Int).toNat) (Bf sta))) none
def F14 (k : Nat) (v : Ab) : Option (Ab) := Xga (Kt k v k) k v
theorem Xz2 {β : Type} (k : Nat) (v : Ab) (K : KT β) : Ag (Xeq k) Tryz.f14 (PsT.put Xol (v, ())) K = (F14 k v).bind fun r => K (F14_O.put r) :=
 Eq.trans (b := Xga (Q5 k v K k) k v) (by kernel_rfl) (by simp only [F14, Xga, z1, z2, z3, z4, z5, z6, z7, z8, Xiq])
def Xwa (k : Nat) : FD := ⟨14, Xol, F14_O, F14 k⟩
theorem X58 (k : Nat) : (Xwa k).Ok Tryz.prog := ⟨fun x => Aa (Aj (Ak (.c (X37 k) .n)) _ _ _ _) Ah Tryz.func14 rfl rfl (Xz2 k _ some), .of (by kernel_rfl)⟩
def X42 : Nat → Hint
 | 0 => ⟨pl 0 1 (pl 3 2 []), pl 7000 1 []⟩
 | _ => ⟨[], []⟩
abbrev Xem (k : Nat) : Env := Ba Bl X42 .own [] k
abbrev Xl2 : List PA := [.one (.sl .ro (.int .u8))]
abbrev F15_O : RO := ⟨[.v], [.sl .own (.int .u8)]⟩
noncomputable def X5g {β : Type} (k : Nat) (v : Ac) (K : KT β) : Ex → St → Option β := Bi (Xem k) Tryz.f15 (PsT.put Xl2 (v, ())) K
def Xzw (v : Ac) (x4_0 : Int) (m7000_0 : Ac) : St := ⟨(.one (.s .ro (.int .u8) v)) :: (.one .d) :: (.one .d) :: (.one (.a (.cell 7000) 0 0 none)) :: (.one (vI x4_0)) :: dz 17 [], [eM 7000 (.s .own (.int .u8) m7000_0)]⟩
noncomputable def Qw {β : Type} (k : Nat) (v : Ac) (K : KT β) (n : Nat) (x4_0 : Int) (m7000_0 : Ac) : Option β := A1 (Xem k) Tryz.f15 [1, 1, 0, 1, 0] 0 (Ai (Xem k) [1, 1, 0, 1, 0] (Al Tryz.f15) 0 (X5g k v K)) n (Xzw v x4_0 m7000_0)
def Iz {β : Type} (NX : Int → Ac → Option β) (RET : Ac → Option β) (k : Nat) (v : Ac) (x4_0 : Int) (m7000_0 : Ac) : Option β := cond (decide (x4_0 < (v.length : Int))) (Az x4_0 v (Az x4_0 m7000_0 (NX (i64.wrap (x4_0 + 1)) (m7000_0.set x4_0.toNat (An v x4_0))))) (RET m7000_0)
def Ks (k : Nat) (v : Ac) : Nat → Int → Ac → Option (Ac)
 | 0, _, _ => none
 | n + 1, x4_0, m7000_0 => Iz (Ks k v n) some k v x4_0 m7000_0
theorem Xiz {β : Type} (k : Nat) (v : Ac) (K : KT β) (n : Nat) : ∀ (x4_0 : Int) (m7000_0 : Ac), Qw k v K n x4_0 m7000_0 =
  (Ks k v n x4_0 m7000_0).bind fun r => K (F15_O.put r) := by
 induction n with
 | zero => intros; rfl
 | succ n ih =>
  intro x4_0 m7000_0
  refine Eq.trans (b := Iz (Qw k v K n) (fun r => K (F15_O.put r)) k v x4_0 m7000_0) (by kernel_rfl) ?_
  rw [Ks]
  simp only [Iz, z1, z2, z3, z4, z5, z6, z7, z8, ih]
def Xfj {β : Type} (LP0 : Int → Ac → Option β) (k : Nat) (v : Ac) : Option β := cond (decide (0 ≤ (v.length : Int)) && decide ((v.length : Int) = (v.length : Int)) && decide ((v.length : Int) * (1 : Nat) ≤ 140737488355328)) (LP0 0 (List.replicate ((v.length : Int).toNat) (Bf (.int .u8)))) none
def F15 (k : Nat) (v : Ac) : Option (Ac) := Xfj (Ks k v k) k v
theorem Xwm {β : Type} (k : Nat) (v : Ac) (K : KT β) : Ag (Xem k) Tryz.f15 (PsT.put Xl2 (v, ())) K = (F15 k v).bind fun r => K (F15_O.put r) :=
 Eq.trans (b := Xfj (Qw k v K k) k v) (by kernel_rfl) (by simp only [F15, Xfj, z1, z2, z3, z4, z5, z6, z7, z8, Xiz])
def Xwe (k : Nat) : FD := ⟨15, Xl2, F15_O, F15 k⟩
theorem X5e (k : Nat) : (Xwe k).Ok Tryz.prog := ⟨fun x => Aa (Aj .none _ _ _ _) Ah Tryz.func15 rfl rfl (Xwm k _ some), .of (by kernel_rfl)⟩
def X4y : Nat → Hint
 | 0 => ⟨pl 0 2 (pl 5 1 []), []⟩
 | _ => ⟨[], []⟩
abbrev Xeu (k : Nat) : Env := Ba Bl X4y .own [] k
abbrev Xp2 : List PA := [.one (.sl .ro (.int .u8)), .one (.sl .ro (.int .u8))]
abbrev F17_O : RO := ⟨[.v], [mB]⟩
noncomputable def X41 {β : Type} (k : Nat) (v w : Ac) (K : KT β) : Ex → St → Option β := Bi (Xeu k) Tryz.f17 (PsT.put Xp2 (v, w, ())) K
def Xy3 (v w : Ac) (x5_0 : Int) : St := ⟨(.one (.s .ro (.int .u8) v)) :: (.one (.s .ro (.int .u8) w)) :: dz 3 ((.one (vI x5_0)) :: dz 20 []), []⟩
noncomputable def Qu {β : Type} (k : Nat) (v w : Ac) (K : KT β) (n : Nat) (x5_0 : Int) : Option β := A1 (Xeu k) Tryz.f17 [1, 1, 0, 1, 0] 0 (Ai (Xeu k) [1, 1, 0, 1, 0] (Al Tryz.f17) 0 (X41 k v w K)) n (Xy3 v w x5_0)
def I4 {β : Type} (NX : Int → Option β) (RET : Bool → Option β) (k : Nat) (v w : Ac) (x5_0 : Int) : Option β := cond (decide (x5_0 < (v.length : Int))) (Az x5_0 v (Az x5_0 w (cond ((An v x5_0) != (An w x5_0)) (RET false) (NX (i64.wrap (x5_0 + 1)))))) (RET true)
def Kp (k : Nat) (v w : Ac) : Nat → Int → Option (Bool)
 | 0, _ => none
 | n + 1, x5_0 => I4 (Kp k v w n) some k v w x5_0
theorem Xhj {β : Type} (k : Nat) (v w : Ac) (K : KT β) (n : Nat) : ∀ (x5_0 : Int), Qu k v w K n x5_0 =
  (Kp k v w n x5_0).bind fun r => K (F17_O.put r) := by
 induction n with
 | zero => intros; rfl
 | succ n ih =>
  intro x5_0
  refine Eq.trans (b := I4 (Qu k v w K n) (fun r => K (F17_O.put r)) k v w x5_0) (by kernel_rfl) ?_
  rw [Kp]
  simp only [I4, z1, z2, z3, z4, z5, z6, z7, z8, ih]
def Xfq {β : Type} (LP0 : Int → Option β) (RET : Bool → Option β) (k : Nat) (v w : Ac) : Option β := cond ((v.length : Int) != (w.length : Int)) (RET false) (LP0 0)
def F17 (k : Nat) (v w : Ac) : Option (Bool) := Xfq (Kp k v w k) some k v w
theorem Xwx {β : Type} (k : Nat) (v w : Ac) (K : KT β) : Ag (Xeu k) Tryz.f17 (PsT.put Xp2 (v, w, ())) K = (F17 k v w).bind fun r => K (F17_O.put r) :=
 Eq.trans (b := Xfq (Qu k v w K k) (fun r => K (F17_O.put r)) k v w) (by kernel_rfl) (by simp only [F17, Xfq, z1, z2, z3, z4, z5, z6, z7, z8, Xhj])
def Xu8 (k : Nat) : FD := ⟨17, Xp2, F17_O, F17 k⟩
theorem X53 (k : Nat) : (Xu8 k).Ok Tryz.prog := ⟨fun x => Aa (Aj .none _ _ _ _) Ah Tryz.func17 rfl rfl (Xwx k _ _ some), .of (by kernel_rfl)⟩
abbrev Xxc (k : Nat) : Env := Ba Bl Ap .own [] k
abbrev Xmd : List PA := [.agg m_1, .agg m_1]
abbrev F221_O : RO := ⟨[.v], [mB]⟩
def Vt {β : Type} (RET : Bool → Option β) (k : Nat) (v w : (den B4)) : Option β := cond (v.1 != w.1) (RET false) (cond (v.2.1 != w.2.1) (RET false) (cond (v.2.2.1 != w.2.2.1) (RET false) (cond (v.2.2.2 != w.2.2.2) (RET false) (RET true))))
def Xh2 := Vt (β := Bool) some
theorem Xr1 {β : Type} (k : Nat) (v w : (den B4)) (K : KT β) : Ag (Xxc k) Tryz.f221 (PsT.put Xmd (v, w, ())) K = (Xh2 k v w).bind fun r => K (F221_O.put r) :=
 Eq.trans (b := Vt (fun r => K (F221_O.put r)) k v w) (by kernel_rfl) (by simp only [Xh2, Vt, z1, z2, z3, z4, z5, z6, z7, z8, Gf])
def Xo4 (k : Nat) : FD := ⟨221, Xmd, F221_O, Xh2 k⟩
theorem Xxi (k : Nat) : (Xo4 k).Ok Tryz.prog := ⟨fun x => Aa (Aj .none _ _ _ _) Ah Tryz.func221 rfl rfl (Xr1 k _ _ some), .of (by kernel_rfl)⟩
def Xwn : Nat → Hint
 | 0 => ⟨pl 0 2 (pl 5 1 []), []⟩
 | _ => ⟨[], []⟩
abbrev Ug (k : Nat) : Env := Ba (A0 [Xo4 k]) Xwn .own [] k
abbrev Xba : List PA := [.one (.sl .ro B4), .one (.sl .ro B4)]
abbrev F142_O : RO := ⟨[.v], [mB]⟩
noncomputable def Xyj {β : Type} (k : Nat) (v w : Au) (K : KT β) : Ex → St → Option β := Bi (Ug k) Tryz.f142 (PsT.put Xba (v, w, ())) K
def Xsf (v w : Au) (x5_0 : Int) : St := ⟨(.one (.s .ro B4 v)) :: (.one (.s .ro B4 w)) :: dz 3 ((.one (vI x5_0)) :: dz 21 []), []⟩
noncomputable def N6 {β : Type} (k : Nat) (v w : Au) (K : KT β) (n : Nat) (x5_0 : Int) : Option β := A1 (Ug k) Tryz.f142 [1, 1, 0, 1, 0] 0 (Ai (Ug k) [1, 1, 0, 1, 0] (Al Tryz.f142) 0 (Xyj k v w K)) n (Xsf v w x5_0)
def F1 {β : Type} (NX : Int → Option β) (RET : Bool → Option β) (k : Nat) (v w : Au) (x5_0 : Int) : Option β := cond (decide (x5_0 < (v.length : Int))) (Az x5_0 v (Az x5_0 w ((Xh2 k (An v x5_0) (An w x5_0)).bind fun b1 => cond (!b1) (RET false) (NX (i64.wrap (x5_0 + 1)))))) (RET true)
def Gy (k : Nat) (v w : Au) : Nat → Int → Option (Bool)
 | 0, _ => none
 | n + 1, x5_0 => F1 (Gy k v w n) some k v w x5_0
theorem Xa8 {β : Type} (k : Nat) (v w : Au) (K : KT β) (n : Nat) : ∀ (x5_0 : Int), N6 k v w K n x5_0 =
  (Gy k v w n x5_0).bind fun r => K (F142_O.put r) := by
 induction n with
 | zero => intros; rfl
 | succ n ih =>
  intro x5_0
  refine Eq.trans (b := F1 (N6 k v w K n) (fun r => K (F142_O.put r)) k v w x5_0) (by kernel_rfl) ?_
  rw [Gy]
  simp only [F1, z1, z2, z3, z4, z5, z6, z7, z8, ih]
def Xk {β : Type} (LP0 : Int → Option β) (RET : Bool → Option β) (k : Nat) (v w : Au) : Option β := cond ((v.length : Int) != (w.length : Int)) (RET false) (LP0 0)
def Xic (k : Nat) (v w : Au) : Option (Bool) := Xk (Gy k v w k) some k v w
theorem Xq2 {β : Type} (k : Nat) (v w : Au) (K : KT β) : Ag (Ug k) Tryz.f142 (PsT.put Xba (v, w, ())) K = (Xic k v w).bind fun r => K (F142_O.put r) :=
 Eq.trans (b := Xk (N6 k v w K k) (fun r => K (F142_O.put r)) k v w) (by kernel_rfl) (by simp only [Xic, Xk, z1, z2, z3, z4, z5, z6, z7, z8, Xa8])
def Xo8 (k : Nat) : FD := ⟨142, Xba, F142_O, Xic k⟩
theorem Xzk (k : Nat) : (Xo8 k).Ok Tryz.prog := ⟨fun x => Aa (Aj (Ak (.c (Xxi k) .n)) _ _ _ _) Ah Tryz.func142 rfl rfl (Xq2 k _ _ some), .of (by kernel_rfl)⟩
abbrev X52 (k : Nat) : Env := Ba (A0 [Xo8 k]) Ap .own [] k
abbrev Xvc : List PA := [.agg (.pair mI (.sl .ro B4)), .agg (.pair mI (.sl .ro B4))]
abbrev F67_O : RO := ⟨[.v], [mB]⟩
def Xeh {β : Type} (RET : Bool → Option β) (k : Nat) (v w : (den sta)) : Option β := cond (v.1 != w.1) (RET false) ((Xic k v.2 w.2).bind fun b1 => cond (!b1) (RET false) (RET true))
def F67 := Xeh (β := Bool) some
theorem Xy1 {β : Type} (k : Nat) (v w : (den sta)) (K : KT β) : Ag (X52 k) Tryz.f67 (PsT.put Xvc (v, w, ())) K = (F67 k v w).bind fun r => K (F67_O.put r) :=
 Eq.trans (b := Xeh (fun r => K (F67_O.put r)) k v w) (by kernel_rfl) (by simp only [F67, Xeh, z1, z2, z3, z4, z5, z6, z7, z8])
def Xvu (k : Nat) : FD := ⟨67, Xvc, F67_O, F67 k⟩
theorem X31 (k : Nat) : (Xvu k).Ok Tryz.prog := ⟨fun x => Aa (Aj (Ak (.c (Xzk k) .n)) _ _ _ _) Ah Tryz.func67 rfl rfl (Xy1 k _ _ some), .of (by kernel_rfl)⟩
def X5n : Nat → Hint
 | 0 => ⟨pl 0 2 (pl 5 1 []), []⟩
 | _ => ⟨[], []⟩
abbrev Xez (k : Nat) : Env := Ba (A0 [Xvu k]) X5n .own [] k
abbrev Xmb : List PA := [.one (.sl .ro sta), .one (.sl .ro sta)]
abbrev F18_O : RO := ⟨[.v], [mB]⟩
noncomputable def X50 {β : Type} (k : Nat) (v w : Ab) (K : KT β) : Ex → St → Option β := Bi (Xez k) Tryz.f18 (PsT.put Xmb (v, w, ())) K
def X1o (v w : Ab) (x5_0 : Int) : St := ⟨(.one (.s .ro sta v)) :: (.one (.s .ro sta w)) :: dz 3 ((.one (vI x5_0)) :: dz 21 []), []⟩
noncomputable def Qc {β : Type} (k : Nat) (v w : Ab) (K : KT β) (n : Nat) (x5_0 : Int) : Option β := A1 (Xez k) Tryz.f18 [1, 1, 0, 1, 0] 0 (Ai (Xez k) [1, 1, 0, 1, 0] (Al Tryz.f18) 0 (X50 k v w K)) n (X1o v w x5_0)
def Ht {β : Type} (NX : Int → Option β) (RET : Bool → Option β) (k : Nat) (v w : Ab) (x5_0 : Int) : Option β := cond (decide (x5_0 < (v.length : Int))) (Az x5_0 v (Az x5_0 w ((F67 k (An v x5_0) (An w x5_0)).bind fun b1 => cond (!b1) (RET false) (NX (i64.wrap (x5_0 + 1)))))) (RET true)
def K6 (k : Nat) (v w : Ab) : Nat → Int → Option (Bool)
 | 0, _ => none
 | n + 1, x5_0 => Ht (K6 k v w n) some k v w x5_0
theorem Xgq {β : Type} (k : Nat) (v w : Ab) (K : KT β) (n : Nat) : ∀ (x5_0 : Int), Qc k v w K n x5_0 =
  (K6 k v w n x5_0).bind fun r => K (F18_O.put r) := by
 induction n with
 | zero => intros; rfl
 | succ n ih =>
  intro x5_0
  refine Eq.trans (b := Ht (Qc k v w K n) (fun r => K (F18_O.put r)) k v w x5_0) (by kernel_rfl) ?_
  rw [K6]
  simp only [Ht, z1, z2, z3, z4, z5, z6, z7, z8, ih]
def Xft {β : Type} (LP0 : Int → Option β) (RET : Bool → Option β) (k : Nat) (v w : Ab) : Option β := cond ((v.length : Int) != (w.length : Int)) (RET false) (LP0 0)
def F18 (k : Nat) (v w : Ab) : Option (Bool) := Xft (K6 k v w k) some k v w
theorem Xyb {β : Type} (k : Nat) (v w : Ab) (K : KT β) : Ag (Xez k) Tryz.f18 (PsT.put Xmb (v, w, ())) K = (F18 k v w).bind fun r => K (F18_O.put r) :=
 Eq.trans (b := Xft (Qc k v w K k) (fun r => K (F18_O.put r)) k v w) (by kernel_rfl) (by simp only [F18, Xft, z1, z2, z3, z4, z5, z6, z7, z8, Xgq])
def Xvm (k : Nat) : FD := ⟨18, Xmb, F18_O, F18 k⟩
theorem X4k (k : Nat) : (Xvm k).Ok Tryz.prog := ⟨fun x => Aa (Aj (Ak (.c (X31 k) .n)) _ _ _ _) Ah Tryz.func18 rfl rfl (Xyb k _ _ some), .of (by kernel_rfl)⟩
def X4r : Nat → Hint
 | 0 => ⟨pl 0 2 (pl 5 1 []), pl 0 1 []⟩
 | _ => ⟨[], []⟩
abbrev Xfs (k : Nat) : Env := Ba Bl X4r .own [(true, 0)] k
abbrev Xmv : List PA := [.one (.lent .own B4), .one mI]
abbrev F68_O : RO := ⟨[.v], [mI, .sl .own B4]⟩
noncomputable def X4j {β : Type} (k : Nat) (v : Au) (w : Int) (K : KT β) : Ex → St → Option β := Bi (Xfs k) Tryz.f68 (PsT.put Xmv (v, w, ())) K
def X3t (v : Au) (w : Int) (x1_0 x5_0 : Int) (m0_0 : Au) : St := ⟨(.one (.a (.cell 0) 0 0 none)) :: (.one (vI x1_0)) :: dz 3 ((.one (vI x5_0)) :: dz 35 []), [eM 0 (.s .own B4 m0_0)]⟩
noncomputable def Sb {β : Type} (k : Nat) (v : Au) (w : Int) (K : KT β) (n : Nat) (x1_0 x5_0 : Int) (m0_0 : Au) : Option β := A1 (Xfs k) Tryz.f68 [1, 0, 1, 0] 0 (Ai (Xfs k) [1, 0, 1, 0] (Al Tryz.f68) 0 (X4j k v w K)) n (X3t v w x1_0 x5_0 m0_0)
def Hx {β : Type} (NX : Int → Int → Au → Option β) (RET : (Int × Au) → Option β) (k : Nat) (v : Au) (w : Int) (x1_0 x5_0 : Int) (m0_0 : Au) : Option β := cond (decide (x5_0 < (m0_0.length : Int))) (Az x5_0 m0_0 (Az x5_0 (m0_0.set x5_0.toNat (x1_0, (An m0_0 x5_0).2)) (Az x5_0 ((m0_0.set x5_0.toNat (x1_0, (An m0_0 x5_0).2)).set x5_0.toNat ((An (m0_0.set x5_0.toNat (x1_0, (An m0_0 x5_0).2)) x5_0).1, i64.wrap (x1_0 + 1), (An (m0_0.set x5_0.toNat (x1_0, (An m0_0 x5_0).2)) x5_0).2.2)) ((sto (((m0_0.set x5_0.toNat (x1_0, (An m0_0 x5_0).2)).set x5_0.toNat ((An (m0_0.set x5_0.toNat (x1_0, (An m0_0 x5_0).2)) x5_0).1, i64.wrap (x1_0 + 1), (An (m0_0.set x5_0.toNat (x1_0, (An m0_0 x5_0).2)) x5_0).2.2)).set x5_0.toNat ((An ((m0_0.set x5_0.toNat (x1_0, (An m0_0 x5_0).2)).set x5_0.toNat ((An (m0_0.set x5_0.toNat (x1_0, (An m0_0 x5_0).2)) x5_0).1, i64.wrap (x1_0 + 1), (An (m0_0.set x5_0.toNat (x1_0, (An m0_0 x5_0).2)) x5_0).2.2)) x5_0).1, (An ((m0_0.set x5_0.toNat (x1_0, (An m0_0 x5_0).2)).set x5_0.toNat ((An (m0_0.set x5_0.toNat (x1_0, (An m0_0 x5_0).2)) x5_0).1, i64.wrap (x1_0 + 1), (An (m0_0.set x5_0.toNat (x1_0, (An m0_0 x5_0).2)) x5_0).2.2)) x5_0).2.1, i64.wrap ((i64.wrap (x1_0 + 1)) + 1), (An ((m0_0.set x5_0.toNat (x1_0, (An m0_0 x5_0).2)).set x5_0.toNat ((An (m0_0.set x5_0.toNat (x1_0, (An m0_0 x5_0).2)) x5_0).1, i64.wrap (x1_0 + 1), (An (m0_0.set x5_0.toNat (x1_0, (An m0_0 x5_0).2)) x5_0).2.2)) x5_0).2.2.2))).bind fun b1 => Az x5_0 b1 (NX (i64.wrap ((i64.wrap ((i64.wrap ((i64.wrap (x1_0 + 1)) + 1)) + 1)) + 1)) (i64.wrap (x5_0 + 1)) (b1.set x5_0.toNat ((An b1 x5_0).1, (An b1 x5_0).2.1, (An b1 x5_0).2.2.1, i64.wrap ((i64.wrap ((i64.wrap (x1_0 + 1)) + 1)) + 1)))))))) (RET (x1_0, m0_0))
def K4 (k : Nat) (v : Au) (w : Int) : Nat → Int → Int → Au → Option (Int × Au)
 | 0, _, _, _ => none
 | n + 1, x1_0, x5_0, m0_0 => Hx (K4 k v w n) some k v w x1_0 x5_0 m0_0
theorem Xhv {β : Type} (k : Nat) (v : Au) (w : Int) (K : KT β) (n : Nat) : ∀ (x1_0 x5_0 : Int) (m0_0 : Au), Sb k v w K n x1_0 x5_0 m0_0 =
  (K4 k v w n x1_0 x5_0 m0_0).bind fun r => K (F68_O.put r) := by
 induction n with
 | zero => intros; rfl
 | succ n ih =>
  intro x1_0 x5_0 m0_0
  refine Eq.trans (b := Hx (Sb k v w K n) (fun r => K (F68_O.put r)) k v w x1_0 x5_0 m0_0) (by kernel_rfl) ?_
  rw [K4]
  simp only [Hx, z1, z2, z3, z4, z5, z6, z7, z8, ih]
def Xea {β : Type} (LP0 : Int → Int → Au → Option β) (k : Nat) (v : Au) (w : Int) : Option β := LP0 w 0 v
def F68 (k : Nat) (v : Au) (w : Int) : Option (Int × Au) := Xea (K4 k v w k) k v w
theorem Xzv {β : Type} (k : Nat) (v : Au) (w : Int) (K : KT β) : Ag (Xfs k) Tryz.f68 (PsT.put Xmv (v, w, ())) K = (F68 k v w).bind fun r => K (F68_O.put r) :=
 Eq.trans (b := Xea (Sb k v w K k) k v w) (by kernel_rfl) (by simp only [F68, Xea, z1, z2, z3, z4, z5, z6, z7, z8, Xhv])
def Xvv (k : Nat) : FD := ⟨68, Xmv, F68_O, F68 k⟩
theorem X5z (k : Nat) : (Xvv k).Ok Tryz.prog := ⟨fun x => Aa (Aj .none _ _ _ _) Ah Tryz.func68 rfl rfl (Xzv k _ _ some), .of (by kernel_rfl)⟩
def X44 : Nat → Hint
 | 0 => ⟨pl 0 2 (pl 5 1 []), pl 0 1 []⟩
 | _ => ⟨[], []⟩
abbrev Xe0 (k : Nat) : Env := Ba (A0 [Xvv k]) X44 .own [(true, 0)] k
abbrev Xoy : List PA := [.one (.lent .own sta), .one mI]
abbrev F19_O : RO := ⟨[.v], [mI, .sl .own sta]⟩
noncomputable def X4c {β : Type} (k : Nat) (v : Ab) (w : Int) (K : KT β) : Ex → St → Option β := Bi (Xe0 k) Tryz.f19 (PsT.put Xoy (v, w, ())) K
def X0r (v : Ab) (w : Int) (x1_0 x5_0 : Int) (m0_0 : Ab) : St := ⟨(.one (.a (.cell 0) 0 0 none)) :: (.one (vI x1_0)) :: dz 3 ((.one (vI x5_0)) :: dz 21 []), [eM 0 (.s .own sta m0_0)]⟩
noncomputable def R8 {β : Type} (k : Nat) (v : Ab) (w : Int) (K : KT β) (n : Nat) (x1_0 x5_0 : Int) (m0_0 : Ab) : Option β := A1 (Xe0 k) Tryz.f19 [1, 0, 1, 0] 0 (Ai (Xe0 k) [1, 0, 1, 0] (Al Tryz.f19) 0 (X4c k v w K)) n (X0r v w x1_0 x5_0 m0_0)
def Hv {β : Type} (NX : Int → Int → Ab → Option β) (RET : (Int × Ab) → Option β) (k : Nat) (v : Ab) (w : Int) (x1_0 x5_0 : Int) (m0_0 : Ab) : Option β := cond (decide (x5_0 < (m0_0.length : Int))) (Az x5_0 m0_0 (Az x5_0 (m0_0.set x5_0.toNat (x1_0, (An m0_0 x5_0).2)) ((F68 k (An (m0_0.set x5_0.toNat (x1_0, (An m0_0 x5_0).2)) x5_0).2 (i64.wrap (x1_0 + 1))).bind fun b1 => NX b1.1 (i64.wrap (x5_0 + 1)) ((m0_0.set x5_0.toNat (x1_0, (An m0_0 x5_0).2)).set x5_0.toNat ((An (m0_0.set x5_0.toNat (x1_0, (An m0_0 x5_0).2)) x5_0).1, b1.2))))) (RET (x1_0, m0_0))
def Km (k : Nat) (v : Ab) (w : Int) : Nat → Int → Int → Ab → Option (Int × Ab)
 | 0, _, _, _ => none
 | n + 1, x1_0, x5_0, m0_0 => Hv (Km k v w n) some k v w x1_0 x5_0 m0_0
theorem Xin {β : Type} (k : Nat) (v : Ab) (w : Int) (K : KT β) (n : Nat) : ∀ (x1_0 x5_0 : Int) (m0_0 : Ab), R8 k v w K n x1_0 x5_0 m0_0 =
  (Km k v w n x1_0 x5_0 m0_0).bind fun r => K (F19_O.put r) := by
 induction n with
 | zero => intros; rfl
 | succ n ih =>
  intro x1_0 x5_0 m0_0
  refine Eq.trans (b := Hv (R8 k v w K n) (fun r => K (F19_O.put r)) k v w x1_0 x5_0 m0_0) (by kernel_rfl) ?_
  rw [Km]
  simp only [Hv, z1, z2, z3, z4, z5, z6, z7, z8, ih]
def Xfx {β : Type} (LP0 : Int → Int → Ab → Option β) (k : Nat) (v : Ab) (w : Int) : Option β := LP0 w 0 v
def F19 (k : Nat) (v : Ab) (w : Int) : Option (Int × Ab) := Xfx (Km k v w k) k v w
theorem Xwu {β : Type} (k : Nat) (v : Ab) (w : Int) (K : KT β) : Ag (Xe0 k) Tryz.f19 (PsT.put Xoy (v, w, ())) K = (F19 k v w).bind fun r => K (F19_O.put r) :=
 Eq.trans (b := Xfx (R8 k v w K k) k v w) (by kernel_rfl) (by simp only [F19, Xfx, z1, z2, z3, z4, z5, z6, z7, z8, Xin])
def Xvr (k : Nat) : FD := ⟨19, Xoy, F19_O, F19 k⟩
theorem X35 (k : Nat) : (Xvr k).Ok Tryz.prog := ⟨fun x => Aa (Aj (Ak (.c (X5z k) .n)) _ _ _ _) Ah Tryz.func19 rfl rfl (Xwu k _ _ some), .of (by kernel_rfl)⟩
end
end Go.Proofs.YtdmepjjepogddaaGreat.Gn
end

section
set_option linter.unusedVariables false
set_option linter.unusedSimpArgs false
namespace Go.Proofs.YtdmepjjepogddaaGreat.Gn
open Go.Rf IntKind
noncomputable section
def X4m : Nat → Hint
 | 0 => ⟨pl 0 2 (pl 5 1 []), pl 0 1 []⟩
 | _ => ⟨[], []⟩
abbrev Xfa (k : Nat) : Env := Ba Bl X4m .own [(true, 0)] k
abbrev Xkv : List PA := [.one (.lent .own (.int .u8)), .one mI]
abbrev F20_O : RO := ⟨[.v], [mI, .sl .own (.int .u8)]⟩
noncomputable def X5j {β : Type} (k : Nat) (v : Ac) (w : Int) (K : KT β) : Ex → St → Option β := Bi (Xfa k) Tryz.f20 (PsT.put Xkv (v, w, ())) K
def Xw0 (v : Ac) (w : Int) (x1_0 x5_0 : Int) (m0_0 : Ac) : St := ⟨(.one (.a (.cell 0) 0 0 none)) :: (.one (vI x1_0)) :: dz 3 ((.one (vI x5_0)) :: dz 14 []), [eM 0 (.s .own (.int .u8) m0_0)]⟩
noncomputable def Sj {β : Type} (k : Nat) (v : Ac) (w : Int) (K : KT β) (n : Nat) (x1_0 x5_0 : Int) (m0_0 : Ac) : Option β := A1 (Xfa k) Tryz.f20 [1, 0, 1, 0] 0 (Ai (Xfa k) [1, 0, 1, 0] (Al Tryz.f20) 0 (X5j k v w K)) n (Xw0 v w x1_0 x5_0 m0_0)
def Is {β : Type} (NX : Int → Int → Ac → Option β) (RET : (Int × Ac) → Option β) (k : Nat) (v : Ac) (w : Int) (x1_0 x5_0 : Int) (m0_0 : Ac) : Option β := cond (decide (x5_0 < (m0_0.length : Int))) (Az x5_0 m0_0 (NX (i64.wrap (x1_0 + 1)) (i64.wrap (x5_0 + 1)) (m0_0.set x5_0.toNat (u8.wrap x1_0)))) (RET (x1_0, m0_0))
def Ku (k : Nat) (v : Ac) (w : Int) : Nat → Int → Int → Ac → Option (Int × Ac)
 | 0, _, _, _ => none
 | n + 1, x1_0, x5_0, m0_0 => Is (Ku k v w n) some k v w x1_0 x5_0 m0_0
theorem Xgs {β : Type} (k : Nat) (v : Ac) (w : Int) (K : KT β) (n : Nat) : ∀ (x1_0 x5_0 : Int) (m0_0 : Ac), Sj k v w K n x1_0 x5_0 m0_0 =
  (Ku k v w n x1_0 x5_0 m0_0).bind fun r => K (F20_O.put r) := by
 induction n with
 | zero => intros; rfl
 | succ n ih =>
  intro x1_0 x5_0 m0_0
  refine Eq.trans (b := Is (Sj k v w K n) (fun r => K (F20_O.put r)) k v w x1_0 x5_0 m0_0) (by kernel_rfl) ?_
  rw [Ku]
  simp only [Is, z1, z2, z3, z4, z5, z6, z7, z8, ih]
def Xew {β : Type} (LP0 : Int → Int → Ac → Option β) (k : Nat) (v : Ac) (w : Int) : Option β := LP0 w 0 v
def F20 (k : Nat) (v : Ac) (w : Int) : Option (Int × Ac) := Xew (Ku k v w k) k v w
theorem X2b {β : Type} (k : Nat) (v : Ac) (w : Int) (K : KT β) : Ag (Xfa k) Tryz.f20 (PsT.put Xkv (v, w, ())) K = (F20 k v w).bind fun r => K (F20_O.put r) :=
 Eq.trans (b := Xew (Sj k v w K k) k v w) (by kernel_rfl) (by simp only [F20, Xew, z1, z2, z3, z4, z5, z6, z7, z8, Xgs])
def Xva (k : Nat) : FD := ⟨20, Xkv, F20_O, F20 k⟩
theorem X5s (k : Nat) : (Xva k).Ok Tryz.prog := ⟨fun x => Aa (Aj .none _ _ _ _) Ah Tryz.func20 rfl rfl (X2b k _ _ some), .of (by kernel_rfl)⟩
def X39 : Nat → Hint
 | 0 => ⟨pl 0 2 (pl 5 1 []), []⟩
 | _ => ⟨[], []⟩
abbrev Xfv (k : Nat) : Env := Ba Bl X39 .own [] k
abbrev Xo2 : List PA := [.one (.sl .ro (.int .u8)), .one mI]
abbrev F21_O : RO := ⟨[.v], [mI]⟩
noncomputable def X5l {β : Type} (k : Nat) (v : Ac) (w : Int) (K : KT β) : Ex → St → Option β := Bi (Xfv k) Tryz.f21 (PsT.put Xo2 (v, w, ())) K
def Xzs (v : Ac) (w : Int) (x1_0 x5_0 : Int) : St := ⟨(.one (.s .ro (.int .u8) v)) :: (.one (vI x1_0)) :: dz 3 ((.one (vI x5_0)) :: dz 16 []), []⟩
noncomputable def Sc {β : Type} (k : Nat) (v : Ac) (w : Int) (K : KT β) (n : Nat) (x1_0 x5_0 : Int) : Option β := A1 (Xfv k) Tryz.f21 [1, 0, 1, 0] 0 (Ai (Xfv k) [1, 0, 1, 0] (Al Tryz.f21) 0 (X5l k v w K)) n (Xzs v w x1_0 x5_0)
def Ix {β : Type} (NX : Int → Int → Option β) (RET : Int → Option β) (k : Nat) (v : Ac) (w : Int) (x1_0 x5_0 : Int) : Option β := cond (decide (x5_0 < (v.length : Int))) (Az x5_0 v (cond ((An v x5_0) != (u8.wrap x1_0)) (RET (-1)) (NX (i64.wrap (x1_0 + 1)) (i64.wrap (x5_0 + 1))))) (RET x1_0)
def La (k : Nat) (v : Ac) (w : Int) : Nat → Int → Int → Option (Int)
 | 0, _, _ => none
 | n + 1, x1_0, x5_0 => Ix (La k v w n) some k v w x1_0 x5_0
theorem Xih {β : Type} (k : Nat) (v : Ac) (w : Int) (K : KT β) (n : Nat) : ∀ (x1_0 x5_0 : Int), Sc k v w K n x1_0 x5_0 =
  (La k v w n x1_0 x5_0).bind fun r => K (F21_O.put r) := by
 induction n with
 | zero => intros; rfl
 | succ n ih =>
  intro x1_0 x5_0
  refine Eq.trans (b := Ix (Sc k v w K n) (fun r => K (F21_O.put r)) k v w x1_0 x5_0) (by kernel_rfl) ?_
  rw [La]
  simp only [Ix, z1, z2, z3, z4, z5, z6, z7, z8, ih]
def Xf7 {β : Type} (LP0 : Int → Int → Option β) (k : Nat) (v : Ac) (w : Int) : Option β := LP0 w 0
def F21 (k : Nat) (v : Ac) (w : Int) : Option (Int) := Xf7 (La k v w k) k v w
theorem Xzr {β : Type} (k : Nat) (v : Ac) (w : Int) (K : KT β) : Ag (Xfv k) Tryz.f21 (PsT.put Xo2 (v, w, ())) K = (F21 k v w).bind fun r => K (F21_O.put r) :=
 Eq.trans (b := Xf7 (Sc k v w K k) k v w) (by kernel_rfl) (by simp only [F21, Xf7, z1, z2, z3, z4, z5, z6, z7, z8, Xih])
def Xwc (k : Nat) : FD := ⟨21, Xo2, F21_O, F21 k⟩
theorem X59 (k : Nat) : (Xwc k).Ok Tryz.prog := ⟨fun x => Aa (Aj .none _ _ _ _) Ah Tryz.func21 rfl rfl (Xzr k _ _ some), .of (by kernel_rfl)⟩
abbrev F3_E (k : Nat) : Env := Ba (A0 [Xvk k, Xwa k, Xwe k, Xvf k, Xv5 k, Xu8 k, Xvm k, Xvr k, Xva k, Xwc k]) Ap .own [] k
abbrev F3_A : List PA := [.one (.sl .ro sta), .one mI, .one mI, .one mI, .one mI, .one (.sl .ro (.int .u8))]
abbrev F3_O : RO := ⟨[.v], [mB]⟩
def Xs3 {β : Type} (RET : Bool → Option β) (k : Nat) (v : Ab) (w p q o : Int) (c : Ac) : Option β := cond (decide ((c.length : Int) > 1048576)) (RET true) ((F12 k v 1048576).bind fun b1 => cond (decide (b1 < 0)) (RET true) ((F14 k v).bind fun b2 => (F15 k c).bind fun b3 => (F13 k b2 w p q o b3).bind fun b4 => (F14 k v).bind fun b5 => (F15 k c).bind fun b6 => (F16 k b5 w p q o b6).bind fun b7 => (F17 k b7.1 b4.1).bind fun b8 => cond (!b8) (RET false) (cond (!(b7.2 == b4.2)) (RET false) ((F14 k v).bind fun b9 => (F18 k b5 b9).bind fun b10 => cond (!b10) (RET false) ((F15 k c).bind fun b11 => (F17 k b6 b11).bind fun b12 => cond (!b12) (RET false) ((F19 k b5 1).bind fun b13 => (F20 k b6 b13.1).bind fun b14 => cond (decide (b14.1 < 0)) (RET false) ((F17 k b7.1 b4.1).bind fun b15 => cond (!b15) (RET false) (cond (!(b7.2 == b4.2)) (RET false) ((F20 k b7.1 1).bind fun b16 => (F21 k b16.2 1).bind fun b17 => cond (decide (b17 < 0)) (RET false) (cond (b17 != b16.1) (RET false) ((F14 k v).bind fun b18 => (F15 k c).bind fun b19 => (F16 k b18 w p q o b19).bind fun b20 => (F17 k b20.1 b4.1).bind fun b21 => cond (!b21) (RET false) (cond (!(b20.2 == b4.2)) (RET false) ((F21 k b16.2 1).bind fun b22 => cond (decide (b22 < 0)) (RET false) (cond (b22 != b16.1) (RET false) (RET true)))))))))))))))
def F3 := Xs3 (β := Bool) some
theorem X46 {β : Type} (k : Nat) (v : Ab) (w p q o : Int) (c : Ac) (K : KT β) : Ag (F3_E k) Tryz.f3 (PsT.put F3_A (v, w, p, q, o, c, ())) K = (F3 k v w p q o c).bind fun r => K (F3_O.put r) :=
 Eq.trans (b := Xs3 (fun r => K (F3_O.put r)) k v w p q o c) (by kernel_rfl) (by simp only [F3, Xs3, z1, z2, z3, z4, z5, z6, z7, z8])
def F3_d (k : Nat) : FD := ⟨3, F3_A, F3_O, F3 k⟩
theorem F3_q (k : Nat) : (F3_d k).Ok Tryz.prog := ⟨fun x => Aa (Aj (Ak (.c (X4i k) (.c (X58 k) (.c (X5e k) (.c (X4b k) (.c (X48 k) (.c (X53 k) (.c (X4k k) (.c (X35 k) (.c (X5s k) (.c (X59 k) .n))))))))))) _ _ _ _) Ah Tryz.func3 rfl rfl (X46 k _ _ _ _ _ _ some), .of (by kernel_rfl)⟩
end
end Go.Proofs.YtdmepjjepogddaaGreat.Gn
end

section
namespace Go.Proofs.YtdmepjjepogddaaGreat.Gn
open Go.Rf Go.IntWalk
set_option linter.unusedVariables false
set_option linter.unusedSimpArgs false
def inB (a b c : Int) : Bool := decide (b ≤ a) && decide (a ≤ c)
theorem Bq (k : Nat) (a b c : Int) : Ky k a b c = some (inB a b c) := by
 unfold Ky inB; (try dsimp only)
 have : decide (a ≥ b) = decide (b ≤ a) := rfl
 rw [this]
 cases decide (b ≤ a) <;> rfl
theorem C4 (k : Nat) (a b c : Int) : Tm k a b c = some (inB a b c) := Bq k a b c
theorem Iy (k : Nat) (a : Int) : F65 k a = some (inB a 0 65535) := by unfold F65; (try dsimp only); rw [C4]; rfl
abbrev A5 : Type := List (den (.int .u8))
theorem ml : maxLen = 9223372036854775807 := rfl
theorem X3q (k : Nat) (l : A5) (hl : l.length ≤ 1048576) (hk : l.length < k) : F15 k l = some l := by
 have := Lj l id (fun n j m => Ks k l n j m) id
  (fun n j m h hm => by
   simp only [Ks, Iz, Az]
   rw [Aq l j h, I0 j (by omega)]
   rw [decide_eq_true (by omega : ((j : Nat) : Int) < (l.length : Nat)), decide_eq_true (by omega : (0 : Int) ≤ (j : Nat)), decide_eq_true (by omega : ((j : Nat) : Int) < (m.length : Nat))]
   rfl)
  (fun n m hm => by simp [Ks, Iz]) k 0 (List.replicate l.length (Bf (.int .u8))) (Nat.zero_le _) (by omega) (by simp) (by simp)
 simp only [List.map_id] at this
 simp only [F15, Xfj]
 rw [decide_eq_true (by omega : (0 : Int) ≤ ((l.length : Nat) : Int)), decide_eq_true (by omega : ((l.length : Nat) : Int) * (1 : Nat) ≤ 140737488355328)]
 simp only [decide_true, Bool.and_self, cond_true]
 exact this
theorem Oy {α : Type} (c : Bool) (a b : α) : cond c (some a) (some b) = some (cond c a b) := by cases c <;> rfl
theorem Xub (k : Nat) (l : A5) : Xh1 k l = some l := by
 simp only [Xh1, Vu]
 rw [decide_eq_true (by omega : (0 : Int) ≤ ((l.length : Nat) : Int))]
 simp
theorem Pt (k : Nat) (l : A5) (h : l.length ≤ 4194304) : Q4 k l = some l := by
 simp only [Q4, Ue, Xub, List.nil_append, List.length_nil, Nat.zero_add, B3]
 rw [decide_eq_true (by omega : l.length * 1 ≤ 140737488355328)]
 cases l with
 | nil => rfl
 | cons a r => rw [show ((((a :: r).length : Nat) : Int) == 0) = false by rw [beq_eq_false_iff_ne]; simp only [List.length_cons]; omega]; rfl
theorem Zj (k : Nat) (a : A5) (h9 : a.length ≤ 4194304) (k9 : a.length < k) : F17 k a a = some true := by
 have := Mi a (fun n (_ : Unit) j => Kp k a a n j) (fun s _ => s) (fun _ => true)
  (fun n s j h => by
   simp only [Kp, I4, Az]
   rw [Aq a j h, I0 j (by omega)]
   simp [h])
  (fun n s => by simp [Kp, I4]) k () 0 (Nat.zero_le _) (by omega)
 simp only [F17, Xfq, bne_self_eq_false, cond_false]
 exact this
def gB (x : Int) (a : den (.int .u8)) : den (.int .u8) := IntKind.u8.wrap x
theorem Xoo (k : Nat) (l : A5) (x : Int) (hk : l.length < k) (h0 : 0 ≤ x) (hB : x + (l.length : Int) ≤ 1099511627776) :
  F20 k l x = some (x + (l.length : Int), Cw gB (fun _ => 1) x l) := by
 have := Sa 1099511627776 l.length (fun n y j m => Ku k l x n y j m) gB (fun _ => 1) (fun x m => (x, m)) (fun _ => by decide)
  (fun n y j m h hN h0 hB => by
   simp only [Ku, Is, Int.toNat_natCast, Az]
   rw [I0 j (by omega), i64_in (y + 1) (by omega)]
   rw [decide_eq_true (by omega : ((j : Nat) : Int) < (m.length : Nat)), decide_eq_true (by omega : (0 : Int) ≤ (j : Nat))]
   rfl)
  (fun n x m => by simp [Ku, Is]) k x [] l (by simp) hk h0 (by rw [Cr]; omega)
 rw [Cr, Int.one_mul] at this
 simp only [F20, Xew]
 exact this
theorem X04 (k : Nat) (l : A5) (x : Int) (hk : l.length < k) (h0 : 0 ≤ x) (hB : x + (l.length : Int) ≤ 1099511627776) :
  F21 k (Cw gB (fun _ => 1) x l) x = some (x + (l.length : Int)) := by
 have hlen := T7 gB (fun _ => 1) x l
 have hsum := Su (g := gB) (s := fun _ => 1) (fun _ _ => rfl) x l
 rw [Cr 1 l, Int.one_mul] at hsum
 have hh := Pf (t := fun x a => a = IntKind.u8.wrap x) (g := gB) (s := fun _ => 1) (fun _ _ => rfl) (fun _ _ => rfl) x l
 have h9 := Cr 1 (Cw gB (fun _ => 1) x l)
 generalize Cw gB (fun _ => 1) x l = m at hlen hsum hh h9
 have := Yf 1099511627776 m (fun n y j => La k m x n y j) (fun x a => a = IntKind.u8.wrap x) (fun _ => 1) (fun x => x) (fun _ => by decide)
  (fun n y j h ht h0 hB => by
   simp only [La, Ix, Az]
   rw [I0 j (by omega), i64_in (y + 1) (by omega), Aq m j h, ht]
   rw [decide_eq_true (by omega : ((j : Nat) : Int) < (m.length : Nat)), decide_eq_true (by omega : (0 : Int) ≤ (j : Nat))]
   simp only [bne_self_eq_false, cond_true, cond_false])
  (fun n y => by simp [La, Ix]) k x 0 (Nat.zero_le _) (by omega) h0 (by rw [List.drop_zero, hsum]; exact hB) (by rw [List.drop_zero]; exact hh)
 rw [List.drop_zero, hsum] at this
 simp only [F21, Xf7]
 exact this
theorem bs {α β : Type} {o : Option α} {f : α → Option β} {x : α} (h : o = some x) : o.bind f = f x := by rw [h]; rfl
theorem cf {α : Type} {c : Bool} {a b : α} (h : c = false) : cond c a b = b := by rw [h]; rfl
theorem ct {α : Type} {c : Bool} {a b : α} (h : c = true) : cond c a b = a := by rw [h]; rfl
def BOk (b : A5) : Prop := ∀ x ∈ b, @LE.le Int _ 0 x ∧ @LE.le Int _ x 255
theorem BOk.of {b : A5} (h : Wf (.sl (.int .u8)) b) : BOk b := fun x hx => by
 have := h.2 x hx
 unfold Wf Lit.wf at this
 simp only [Bool.and_eq_true, decide_eq_true_eq] at this
 exact this
abbrev Ck : Type := List (den Ad)
abbrev rtL : Type := List (den B4)
abbrev J6 : Type := List (den sta)
def Gx : J6 → Nat
 | [] => 0
 | s :: l => s.2.length + Gx l
theorem L6 : ∀ {l : J6} {s : den sta}, s ∈ l → s.2.length ≤ Gx l
 | a :: l, s, h => by
  rcases List.mem_cons.1 h with rfl | h
  ·simp only [Gx]; omega
  ·have := L6 h
   simp only [Gx]; omega
theorem Xrw (k : Nat) (l : rtL) (x : Int) (hl : l.length ≤ maxLen) (hx : 0 ≤ x ∧ x ≤ 1048576) : Xb3 k l x = some (if (l.length : Int) ≤ x then x - (l.length : Int) else -1) := by
 simp only [Xb3, Xh]
 rw [ml] at hl
 rw [i64_in _ (by omega)]
 by_cases h : (l.length : Int) ≤ x
 ·rw [decide_eq_false (by omega), if_pos h]; rfl
 ·rw [decide_eq_true (by omega), if_neg h]; rfl
theorem Xwk (k : Nat) (s : den sta) (x : Int) (hl : s.2.length ≤ maxLen) (hx : 0 ≤ x ∧ x ≤ 1048576) : F58 k s x = some (if (s.2.length : Int) ≤ x then x - (s.2.length : Int) else -1) := by
 unfold F58; (try dsimp only)
 refine (bs (Xrw k _ x hl hx)).trans ?_
 split
 ·exact (cf (decide_eq_false (by omega))).trans rfl
 ·exact (ct (by decide)).trans rfl
theorem Xv9 (k : Nat) (v : J6) (w : Int) (hl : v.length ≤ 1048576) (hs : ∀ s ∈ v, s.2.length ≤ maxLen) : ∀ (n j : Nat) (x : Int), j ≤ v.length → v.length - j < n → 0 ≤ x ∧ x ≤ 1048576 → ∃ b, N8 k v w n x (j : Int) = some b ∧ (b < 0 ∨ (0 ≤ b ∧ b + (Gx (v.drop j) : Int) = x))
 | 0, j, x, _, h, _ => by omega
 | n + 1, j, x, hj, h, hx => by
  rw [N8]
  unfold Mm; (try dsimp only [Az])
  rcases Nat.lt_or_ge j v.length with hlt | hge
  ·have d1 : decide ((j : Int) < ((v.length : Nat) : Int)) = true := decide_eq_true (by omega)
   have d0 : decide ((0 : Int) ≤ ((j : Nat) : Int)) = true := decide_eq_true (by omega)
   rw [Aq v j hlt, I0 j (by omega), List.drop_eq_getElem_cons hlt]
   have hz := Xwk k v[j] x (hs _ (List.getElem_mem hlt)) hx
   by_cases c : (v[j].2.length : Int) ≤ x
   ·rw [if_pos c] at hz
    obtain ⟨b, hb, hb2⟩ := Xv9 k v w hl hs n (j + 1) (x - v[j].2.length) hlt (by omega) (by omega)
    refine ⟨b, (ct d1).trans ((ct d0).trans ((ct d1).trans ((bs hz).trans ((cf (decide_eq_false (by omega))).trans hb)))), ?_⟩
    simp only [Gx]
    omega
   ·rw [if_neg c] at hz
    exact ⟨-1, (ct d1).trans ((ct d0).trans ((ct d1).trans ((bs hz).trans ((ct (by decide)).trans rfl)))), .inl (by decide)⟩
  ·have : j = v.length := by omega
   subst this
   rw [List.drop_length]
   exact ⟨x, (cf (decide_eq_false (by omega))).trans rfl, .inr ⟨hx.1, by simp [Gx]⟩⟩
theorem Xxo (k : Nat) (v : J6) (hl : v.length ≤ maxLen) (hs : ∀ s ∈ v, s.2.length ≤ maxLen) (hk : 1048576 < k) : ∃ b, F12 k v 1048576 = some b ∧ (b < 0 ∨ (0 ≤ b ∧ b ≤ 1048576 ∧ v.length ≤ 1048576 ∧ Gx v ≤ 1048576)) := by
 rw [ml] at hl
 unfold F12 Xel; (try dsimp only)
 rw [i64_in _ (by omega)]
 by_cases c : 1048576 - (v.length : Int) < 0
 ·exact ⟨-1, (ct (decide_eq_true c)).trans rfl, .inl (by decide)⟩
 ·obtain ⟨b, hb, hb2⟩ := Xv9 k v 1048576 (by omega) hs k 0 (1048576 - (v.length : Int)) (Nat.zero_le _) (by omega) (by omega)
  refine ⟨b, (cf (decide_eq_false c)).trans hb, ?_⟩
  rw [List.drop_zero] at hb2
  rcases hb2 with h | ⟨h1, h2⟩
  ·exact .inl h
  ·exact .inr ⟨h1, by omega, by omega, by omega⟩
theorem Xs9 (k : Nat) (l : rtL) (hl : l.length ≤ 1048576) (hk : l.length < k) : Xdj k l = some l := by
 have := Lj l id (fun n j m => Hj k l n j m) id
  (fun n j m h hm => by
   simp only [Hj, Gi, Az]
   rw [Aq l j h, I0 j (by omega), Xnx]
   simp only [Option.bind_some]
   rw [decide_eq_true (by omega : ((j : Nat) : Int) < (l.length : Nat)), decide_eq_true (by omega : (0 : Int) ≤ (j : Nat)), decide_eq_true (by omega : ((j : Nat) : Int) < (m.length : Nat))]
   rfl)
  (fun n m hm => by simp [Hj, Gi]) k 0 (List.replicate l.length (Bf B4)) (Nat.zero_le _) (by omega) (by simp) (by simp)
 simp only [List.map_id] at this
 simp only [Xdj, Uc]
 rw [decide_eq_true (by omega : (0 : Int) ≤ ((l.length : Nat) : Int)), decide_eq_true (by omega : ((l.length : Nat) : Int) * (32 : Nat) ≤ 140737488355328)]
 simp only [decide_true, Bool.and_self, cond_true]
 exact this
theorem X11 (k : Nat) (s : den sta) (hl : s.2.length ≤ 1048576) (hk : s.2.length < k) : F63 k s = some s := by
 unfold F63; (try dsimp only)
 exact (bs (Xs9 k s.2 hl hk)).trans rfl
theorem X2h (k : Nat) (l : J6) (hl : l.length ≤ 1048576) (hs : Gx l ≤ 1048576) (hk : 1048576 < k) : F14 k l = some l := by
 have := Lj l id (fun n j m => Kt k l n j m) id
  (fun n j m h hm => by
   have hs1 := L6 (List.getElem_mem h)
   simp only [Kt, I3, Az]
   rw [Aq l j h, I0 j (by omega), X11 k _ (by omega) (by omega)]
   simp only [Option.bind_some]
   rw [decide_eq_true (by omega : ((j : Nat) : Int) < (l.length : Nat)), decide_eq_true (by omega : (0 : Int) ≤ (j : Nat)), decide_eq_true (by omega : ((j : Nat) : Int) < (m.length : Nat))]
   rfl)
  (fun n m hm => by simp [Kt, I3]) k 0 (List.replicate l.length (Bf sta)) (Nat.zero_le _) (by omega) (by simp) (by simp)
 simp only [List.map_id] at this
 simp only [F14, Xga]
 rw [decide_eq_true (by omega : (0 : Int) ≤ ((l.length : Nat) : Int)), decide_eq_true (by omega : ((l.length : Nat) : Int) * (32 : Nat) ≤ 140737488355328)]
 simp only [decide_true, Bool.and_self, cond_true]
 exact this
theorem Xgj (k : Nat) (r : den B4) : Xh2 k r r = some true := by
 unfold Xh2 Vt; (try dsimp only)
 simp only [bne_self_eq_false, cond_false]
theorem Xhy (k : Nat) (l : rtL) (hl : l.length ≤ 1048576) (hk : 1048576 < k) : Xic k l l = some true := by
 have := Mi l (fun n (_ : Unit) j => Gy k l l n j) (fun s _ => s) (fun _ => true)
  (fun n s j h => by
   simp only [Gy, F1, Az]
   rw [Aq l j h, I0 j (by omega), Xgj k _]
   simp [h])
  (fun n s => by simp [Gy, F1]) k () 0 (Nat.zero_le _) (by omega)
 simp only [Xic, Xk, bne_self_eq_false, cond_false]
 exact this
theorem Xm7 (k : Nat) (s : den sta) (hl : s.2.length ≤ 1048576) (hk : 1048576 < k) : F67 k s s = some true := by
 unfold F67 Xeh; (try dsimp only)
 simp only [bne_self_eq_false, cond_false, Xhy k s.2 hl hk, Option.bind_some, Bool.not_true]
theorem Xo0 (k : Nat) (l : J6) (hl : l.length ≤ 1048576) (hs : Gx l ≤ 1048576) (hk : 1048576 < k) : F18 k l l = some true := by
 have := Mi l (fun n (_ : Unit) j => K6 k l l n j) (fun s _ => s) (fun _ => true)
  (fun n s j h => by
   have hs1 := L6 (List.getElem_mem h)
   simp only [K6, Ht, Az]
   rw [Aq l j h, I0 j (by omega), Xm7 k _ (by omega) hk]
   simp [h])
  (fun n s => by simp [K6, Ht]) k () 0 (Nat.zero_le _) (by omega)
 simp only [F18, Xft, bne_self_eq_false, cond_false]
 exact this
def gT (y : Int) (r : den B4) : den B4 := (y, y + 1, y + 2, y + 3)
theorem X0t (k : Nat) (l : rtL) (x : Int) (hl : l.length ≤ 1048576) (hk : l.length < k) (h0 : 0 ≤ x) (hB : x + 4 * (l.length : Int) ≤ 1099511627776) :
  F68 k l x = some (x + 4 * (l.length : Int), Cw gT (fun _ => 4) x l) := by
 have := Sa 1099511627776 l.length (fun n y j m => K4 k l x n y j m) gT (fun _ => 4) (fun x m => (x, m)) (fun _ => by decide)
  (fun n y j m h hN h0 hB => by
   have d1 : decide ((j : Int) < ((m.length : Nat) : Int)) = true := decide_eq_true (by omega)
   have d0 : decide ((0 : Int) ≤ ((j : Nat) : Int)) = true := decide_eq_true (by omega)
   have w0 : IntKind.i64.wrap (y + 1) = y + 1 := by rw [i64_in _ (by omega)]
   have w1 : IntKind.i64.wrap (y + 1 + 1) = y + 2 := by rw [i64_in _ (by omega)]; omega
   have w2 : IntKind.i64.wrap (y + 2 + 1) = y + 3 := by rw [i64_in _ (by omega)]; omega
   have w3 : IntKind.i64.wrap (y + 3 + 1) = y + 4 := by rw [i64_in _ (by omega)]; omega
   simp only [K4, Hx, Az]
   rw [I0 j (by omega)]
   simp only [Int.toNat_natCast, List.set_set, Xf5 h, List.length_set, d0, d1, cond_true, sto, Option.bind_some, w0, w1, w2, w3]
   rfl)
  (fun n x m => by simp [K4, Hx]) k x [] l (by simp) hk h0 (by rw [Cr]; exact hB)
 rw [Cr] at this
 simp only [F68, Xea]
 exact this
def wT (s : den sta) : Int := 1 + 4 * (s.2.length : Int)
theorem Xan (s : den sta) : 0 ≤ wT s := by unfold wT; omega
def gS (y : Int) (s : den sta) : den sta := (y, Cw gT (fun _ => 4) (y + 1) s.2)
theorem sumT (l : J6) : Bp wT l = (l.length : Int) + 4 * (Gx l : Int) := by
 induction l with
 | nil => rfl
 | cons a l ih => simp only [Bp, Gx, wT, ih, List.length_cons]; omega
theorem Xz1 (k : Nat) (l : J6) (x : Int) (hl : l.length ≤ 1048576) (hs : Gx l ≤ 1048576) (hk : 1048576 < k) (h0 : 0 ≤ x) (hB : x + Bp wT l ≤ 1099511627776) :
  F19 k l x = some (x + Bp wT l, Cw gS wT x l) := by
 simp only [F19, Xfx]
 have main : ∀ (n : Nat) (y : Int) (d r : J6), d.length + r.length = l.length → r.length < n → Gx r ≤ 1048576 → 0 ≤ y → y + Bp wT r ≤ 1099511627776 →
   Km k l x n y (d.length : Nat) (d ++ r) = some (y + Bp wT r, d ++ Cw gS wT y r) := by
  intro n
  induction n with
  | zero => intro y d r _ h; omega
  | succ n ih =>
   intro y d r hN2 hn hr h0 hB
   cases r with
   | nil => simp [Km, Hv, Bp, Cw]
   | cons a r =>
    simp only [Bp] at hB
    simp only [Gx] at hr
    have ha := Xan a
    have hr2 := Dp Xan r
    have h : d.length < (d ++ a :: r).length := by simp
    have d1 : decide (((d.length : Nat) : Int) < (((d ++ a :: r).length : Nat) : Int)) = true := decide_eq_true (by omega)
    have d0 : decide ((0 : Int) ≤ ((d.length : Nat) : Int)) = true := decide_eq_true (by omega)
    have hw : wT a = 1 + 4 * (a.2.length : Int) := rfl
    have w0 : IntKind.i64.wrap (y + 1) = y + 1 := by rw [i64_in _ (by omega)]
    have hg : (d ++ a :: r)[d.length] = a := by simp
    have m1 := X0t k a.2 (y + 1) (by omega) (by omega) (by omega) (by omega)
    have := ih (y + wT a) (d ++ [gS y a]) r (by simp at hN2 ⊢; omega) (by simp at hn; omega) (by omega) (by omega) (by omega)
    simp only [List.length_append, List.length_singleton, List.append_assoc, List.singleton_append] at this
    have hset : (d ++ a :: r).set d.length (gS y a) = d ++ gS y a :: r := by simp
    have e1 : y + 1 + 4 * (a.2.length : Int) = y + wT a := by omega
    simp only [Km, Hv, Az]
    rw [Aq (d ++ a :: r) d.length h, hg, I0 d.length (by simp at hN2; omega)]
    simp only [Int.toNat_natCast, List.set_set, Xf5 h, List.length_set, d0, d1, cond_true, w0, m1, Option.bind_some]
    rw [show (d ++ a :: r).set d.length (y, Cw gT (fun _ => 4) (y + 1) a.2) = d ++ gS y a :: r from hset, e1, this]
    simp [Bp, Cw, Int.add_assoc]
 have := main k x [] l (by simp) (by omega) hs h0 hB
 simpa using this
end Go.Proofs.YtdmepjjepogddaaGreat.Gn
end

section
namespace Go.Proofs.YtdmepjjepogddaaGreat.Gn
open Go.Rf Go.IntWalk
set_option linter.unusedVariables false
set_option linter.unusedSimpArgs false
def Xc (v : Int) : A5 := [v / 256, v % 256]
theorem u8W (v : Int) (h : 0 ≤ v ∧ v ≤ 255) : IntKind.u8.wrap v = v := u8_in v h
theorem u8M (v : Int) : IntKind.u8.wrap v = v % 256 := by rw [IntKind.wrap_u8]
theorem Vy (n : Nat) (v : Int) (h : 0 ≤ v ∧ v ≤ 65535) : F93 (n + 4) v 2 = some (Xc v) := by
 have w1 : IntKind.i64.wrap (2 - 1) = 1 := by decide
 have w0 : IntKind.i64.wrap (1 - 1) = 0 := by decide
 have wm : IntKind.i64.wrap (0 - 1) = -1 := by decide
 have hd : v.fdiv 256 = v / 256 := Int.fdiv_eq_ediv_of_nonneg v (by omega)
 have e8 : ((2 : Int) ^ 8) = 256 := by decide
 unfold F93 Xeb; (try dsimp only)
 rw [w1]
 refine (ct (by decide)).trans ?_
 have aux : ∀ k m : Nat, Iw k v 2 (m + 1 + 1 + 1) v 1 (List.replicate (Int.toNat 2) (Bf (.int .u8))) = some (Xc v) := fun k m => by
  rw [Iw]
  unfold F4; (try dsimp only [Az])
  refine (ct (by decide)).trans ((ct (by decide)).trans ((ct (by decide)).trans ?_))
  try dsimp only
  rw [w0, Iw]
  unfold F4; (try dsimp only [Az])
  refine (ct (by decide)).trans ((ct (by decide)).trans ((ct (by simp)).trans ?_))
  try dsimp only
  rw [wm, Iw]
  unfold F4; (try dsimp only [Az])
  refine (cf (by decide)).trans ?_
  rw [e8, hd, u8M, u8W (v / 256) (by omega)]
  rfl
 exact aux (n + 4) (n + 1)
theorem Pw (n : Nat) (v : Int) (h : 0 ≤ v ∧ v ≤ 65535) : Uv (n + 4) v 2 = some (Xc v) := by
 have w1 : IntKind.i64.wrap (2 - 1) = 1 := by decide
 have w0 : IntKind.i64.wrap (1 - 1) = 0 := by decide
 have wm : IntKind.i64.wrap (0 - 1) = -1 := by decide
 have hd : v.fdiv 256 = v / 256 := Int.fdiv_eq_ediv_of_nonneg v (by omega)
 have hd1 : v.fdiv 1 = v := by simp
 have e1 : ((2 : Int) ^ (min (IntKind.i64.wrap (8 * 1)).toNat 64)) = 256 := by decide
 have e0 : ((2 : Int) ^ (min (IntKind.i64.wrap (8 * 0)).toNat 64)) = 1 := by decide
 have i1 : inB 2 1 4 = true := by decide
 have i2 : inB v 0 (IntKind.i64.wrap ((IntKind.i64.wrap (1 * 2 ^ (min (IntKind.i64.wrap (8 * 2)).toNat 64))) - 1)) = true := by
  rw [show IntKind.i64.wrap ((IntKind.i64.wrap (1 * 2 ^ (min (IntKind.i64.wrap (8 * 2)).toNat 64))) - 1) = 65535 by decide]
  unfold inB
  rw [decide_eq_true h.1, decide_eq_true h.2]
  rfl
 unfold Uv Uf; (try dsimp only)
 rw [Bq, i1, Option.bind_some, w1]
 refine (cf rfl).trans ((cf (by decide)).trans ?_)
 rw [Bq, i2, Option.bind_some]
 refine (cf rfl).trans ?_
 have aux : ∀ k m : Nat, Fg k v 2 (m + 1 + 1 + 1) 1 [] = some (Xc v) := fun k m => by
  rw [Fg]
  unfold Ee; (try dsimp only [B3])
  refine (ct (by decide)).trans ((cf (by decide)).trans ((ct (by simp)).trans ?_))
  try dsimp only
  rw [w0, Fg]
  unfold Ee; (try dsimp only [B3])
  refine (ct (by decide)).trans ((cf (by decide)).trans ((ct (by simp)).trans ?_))
  try dsimp only
  rw [wm, Fg]
  unfold Ee; (try dsimp only [B3])
  refine (cf (by decide)).trans ?_
  rw [e1, e0, hd, hd1, Int.tmod_eq_of_lt (by omega) (by omega), Int.tmod_eq_emod_of_nonneg h.1, u8W (v / 256) (by omega), u8W (v % 256) (by omega)]
  rfl
 exact aux (n + 4) (n + 1)
def Zp (n : Int) : Int := if n > 65535 then n - 65535 else n
def smV : Int → A5 → Int
 | s, [] => s
 | s, [x] => Zp (s + x * 256)
 | s, x :: y :: r => smV (Zp (s + (x * 256 + y))) r
theorem Ow {n : Int} (h : 0 ≤ n ∧ n ≤ 131070) : 0 ≤ Zp n ∧ Zp n ≤ 65535 := by unfold Zp; split <;> omega
theorem Xur {s x y : Int} (hs : 0 ≤ s ∧ s ≤ 65535) (hx : 0 ≤ x ∧ x ≤ 255) (hy : 0 ≤ y ∧ y ≤ 255) : Zp (Zp (s + x * 256) + y) = Zp (s + (x * 256 + y)) := by
 unfold Zp
 split <;> split <;> split <;> omega
theorem byt {l : A5} (hb : BOk l) (j : Nat) (h : j < l.length) : @LE.le Int _ 0 l[j] ∧ @LE.le Int _ l[j] 255 := hb _ (List.getElem_mem h)
theorem We (k : Nat) (l : A5) (hb : BOk l) (hl : l.length ≤ 1048576) : ∀ (n j : Nat) (s : Int), j % 2 = 0 → j ≤ l.length → l.length - j < n → (0 ≤ s ∧ s ≤ 65535) → D6 k l n s (j : Int) = some (smV s (l.drop j))
 | 0, j, s, _, _, h, _ => by omega
 | 1, j, s, h2, hj, h, hs => by
  have : j = l.length := by omega
  subst this
  rw [D6, List.drop_length]
  unfold Eh; (try dsimp only [Az])
  exact (cf (decide_eq_false (by omega))).trans rfl
 | n + 2, j, s, h2, hj, h, hs => by
  rw [D6]
  unfold Eh; (try dsimp only [Az])
  rcases Nat.lt_or_ge j l.length with hlt | hge
  ·obtain ⟨x, hx⟩ : ∃ x : Int, x = l[j] := ⟨_, rfl⟩
   have bx : 0 ≤ x ∧ x ≤ 255 := by rw [hx]; exact byt hb j hlt
   have d1 : decide ((j : Int) < ((l.length : Nat) : Int)) = true := decide_eq_true (by omega)
   have d0 : decide ((0 : Int) ≤ ((j : Nat) : Int)) = true := decide_eq_true (by omega)
   have ev : (((j : Int).tmod 2) == 0) = true := by rw [Int.tmod_eq_emod_of_nonneg (by omega)]; exact beq_iff_eq.2 (by omega)
   have nxt : ∀ s1 : Int, s1 = Zp (s + x * 256) → D6 k l (n + 1) s1 ((j + 1 : Nat) : Int) = some (smV s (l.drop j)) := fun s1 hs1 => by
    have b1 := Ow (n := s + x * 256) (by omega)
    rw [← hs1] at b1
    rw [D6]
    unfold Eh; (try dsimp only [Az])
    rcases Nat.lt_or_ge (j + 1) l.length with hlt' | hge'
    ·obtain ⟨y, hy⟩ : ∃ y : Int, y = l[j + 1] := ⟨_, rfl⟩
     have by_ : 0 ≤ y ∧ y ≤ 255 := by rw [hy]; exact byt hb (j + 1) hlt'
     have od : ((((j + 1 : Nat) : Int).tmod 2) == 0) = false := by rw [Int.tmod_eq_emod_of_nonneg (by omega)]; exact beq_eq_false_iff_ne.2 (by omega)
     have e2 : smV s (l.drop j) = smV (Zp (s + (x * 256 + y))) (l.drop (j + 2)) := by
      rw [List.drop_eq_getElem_cons hlt, List.drop_eq_getElem_cons hlt', smV, ← hx, ← hy]
     have b2 := Ow (n := s1 + y) (by omega)
     rw [e2, ← Xur hs bx by_, ← hs1]
     refine (ct (decide_eq_true (by omega))).trans ((cf od).trans ((ct (decide_eq_true (by omega))).trans ((ct (decide_eq_true (by omega))).trans ?_)))
     rw [Aq l (j + 1) hlt', ← hy, i64_in y (by omega), i64_in (s1 + y) (by omega), i64_in (s1 + y - 65535) (by omega), I0 (j + 1) (by omega)]
     unfold Zp at b2 ⊢
     by_cases c : s1 + y > 65535
     ·rw [if_pos c] at b2 ⊢
      exact (ct (decide_eq_true c)).trans (We k l hb hl n (j + 2) _ (by omega) (by omega) (by omega) b2)
     ·rw [if_neg c] at b2 ⊢
      exact (cf (decide_eq_false c)).trans (We k l hb hl n (j + 2) _ (by omega) (by omega) (by omega) b2)
    ·have e1 : l.drop j = [l[j]] := by
      rw [List.drop_eq_getElem_cons hlt, List.drop_eq_nil_of_le (by omega)]
     rw [e1, smV, ← hx, ← hs1]
     exact (cf (decide_eq_false (by omega))).trans rfl
   refine (ct d1).trans ((ct ev).trans ((ct d0).trans ((ct d1).trans ?_)))
   rw [Aq l j hlt, ← hx, i64_in x (by omega), i64_in (x * 256) (by omega), i64_in (s + x * 256) (by omega), i64_in (s + x * 256 - 65535) (by omega), I0 j (by omega)]
   by_cases c : s + x * 256 > 65535
   ·exact (ct (decide_eq_true c)).trans (nxt _ (by unfold Zp; rw [if_pos c]))
   ·exact (cf (decide_eq_false c)).trans (nxt _ (by unfold Zp; rw [if_neg c]))
  ·have : j = l.length := by omega
   subst this
   rw [List.drop_length]
   exact (cf (decide_eq_false (by omega))).trans rfl
theorem Kw {α : Type} {N : Nat} (hN : 1 ≤ N) : B0 N ([] : List α) = [] := by
 unfold B0
 rw [show (([] : List α).length + N - 1) / N = 0 from Nat.div_eq_of_lt (by simp; omega)]
 rfl
theorem Iq {α : Type} {N : Nat} (hN : 1 ≤ N) (l : List α) (h : l ≠ []) : B0 N l = l.take N :: B0 N (l.drop N) := by
 have hl : 1 ≤ l.length := List.length_pos_iff.2 h
 have hc : (l.length + N - 1) / N = ((l.drop N).length + N - 1) / N + 1 := by
  rw [List.length_drop]
  by_cases hle : N ≤ l.length
  ·rw [show l.length + N - 1 = (l.length - N + N - 1) + N by omega, Nat.add_div_right _ (by omega)]
  ·rw [show l.length - N = 0 by omega, Nat.zero_add, Nat.div_eq_of_lt (show N - 1 < N by omega)]
   exact Nat.div_eq_of_lt_le (by omega) (by omega)
 unfold B0
 rw [hc, List.range_succ_eq_map, List.map_cons, List.map_map]
 congr 1
 ·simp [Pk]
 ·refine List.map_congr_left fun j _ => ?_
  simp only [Function.comp, Pk, List.drop_drop]
  congr 2
  rw [Nat.succ_mul]
  omega
theorem Sd (x y : Int) (hx : 0 ≤ x ∧ x ≤ 255) (hy : 0 ≤ y ∧ y ≤ 255) : C1 .or .i64 (x * 256) y = x * 256 + y := by
 obtain ⟨a, rfl⟩ := Int.eq_ofNat_of_zero_le hx.1
 obtain ⟨b, rfl⟩ := Int.eq_ofNat_of_zero_le hy.1
 have ha : a ≤ 255 := by omega
 have hb : b ≤ 255 := by omega
 have e : ((a : Int) * 256) = ((a * 256 : Nat) : Int) := by omega
 rw [e]
 have h1 : (BitVec.ofInt 64 ((a * 256 : Nat) : Int) ||| BitVec.ofInt 64 (b : Int)).toNat = a * 256 + b := by
  rw [BitVec.toNat_or]
  simp only [BitVec.ofInt_natCast, BitVec.toNat_ofNat]
  rw [Nat.mod_eq_of_lt (by omega), Nat.mod_eq_of_lt (by omega)]
  have := Nat.shiftLeft_add_eq_or_of_lt (show b < 2 ^ 8 by omega) a
  rw [Nat.shiftLeft_eq] at this
  exact this.symm
 show IntKind.i64.wrap (((BitVec.ofInt 64 ((a * 256 : Nat) : Int) ||| BitVec.ofInt 64 (b : Int)).toNat : Nat) : Int) = _
 rw [h1, i64_in _ (by omega)]
 omega
theorem Xg8 {l : A5} (hb : BOk l) {x : den (.int .u8)} (h : x ∈ l) : ∃ v : Int, v = x ∧ (0 ≤ v ∧ v ≤ 255) := ⟨x, rfl, hb x h⟩
theorem Xe5 (n : Nat) (s m : Int) (hs : 0 ≤ s ∧ s ≤ 65535) (hm : 0 ≤ m ∧ m ≤ 65535) : Zt (n + 4) [s, m] = some (Zp (s + m)) := by
 have aux : ∀ k q : Nat, D8 k [s, m] (q + 1 + 1 + 1) 0 0 = some (Zp (s + m)) := fun k q => by
  rw [D8]
  unfold Eb; (try dsimp only [Az])
  refine (ct rfl).trans ((ct rfl).trans ((ct rfl).trans ?_))
  rw [show An (t := .int .i64) [s, m] 0 = s from rfl, Int.zero_add, i64_in s (by omega)]
  refine (cf (decide_eq_false (by omega))).trans ?_
  try dsimp only
  rw [show IntKind.i64.wrap (0 + 1) = 1 by decide, D8]
  unfold Eb; (try dsimp only [Az])
  refine (ct rfl).trans ((ct rfl).trans ((ct rfl).trans ?_))
  rw [show An (t := .int .i64) [s, m] 1 = m from rfl, i64_in (s + m) (by omega), i64_in (s + m - 65535) (by omega), show IntKind.i64.wrap (1 + 1) = 2 by decide]
  have fin : ∀ r : Int, D8 k [s, m] (q + 1) r 2 = some r := fun r => by
   rw [D8]
   unfold Eb; (try dsimp only [Az])
   exact (cf rfl).trans rfl
  unfold Zp
  by_cases c : s + m > 65535
  ·rw [if_pos c]
   exact (ct (decide_eq_true c)).trans (fin _)
  ·rw [if_neg c]
   exact (cf (decide_eq_false c)).trans (fin _)
 exact aux (n + 4) (n + 1)
theorem Xeg (n : Nat) (a0 : A5) : ∀ (m : Nat) (l : A5) (s : Int), l.length ≤ m → BOk l → (0 ≤ s ∧ s ≤ 65535) → Et (n + 4) a0 (B0 2 l) s = some (65535 - smV s l)
 | _, [], s, _, _, hs => by
  rw [Kw (by omega), Et, smV, i64_in _ (by omega)]
 | 0, _ :: _, _, h, _, _ => by simp at h
 | m + 1, [x], s, h, hb, hs => by
  obtain ⟨x, rfl, bx⟩ := Xg8 hb (x := x) (by simp)
  have e8 : ((2 : Int) ^ 8) = 256 := by decide
  have b1 := Ow (n := s + x * 256) (by omega)
  rw [Iq (by omega) [x] (by simp)]
  simp only [List.take_succ_cons, List.take_nil, List.drop_succ_cons, List.drop_nil]
  rw [Et]
  refine (ct (by simp)).trans ((cf (by simp)).trans ?_)
  rw [show An (t := .int .u8) [x] 0 = x from rfl, e8, i64_in x (by omega), i64_in (x * 256) (by omega), Xe5 n s (x * 256) hs (by omega), Option.bind_some, Kw (by omega), Et, smV, i64_in _ (by omega)]
 | m + 1, x :: y :: r, s, h, hb, hs => by
  obtain ⟨x, rfl, bx⟩ := Xg8 hb (x := x) (by simp)
  obtain ⟨y, rfl, by_⟩ := Xg8 hb (x := y) (by simp)
  have e8 : ((2 : Int) ^ 8) = 256 := by decide
  have b1 := Ow (n := s + (x * 256 + y)) (by omega)
  rw [Iq (by omega) (x :: y :: r) (by simp)]
  simp only [List.take_succ_cons, List.take_zero, List.drop_succ_cons, List.drop_zero]
  rw [Et]
  refine (ct (by simp)).trans ((ct (by simp)).trans ((ct (by simp)).trans ?_))
  rw [show An (t := .int .u8) [x, y] 0 = x from rfl, show An (t := .int .u8) [x, y] 1 = y from rfl, e8, i64_in x (by omega), i64_in y (by omega), i64_in (x * 256) (by omega), Sd x y bx by_, Xe5 n s (x * 256 + y) hs (by omega), Option.bind_some, smV]
  exact Xeg n a0 m r _ (by simp only [List.length_cons] at h; omega) (fun z hz => hb z (by simp [hz])) b1
theorem Xcg : ∀ (l : A5) (s : Int), BOk l → (0 ≤ s ∧ s ≤ 65535) → 0 ≤ smV s l ∧ smV s l ≤ 65535
 | [], s, _, hs => hs
 | [x], s, hb, hs => by
  obtain ⟨x, rfl, bx⟩ := Xg8 hb (x := x) (by simp)
  exact Ow (by omega)
 | x :: y :: r, s, hb, hs => by
  obtain ⟨x, rfl, bx⟩ := Xg8 hb (x := x) (by simp)
  obtain ⟨y, rfl, by_⟩ := Xg8 hb (x := y) (by simp)
  exact Xcg r _ (fun z hz => hb z (by simp [hz])) (Ow (by omega))
def Zy (l : A5) : Int := 65535 - smV 0 l
theorem X3m (n : Nat) (l : A5) (hb : BOk l) (hl : l.length ≤ 1048576) : F94 (n + 4) l = some (Zy l) := by
 unfold F94; (try dsimp only)
 rw [decide_eq_true (by omega : l.length ≤ 140737488355328)]
 exact Xeg n l l.length l 0 (Nat.le_refl _) hb (by omega)
theorem Xt3 (k : Nat) (l : A5) (hb : BOk l) (hl : l.length ≤ 1048576) (hk : 1048576 < k) : Xiu k l = some (Zy l) := by
 have := We k l hb hl k 0 0 rfl (Nat.zero_le _) (by omega) (by omega)
 have h2 := Xcg l 0 hb (by omega)
 unfold Xiu Xij Vo; (try dsimp only)
 refine (bs this).trans ?_
 rw [List.drop_zero, i64_in _ (by omega)]
 rfl
theorem Xqo (k : Nat) (a : Int) (h : 0 ≤ a ∧ a ≤ 16777216) : Xg7 k [] a = some [] := by
 unfold Xg7 V8; (try dsimp only)
 rw [show a - 0 = a by omega, i64_in a (by omega)]
 refine (cf (decide_eq_false (by omega))).trans ?_
 by_cases c : a > 0
 ·refine (ct (decide_eq_true c)).trans ((ct (by rfl)).trans ?_)
  rw [decide_eq_true (by omega : 0 < a), decide_eq_true (by omega : a * (1 : Nat) ≤ 140737488355328)]
  refine (ct (by rfl)).trans ((ct ?_).trans ?_)
  ·rw [Bool.and_eq_true]; exact ⟨by rfl, decide_eq_true (by omega)⟩
  ·simp
 ·exact (cf (decide_eq_false c)).trans rfl
theorem Xp3 (k : Nat) (l : List A5) (hl : l.length ≤ 1048576) : ∀ (n j : Nat) (m : A5), j ≤ l.length → l.length - j < n → m.length + (l.drop j).flatten.length ≤ 4194304 → N3 k l n (j : Int) m = some (m ++ (l.drop j).flatten)
 | 0, j, m, _, h, _ => by omega
 | n + 1, j, m, hj, h, hm => by
  rw [N3]
  unfold Lp; (try dsimp only [Az, B3])
  rcases Nat.lt_or_ge j l.length with hlt | hge
  ·rw [List.drop_eq_getElem_cons hlt, List.flatten_cons, List.length_append] at hm
   rw [List.drop_eq_getElem_cons hlt, List.flatten_cons, Aq (t := .sl (.int .u8)) l j hlt, I0 j (by omega)]
   refine (ct (decide_eq_true (by omega))).trans ((ct (decide_eq_true (by omega))).trans ((ct (decide_eq_true (by omega))).trans ((ct (decide_eq_true (by omega))).trans ?_)))
   try dsimp only
   rw [Xp3 k l hl n (j + 1) (m ++ l[j]) hlt (by omega) (by rw [List.length_append]; omega), List.append_assoc]
  ·have : j = l.length := by omega
   subst this
   rw [List.drop_length]
   refine (cf (decide_eq_false (by omega))).trans ?_
   simp
theorem Xop (k : Nat) (l : List A5) (hk : l.length < k) (hl : l.length ≤ 1048576) (ht : l.flatten.length ≤ 4194304) : ∀ (n j : Nat) (s : Int), j ≤ l.length → l.length - j < n → (0 ≤ s ∧ s + ((l.drop j).flatten.length : Int) ≤ 4194304) → Nn k l n s (j : Int) = some l.flatten
 | 0, j, s, _, h, _ => by omega
 | n + 1, j, s, hj, h, hm => by
  rw [Nn]
  unfold Mk; (try dsimp only [Az])
  rcases Nat.lt_or_ge j l.length with hlt | hge
  ·rw [List.drop_eq_getElem_cons hlt, List.flatten_cons, List.length_append] at hm
   rw [Aq (t := .sl (.int .u8)) l j hlt, I0 j (by omega), i64_in (s + ((l[j].length : Nat) : Int)) (by omega)]
   refine (ct (decide_eq_true (by omega))).trans ((ct (decide_eq_true (by omega))).trans ((ct (decide_eq_true (by omega))).trans ((cf (decide_eq_false (by omega))).trans ?_)))
   exact Xop k l hk hl ht n (j + 1) _ hlt (by omega) (by omega)
  ·have : j = l.length := by omega
   subst this
   rw [List.drop_length] at hm
   refine (cf (decide_eq_false (by omega))).trans ?_
   refine (bs (Xqo k s (by simp at hm; omega))).trans ?_
   have := Xp3 k l hl k 0 [] (Nat.zero_le _) (by omega) (by rw [List.drop_zero]; simpa using ht)
   simpa using this
theorem Xb0 (k : Nat) (l : List A5) (hk : l.length < k) (hl : l.length ≤ 1048576) (ht : l.flatten.length ≤ 4194304) : F92 k l = some l.flatten := by
 unfold F92 Xfl; (try dsimp only)
 exact Xop k l hk hl ht k 0 0 (Nat.zero_le _) (by omega) (by rw [List.drop_zero]; omega)
def Ko (v : Int) : den (.int .u8) := IntKind.u8.wrap v
theorem Vx (v : Int) : (Xc v).length = 2 := rfl
theorem BOk.app {x y : A5} (hx : BOk x) (hy : BOk y) : BOk (x ++ y) := fun z hz => (List.mem_append.1 hz).elim (hx z) (hy z)
theorem BOk.nil : BOk [] := fun z hz => by cases hz
theorem BOk.cons {v : Int} {x : A5} (hx : BOk x) : BOk (Ko v :: x) := fun z hz => by
 rcases List.mem_cons.1 hz with rfl | hz
 ·have e : Ko v = v % 256 := u8M v
  rw [e]
  exact ⟨show (0 : Int) ≤ v % 256 by omega, show v % 256 ≤ (255 : Int) by omega⟩
 ·exact hx z hz
theorem Xeo {v : Int} (h : 0 ≤ v ∧ v ≤ 65535) : BOk (Xc v) := fun z hz => by
 rcases List.mem_cons.1 hz with rfl | hz
 ·exact ⟨show (0 : Int) ≤ v / 256 by omega, show v / 256 ≤ (255 : Int) by omega⟩
 ·obtain rfl := List.mem_singleton.1 hz
  exact ⟨show (0 : Int) ≤ v % 256 by omega, show v % 256 ≤ (255 : Int) by omega⟩
theorem Xfm (k : Nat) (b : Bool) (v : Int) : Xc6 k b v = some (if b then v else 0) := by
 unfold Xc6; (try dsimp only)
 cases b <;> rfl
theorem Xfw {l : A5} (hb : BOk l) : 0 ≤ Zy l ∧ Zy l ≤ 65535 := by
 have := Xcg l 0 hb (by omega)
 unfold Zy
 omega
end Go.Proofs.YtdmepjjepogddaaGreat.Gn
end

section
namespace Go.Proofs.YtdmepjjepogddaaGreat.Gn
open Go.Rf Go.IntWalk
set_option linter.unusedVariables false
set_option linter.unusedSimpArgs false
def rest (n : Int) : Int := 2 ^ (16 - n).toNat
theorem p2 (m : Nat) (h : m ≤ 16) : (1 : Int) ≤ 2 ^ m ∧ (2 : Int) ^ m ≤ 65536 := (by decide : ∀ m : Fin 17, (1 : Int) ≤ 2 ^ (m : Nat) ∧ (2 : Int) ^ (m : Nat) ≤ 65536) ⟨m, by omega⟩
theorem P5 {n : Int} (h : 0 ≤ n ∧ n ≤ 16) : 1 ≤ rest n ∧ rest n ≤ 65536 := p2 _ (by omega)
theorem Xt {n : Int} (h : 0 ≤ n ∧ n ≤ 16) : IntKind.i64.wrap (1 * 2 ^ (min (16 - n).toNat 64)) = rest n := by
 have := P5 h
 rw [Nat.min_eq_left (by omega), Int.one_mul]
 exact i64_in (rest n) (by omega)
theorem Wd (k : Nat) {n : Int} (h : 0 ≤ n ∧ n ≤ 16) : Y5 k n = some (rest n) := by
 unfold Y5 Wo; (try dsimp only)
 rw [i64_in (16 - n) (by omega), Xt h]
 exact (cf (decide_eq_false (by omega))).trans rfl
def okR (r : den B4) : Bool := inB r.2.1 0 16 && inB r.1 0 65535 && (Int.tmod r.1 (rest r.2.1) == 0) && inB r.2.2.1 0 65535 && inB r.2.2.2 1 48
theorem Bh {a b c : Int} (h : inB a b c = true) : b ≤ a ∧ a ≤ c := by simpa [inB] using h
theorem Ce {a b c : Int} (h : b ≤ a ∧ a ≤ c) : inB a b c = true := by simpa [inB] using h
theorem Xfd (k : Nat) (r : den B4) : Z9 k r = some (okR r) := by
 obtain ⟨v0, v1, v2, v3⟩ := r
 unfold Z9 Ux okR; (try dsimp only [Gf])
 refine (bs (Bq k v1 0 16)).trans ?_
 try dsimp only
 cases h1 : inB v1 0 16 with
 | false => rfl
 | true =>
  have hr := P5 (Bh h1)
  refine (ct rfl).trans ((bs (Bq k v0 0 65535)).trans ?_)
  cases h2 : inB v0 0 65535 with
  | false => rfl
  | true =>
   refine (ct rfl).trans ((bs (Wd k (Bh h1))).trans ((cf (decide_eq_false (by omega))).trans ?_))
   cases h3 : (Int.tmod v0 (rest v1) == 0) with
   | false => rfl
   | true =>
    refine (ct rfl).trans ((bs (Bq k v2 0 65535)).trans ?_)
    cases h4 : inB v2 0 65535 with
    | false => rfl
    | true => exact (ct rfl).trans ((bs (Bq k v3 1 48)).trans rfl)
theorem Xsc (k : Nat) (r : den B4) : Xgw k r = some (okR r) := by
 obtain ⟨v0, v1, v2, v3⟩ := r
 unfold Xgw Uk okR; (try dsimp only [Gf])
 refine (bs (C4 k v1 0 16)).trans ?_
 try dsimp only
 cases h1 : inB v1 0 16 with
 | false => rfl
 | true =>
  have hi := Bh h1
  have hr := P5 hi
  refine (ct rfl).trans ((bs (Iy k v0)).trans ?_)
  cases h2 : inB v0 0 65535 with
  | false => rfl
  | true =>
   have e1 := i64_in (16 - v1) (by omega)
   refine (ct rfl).trans ((cf (by rw [e1]; exact decide_eq_false (by omega))).trans ((cf (by rw [e1, Xt hi]; exact decide_eq_false (by omega))).trans ?_))
   rw [e1, Xt hi]
   cases h3 : (Int.tmod v0 (rest v1) == 0) with
   | false => rfl
   | true =>
    refine (ct rfl).trans ((bs (Iy k v2)).trans ?_)
    cases h4 : inB v2 0 65535 with
    | false => rfl
    | true => exact (ct rfl).trans ((bs (C4 k v3 1 48)).trans rfl)
theorem L2 {r : den B4} (h : okR r = true) : inB r.2.1 0 16 = true ∧ inB r.1 0 65535 = true ∧ inB r.2.2.1 0 65535 = true ∧ inB r.2.2.2 1 48 = true := by
 unfold okR at h
 simp only [Bool.and_eq_true] at h
 exact ⟨h.1.1.1.1, h.1.1.1.2, h.1.2, h.2⟩
def Xds (a b : Int) : Int := if a < b then -1 else if a > b then 1 else 0
def orV (a b : Int) : Int := if a ≠ 0 then a else b
theorem Xgb (k : Nat) (a b : Int) : Xb7 k a b = some (Xds a b) := by
 unfold Xb7 Wc Xgf Xds; (try dsimp only)
 simp only [bne_self_eq_false, Option.bind_some, cond_false]
 by_cases h1 : a < b
 ·rw [decide_eq_true h1, if_pos h1]; rfl
 ·rw [decide_eq_false h1, if_neg h1]
  by_cases h2 : a > b
  ·rw [decide_eq_true h2, if_pos h2]; rfl
  ·rw [decide_eq_false h2, if_neg h2]; rfl
theorem Xsh (n : Nat) (a b : Int) : Xky (n + 4) [a, b] = some (orV a b) := by
 have aux : ∀ k m : Nat, Fb k [a, b] (m + 1 + 1 + 1) 0 = some (orV a b) := fun k m => by
  rw [Fb]
  unfold Eg orV; (try dsimp only [Az])
  refine (ct rfl).trans ((ct rfl).trans ((ct rfl).trans ?_))
  rw [show An (t := .int .i64) [a, b] 0 = a from rfl]
  by_cases h : a ≠ 0
  ·rw [if_pos h]
   exact (ct (bne_iff_ne.2 h)).trans rfl
  ·rw [if_neg h]
   refine (cf (bne_eq_false_iff_eq.2 (Decidable.not_not.1 h))).trans ?_
   rw [show IntKind.i64.wrap (0 + 1) = 1 by decide, Fb]
   unfold Eg; (try dsimp only [Az])
   refine (ct rfl).trans ((ct rfl).trans ((ct rfl).trans ?_))
   rw [show An (t := .int .i64) [a, b] 1 = b from rfl]
   by_cases h2 : b ≠ 0
   ·exact (ct (bne_iff_ne.2 h2)).trans rfl
   ·refine (cf (bne_eq_false_iff_eq.2 (Decidable.not_not.1 h2))).trans ?_
    rw [show IntKind.i64.wrap (1 + 1) = 2 by decide, Fb]
    unfold Eg; (try dsimp only [Az])
    rw [Decidable.not_not.1 h2]
    exact (cf rfl).trans rfl
 exact aux (n + 4) (n + 1)
theorem Xsg (n : Nat) (p c : den B4) : Xgh (n + 4) p c = some (orV (Xds p.2.1 c.2.1) (Xds p.1 c.1)) := by
 unfold Xgh U3; (try dsimp only)
 exact (bs (Xgb _ _ _)).trans ((bs (Xgb _ _ _)).trans ((bs (Xsh _ _ _)).trans rfl))
def ltR (p1 p0 c1 c0 : Int) : Bool := decide (p1 < c1) || (decide (p1 = c1) && decide (p0 < c0))
theorem ordS {α : Type} (p1 p0 c1 c0 : Int) (x y : α) : cond (decide (p1 > c1)) x (cond (p1 == c1) (cond (decide (p0 ≥ c0)) x y) y) = cond (ltR p1 p0 c1 c0) y x := by
 unfold ltR
 rcases Int.lt_trichotomy p1 c1 with h | h | h
 ·rw [decide_eq_false (by omega : ¬ p1 > c1), decide_eq_true h, show (p1 == c1) = false from beq_eq_false_iff_ne.2 (by omega)]; rfl
 ·rw [decide_eq_false (by omega : ¬ p1 > c1), decide_eq_false (by omega : ¬ p1 < c1), decide_eq_true h, show (p1 == c1) = true from beq_iff_eq.2 h]
  by_cases h2 : p0 < c0
  ·rw [decide_eq_false (by omega : ¬ p0 ≥ c0), decide_eq_true h2]; rfl
  ·rw [decide_eq_true (by omega : p0 ≥ c0), decide_eq_false h2]; rfl
 ·rw [decide_eq_true (by omega : p1 > c1), decide_eq_false (by omega : ¬ p1 < c1), decide_eq_false (by omega : ¬ p1 = c1)]; rfl
theorem ordI {α : Type} (p1 p0 c1 c0 : Int) (x y : α) : cond (decide (orV (Xds p1 c1) (Xds p0 c0) ≥ 0)) x y = cond (ltR p1 p0 c1 c0) y x := by
 unfold ltR orV Xds
 rcases Int.lt_trichotomy p1 c1 with h | h | h
 ·rw [if_pos h, if_pos (by decide), decide_eq_true h]; rfl
 ·rw [if_neg (by omega : ¬ p1 < c1), if_neg (by omega : ¬ p1 > c1), if_neg (by decide), decide_eq_false (by omega : ¬ p1 < c1), decide_eq_true h]
  by_cases h2 : p0 < c0
  ·rw [if_pos h2, decide_eq_true h2]; rfl
  ·rw [if_neg h2, decide_eq_false h2]
   by_cases h3 : p0 > c0
   ·rw [if_pos h3]; rfl
   ·rw [if_neg h3]; rfl
 ·rw [if_neg (by omega : ¬ p1 < c1), if_pos h, if_pos (by decide), decide_eq_false (by omega : ¬ p1 < c1), decide_eq_false (by omega : ¬ p1 = c1)]; rfl
theorem rs_l (q : Nat) (v : rtL) (hl : v.length ≤ 1048576) : ∀ (n j : Nat), j ≤ v.length → v.length - j < n → ∃ b, J5 (q + 4) v n (j : Int) = some b ∧ J4 (q + 4) v n (j : Int) = some b ∧ (b = true → (∀ r ∈ v.drop j, okR r = true) ∧ v.length ≤ 8)
 | 0, j, _, h => by omega
 | n + 1, j, hj, h => by
  rw [J5, J4]
  unfold Jk Jy; (try dsimp only [Az])
  rcases Nat.lt_or_ge j v.length with hlt | hge
  ·have d1 : decide ((j : Int) < ((v.length : Nat) : Int)) = true := decide_eq_true (by omega)
   have d0 : decide ((0 : Int) ≤ ((j : Nat) : Int)) = true := decide_eq_true (by omega)
   obtain ⟨b, hb1, hb2, hb3⟩ := rs_l q v hl n (j + 1) hlt (by omega)
   rw [Aq v j hlt, I0 j (by omega), List.drop_eq_getElem_cons hlt, Xfd, Xsc]
   cases ho : okR v[j] with
   | false => exact ⟨false, (ct d1).trans ((ct d0).trans ((ct d1).trans rfl)), (ct d1).trans ((ct d0).trans ((ct d1).trans rfl)), fun h => by cases h⟩
   | true =>
    have hb4 : b = true → (∀ r ∈ v[j] :: v.drop (j + 1), okR r = true) ∧ v.length ≤ 8 := fun hb => ⟨fun r hr => (List.mem_cons.1 hr).elim (fun e => by rw [e]; exact ho) ((hb3 hb).1 r), (hb3 hb).2⟩
    rcases Nat.eq_zero_or_pos j with h0 | h0
    ·have g0 : decide ((j : Int) > 0) = false := decide_eq_false (by omega)
     exact ⟨b, (ct d1).trans ((ct d0).trans ((ct d1).trans ((bs rfl).trans ((cf rfl).trans ((cf g0).trans hb1))))), (ct d1).trans ((ct d0).trans ((ct d1).trans ((bs rfl).trans ((cf rfl).trans ((cf g0).trans hb2))))), hb4⟩
    ·have g0 : decide ((j : Int) > 0) = true := decide_eq_true (by omega)
     have e1 : IntKind.i64.wrap ((j : Int) - 1) = ((j - 1 : Nat) : Int) := by rw [i64_in _ (by omega)]; omega
     have q1 : decide (((j - 1 : Nat) : Int) < ((v.length : Nat) : Int)) = true := decide_eq_true (by omega)
     have q0 : decide ((0 : Int) ≤ ((j - 1 : Nat) : Int)) = true := decide_eq_true (by omega)
     rw [e1, Aq v (j - 1) (by omega), Xsg]
     simp only [d1, d0, q1, q0, g0, cond_true, Option.bind_some, Bool.not_true, cond_false, hb1, hb2]
     refine ⟨cond (ltR v[j - 1].2.1 v[j - 1].1 v[j].2.1 v[j].1) b false, (ordS _ _ _ _ _ _).trans (Oy _ _ _), (ordI _ _ _ _ _ _).trans (Oy _ _ _), fun hc => ?_⟩
     cases hlt2 : ltR v[j - 1].2.1 v[j - 1].1 v[j].2.1 v[j].1 with
     | false => rw [hlt2] at hc; cases hc
     | true => rw [hlt2] at hc; exact hb4 hc
  ·have : j = v.length := by omega
   subst this
   rw [List.drop_length]
   have d1 : decide (((v.length : Nat) : Int) < ((v.length : Nat) : Int)) = false := decide_eq_false (by omega)
   exact ⟨decide (((v.length : Nat) : Int) ≤ 8), (cf d1).trans rfl, (cf d1).trans rfl, fun h => ⟨fun r hr => (by cases hr), by have := of_decide_eq_true h; omega⟩⟩
theorem X5b (q : Nat) (v : rtL) (hl : v.length ≤ 1048576) (hk : 1048576 < q + 4) : ∃ b, F202 (q + 4) v = some b ∧ Xip (q + 4) v = some b ∧ (b = true → (∀ r ∈ v, okR r = true) ∧ v.length ≤ 8) := by
 have := rs_l q v hl (q + 4) 0 (Nat.zero_le _) (by omega)
 rw [List.drop_zero] at this
 exact this
structure StaOk (k : Nat) (s : den sta) : Prop where
 st : F129 k s = some true
 rs : F202 k s.2 = some true
 at1 : inB s.1 0 65535 = true
 ok : ∀ r ∈ s.2, okR r = true
 len : s.2.length ≤ 8
theorem X5t (q : Nat) (s : den sta) (hl : s.2.length ≤ 1048576) (hk : 1048576 < q + 4) : ∃ b, F129 (q + 4) s = some b ∧ F88 (q + 4) s = some b ∧ (b = true → StaOk (q + 4) s) := by
 obtain ⟨b, h1, h2, h3⟩ := X5b q s.2 hl hk
 have e1 : F129 (q + 4) s = some (inB s.1 0 65535 && b) := by
  unfold F129; (try dsimp only)
  refine (bs (Bq _ _ _ _)).trans ?_
  cases inB s.1 0 65535 with
  | false => rfl
  | true => exact (ct rfl).trans ((bs h1).trans rfl)
 have e2 : F88 (q + 4) s = some (inB s.1 0 65535 && b) := by
  unfold F88; (try dsimp only)
  refine (bs (Iy _ _)).trans ?_
  cases inB s.1 0 65535 with
  | false => rfl
  | true => exact (ct rfl).trans ((bs h2).trans rfl)
 refine ⟨_, e1, e2, fun h => ?_⟩
 rw [h] at e1
 rw [Bool.and_eq_true] at h
 rw [h.2] at h1
 exact ⟨e1, h1, h.1, (h3 h.2).1, (h3 h.2).2⟩
def X6 (s : den sta) (a : Int) : Bool := @BEq.beq Int _ s.1 a
def fi (a : Int) : J6 → Nat → Int
 | [], _ => -1
 | s :: l, j => cond (X6 s a) (j : Int) (fi a l (j + 1))
theorem Xoz (k : Nat) (v : J6) (w : Int) (hl : v.length ≤ 1048576) : ∀ (n j : Nat), j ≤ v.length → v.length - j < n → Jm k v w n (j : Int) = some (fi w (v.drop j) j)
 | 0, j, _, h => by omega
 | n + 1, j, hj, h => by
  rw [Jm]
  unfold Jt; (try dsimp only [Az])
  rcases Nat.lt_or_ge j v.length with hlt | hge
  ·have d1 : decide ((j : Int) < ((v.length : Nat) : Int)) = true := decide_eq_true (by omega)
   have d0 : decide ((0 : Int) ≤ ((j : Nat) : Int)) = true := decide_eq_true (by omega)
   rw [Aq v j hlt, I0 j (by omega), List.drop_eq_getElem_cons hlt]
   refine (ct d1).trans ((ct d0).trans ((ct d1).trans ?_))
   rw [fi, Xoz k v w hl n (j + 1) hlt (by omega)]
   exact Oy (X6 v[j] w) _ _
  ·have : j = v.length := by omega
   subst this
   rw [List.drop_length]
   exact (cf (decide_eq_false (by omega))).trans rfl
theorem Xtq (k : Nat) (v : J6) (w : Int) (hl : v.length ≤ 1048576) (hk : 1048576 < k) : Xgp k v w = some (fi w v 0) := Xoz k v w hl k 0 (Nat.zero_le _) (by omega)
theorem Xle (k : Nat) (v : J6) (wx w : Int) (hl : v.length ≤ 1048576) : ∀ (n j : Nat), j ≤ v.length → v.length - j < n → Jo k v wx n (j : Int) w = some (fi w (v.drop j) j, w)
 | 0, j, _, h => by omega
 | n + 1, j, hj, h => by
  rw [Jo]
  unfold J0; (try dsimp only [Az])
  rcases Nat.lt_or_ge j v.length with hlt | hge
  ·have d1 : decide ((j : Int) < ((v.length : Nat) : Int)) = true := decide_eq_true (by omega)
   have d0 : decide ((0 : Int) ≤ ((j : Nat) : Int)) = true := decide_eq_true (by omega)
   rw [Aq v j hlt, I0 j (by omega), List.drop_eq_getElem_cons hlt]
   refine (ct d1).trans ((ct d0).trans ((ct d1).trans ((bs (show Xme k v[j] w = some (X6 v[j] w, w) from rfl)).trans ?_)))
   rw [fi, Xle k v wx w hl n (j + 1) hlt (by omega)]
   cases X6 v[j] w <;> rfl
  ·have : j = v.length := by omega
   subst this
   rw [List.drop_length]
   exact (cf (decide_eq_false (by omega))).trans rfl
theorem Xcu (k : Nat) (v : J6) (w : Int) (hl : v.length ≤ 1048576) (hk : 1048576 < k) : F75 k v w = some (fi w v 0) := by
 unfold F75; (try dsimp only)
 exact (bs (Xle k v w w hl k 0 (Nat.zero_le _) (by omega))).trans rfl
theorem Xf6 (a : Int) : ∀ (l : J6) (j : Nat), fi a l j = -1 ∨ ((j : Int) ≤ fi a l j ∧ fi a l j < (j : Int) + (l.length : Int))
 | [], j => .inl rfl
 | s :: l, j => by
  rw [fi]
  cases X6 s a with
  | true => right; simp only [cond_true, List.length_cons]; omega
  | false =>
   simp only [cond_false, List.length_cons]
   rcases Xf6 a l (j + 1) with h | h
   ·exact .inl h
   ·right; omega
theorem Tb (k : Nat) (v : J6) (i : Nat) (hi : i < v.length) (hl : v.length ≤ 1048576) : ∀ (n j : Nat), j ≤ i → i - j < n →
  (fi v[i].1 (v.drop j) j < (i : Int) ∧ ∃ y, Kr k v n (i : Int) (j : Int) = some (.inl y)) ∨ (fi v[i].1 (v.drop j) j = (i : Int) ∧ Kr k v n (i : Int) (j : Int) = some (.inr ((i : Int), (i : Int))))
 | 0, j, _, h => by omega
 | n + 1, j, hj, h => by
  have hjl : j < v.length := by omega
  have d1 : decide ((j : Int) < ((v.length : Nat) : Int)) = true := decide_eq_true (by omega)
  have d0 : decide ((0 : Int) ≤ ((j : Nat) : Int)) = true := decide_eq_true (by omega)
  have i1 : decide ((i : Int) < ((v.length : Nat) : Int)) = true := decide_eq_true (by omega)
  have i0 : decide ((0 : Int) ≤ ((i : Nat) : Int)) = true := decide_eq_true (by omega)
  rw [Kr]
  unfold Ma; (try dsimp only [Az])
  rw [Aq v j hjl, Aq v i hi, I0 j (by omega), List.drop_eq_getElem_cons hjl, fi]
  rcases Nat.lt_or_ge j i with hlt | hge
  ·have ji : decide ((j : Int) < (i : Int)) = true := decide_eq_true (by omega)
   cases hh : X6 v[j] v[i].1 with
   | true => exact .inl ⟨by simp only [cond_true]; omega, _, (ct ji).trans ((ct d0).trans ((ct d1).trans ((ct i0).trans ((ct i1).trans ((ct hh).trans rfl)))))⟩
   | false =>
    rw [cond_false]
    rcases Tb k v i hi hl n (j + 1) (by omega) (by omega) with ⟨h1, y, h2⟩ | ⟨h1, h2⟩
    ·exact .inl ⟨h1, y, (ct ji).trans ((ct d0).trans ((ct d1).trans ((ct i0).trans ((ct i1).trans ((cf hh).trans h2)))))⟩
    ·exact .inr ⟨h1, (ct ji).trans ((ct d0).trans ((ct d1).trans ((ct i0).trans ((ct i1).trans ((cf hh).trans h2)))))⟩
  ·have e : j = i := by omega
   subst e
   have hh : X6 v[j] v[j].1 = true := beq_self_eq_true _
   rw [hh]
   exact .inr ⟨rfl, (cf (decide_eq_false (by omega))).trans rfl⟩
theorem Xv3 (q : Nat) (v : J6) (hl : v.length ≤ 1048576) (hs : Gx v ≤ 1048576) (hk : 1048576 < q + 4) : ∀ (n j : Nat), j ≤ v.length → v.length - j < n → ∃ b, K5 (q + 4) v n (j : Int) = some b ∧ Oo (q + 4) v n (j : Int) = some b ∧ (b = true → (∀ s ∈ v.drop j, StaOk (q + 4) s) ∧ v.length ≤ 5)
 | 0, j, _, h => by omega
 | n + 1, j, hj, h => by
  rw [K5, Oo]
  unfold Ln; (try dsimp only [Az])
  rcases Nat.lt_or_ge j v.length with hlt | hge
  ·have d1 : decide ((j : Int) < ((v.length : Nat) : Int)) = true := decide_eq_true (by omega)
   have d0 : decide ((0 : Int) ≤ ((j : Nat) : Int)) = true := decide_eq_true (by omega)
   have hs1 := L6 (List.getElem_mem hlt)
   obtain ⟨o, ho1, ho2, ho3⟩ := X5t q v[j] (by omega) hk
   obtain ⟨b, hb1, hb2, hb3⟩ := Xv3 q v hl hs hk n (j + 1) hlt (by omega)
   rw [Aq v j hlt, I0 j (by omega), List.drop_eq_getElem_cons hlt, ho1, ho2]
   have ef := Xcu (q + 4) v v[j].1 hl hk
   have e0 := Tb (q + 4) v j hlt hl (q + 4) 0 (Nat.zero_le _) (by omega)
   rw [List.drop_zero] at e0
   cases o with
   | false => exact ⟨false, (ct d1).trans ((ct d0).trans ((ct d1).trans rfl)), (ct d1).trans ((ct d0).trans ((ct d1).trans rfl)), fun h => by cases h⟩
   | true =>
    rcases e0 with ⟨h1, y, h2⟩ | ⟨h1, h2⟩
    ·exact ⟨false, (ct d1).trans ((ct d0).trans ((ct d1).trans ((bs rfl).trans ((cf rfl).trans ((bs h2).trans rfl))))), (ct d1).trans ((ct d0).trans ((ct d1).trans ((bs rfl).trans ((cf rfl).trans ((bs ef).trans ((ct (decide_eq_true h1)).trans rfl)))))), fun h => by cases h⟩
    ·refine ⟨b, (ct d1).trans ((ct d0).trans ((ct d1).trans ((bs rfl).trans ((cf rfl).trans ((bs h2).trans ?_))))), (ct d1).trans ((ct d0).trans ((ct d1).trans ((bs rfl).trans ((cf rfl).trans ((bs ef).trans ((cf (decide_eq_false (by rw [h1]; omega))).trans hb2)))))), fun hb => ⟨fun s hs => ?_, (hb3 hb).2⟩⟩
     ·show K5 (q + 4) v n (IntKind.i64.wrap ((j : Int) + 1)) = some b
      rw [I0 j (by omega)]
      exact hb1
     ·rcases List.mem_cons.1 hs with e | e
      ·rw [e]; exact ho3 rfl
      ·exact (hb3 hb).1 s e
  ·have : j = v.length := by omega
   subst this
   rw [List.drop_length]
   have d1 : decide (((v.length : Nat) : Int) < ((v.length : Nat) : Int)) = false := decide_eq_false (by omega)
   exact ⟨decide (((v.length : Nat) : Int) ≤ 5), (cf d1).trans rfl, (cf d1).trans rfl, fun h => ⟨fun r hr => (by cases hr), by have := of_decide_eq_true h; omega⟩⟩
theorem X3h (q : Nat) (v : J6) (hl : v.length ≤ 1048576) (hs : Gx v ≤ 1048576) (hk : 1048576 < q + 4) : ∃ b, F59 (q + 4) v = some b ∧ F31 (q + 4) v = some b ∧ (b = true → (∀ s ∈ v, StaOk (q + 4) s) ∧ v.length ≤ 5) := by
 have := Xv3 q v hl hs hk (q + 4) 0 (Nat.zero_le _) (by omega)
 rw [List.drop_zero] at this
 exact this
end Go.Proofs.YtdmepjjepogddaaGreat.Gn
end

section
namespace Go.Proofs.YtdmepjjepogddaaGreat.Gn
open Go.Rf Go.IntWalk
set_option linter.unusedVariables false
set_option linter.unusedSimpArgs false
def a8 (b : A5) (j : Nat) : Int := An b (j : Int)
def n2 (b : A5) (j : Nat) : Int := a8 b j * 256 + a8 b (j + 1)
theorem Lr {b : A5} (hb : BOk b) {j : Nat} (h : j < b.length) : 0 ≤ a8 b j ∧ a8 b j ≤ 255 := by
 unfold a8; rw [Aq b j h]; exact byt hb j h
theorem atI8 (b : A5) (j : Nat) : @Eq Int (An b (j : Int)) (a8 b j) := rfl
theorem cut2 (b : A5) (j : Nat) (h : j + 2 ≤ b.length) : (b.take (j + 2)).drop j = [a8 b j, a8 b (j + 1)] := by
 have h1 : j < (b.take (j + 2)).length := by rw [List.length_take]; omega
 have h2 : j + 1 < (b.take (j + 2)).length := by rw [List.length_take]; omega
 rw [List.drop_eq_getElem_cons h1, List.drop_eq_getElem_cons h2, List.drop_eq_nil_of_le (by rw [List.length_take]; omega)]
 unfold a8
 rw [Aq b j (by omega), Aq b (j + 1) (by omega), List.getElem_take, List.getElem_take]
theorem Xtm (q : Nat) (b : A5) (hb : BOk b) (hl : b.length ≤ 1048576) (j : Nat) (h : j + 2 ≤ b.length) : Xgg (q + 4) b (j : Int) 2 = some (n2 b j) := by
 have b1 := Lr hb (j := j) (by omega)
 have b2 := Lr hb (j := j + 1) (by omega)
 have i1 : inB 2 1 4 = true := by decide
 have i2 : inB (j : Int) 0 (IntKind.i64.wrap (((b.length : Nat) : Int) - 2)) = true := by
  rw [i64_in _ (by omega)]
  unfold inB
  rw [decide_eq_true (by omega), decide_eq_true (by omega)]
  rfl
 have e0 : IntKind.i64.wrap ((j : Int) + 0) = (j : Int) := by rw [i64_in _ (by omega)]; omega
 have e1 : IntKind.i64.wrap ((j : Int) + 1) = ((j + 1 : Nat) : Int) := I0 j (by omega)
 have w1 : IntKind.i64.wrap (0 + 1) = 1 := by decide
 have w2 : IntKind.i64.wrap (1 + 1) = 2 := by decide
 have w3 : IntKind.i64.wrap (0 * 256) = 0 := by decide
 unfold Xgg Xa; (try dsimp only)
 refine (bs (Bq (q + 4) 2 1 4)).trans ?_
 rw [i1]
 refine (cf rfl).trans ?_
 refine (bs (Bq (q + 4) (j : Int) 0 _)).trans ?_
 rw [i2]
 refine (cf rfl).trans ?_
 have aux : ∀ k m : Nat, Fj k b (j : Int) 2 (m + 1 + 1 + 1) 0 0 = some (n2 b j) := fun k m => by
  rw [Fj]
  unfold Ea; (try dsimp only [Az])
  rw [e0, w1, w3]
  refine (ct rfl).trans ((ct (decide_eq_true (by omega))).trans ((ct (decide_eq_true (by omega))).trans ?_))
  rw [atI8 b j, i64_in (a8 b j) (by omega), Int.zero_add, i64_in (a8 b j) (by omega)]
  try dsimp only
  rw [Fj]
  unfold Ea; (try dsimp only [Az])
  rw [e1, w2]
  refine (ct rfl).trans ((ct (decide_eq_true (by omega))).trans ((ct (decide_eq_true (by omega))).trans ?_))
  rw [atI8 b (j + 1), i64_in (a8 b (j + 1)) (by omega), i64_in (a8 b j * 256) (by omega), i64_in _ (by omega)]
  try dsimp only
  rw [Fj]
  unfold Ea; (try dsimp only [Az])
  exact (cf rfl).trans rfl
 exact aux (q + 4) (q + 1)
theorem Xtx (q : Nat) (b : A5) (hb : BOk b) (hl : b.length ≤ 1048576) (j : Nat) (h : j + 2 ≤ b.length) : Xhz (q + 4) b (j : Int) 2 = some (n2 b j) := by
 have b1 := Lr hb (j := j) (by omega)
 have b2 := Lr hb (j := j + 1) (by omega)
 have i1 : inB 2 1 4 = true := by decide
 have e8 : ((2 : Int) ^ 8) = 256 := by decide
 have w1 : IntKind.i64.wrap (0 + 1) = 1 := by decide
 have w2 : IntKind.i64.wrap (1 + 1) = 2 := by decide
 have w3 : IntKind.i64.wrap (0 * 256) = 0 := by decide
 have e2 : IntKind.i64.wrap ((j : Int) + 2) = ((j + 2 : Nat) : Int) := by rw [i64_in _ (by omega)]; omega
 have c2 := cut2 b j h
 unfold Xhz Wg; (try dsimp only)
 refine (bs (C4 (q + 4) 2 1 4)).trans ?_
 rw [i1]
 refine (cf rfl).trans ?_
 refine (cf (decide_eq_false (by omega))).trans ?_
 refine (cf (decide_eq_false (by rw [i64_in _ (by omega)]; omega))).trans ?_
 rw [e2]
 refine (ct (by rw [decide_eq_true (by omega), decide_eq_true (by omega)]; rfl)).trans ?_
 refine (ct (by rw [decide_eq_true (by omega), decide_eq_true (by omega)]; rfl)).trans ?_
 have aux : ∀ k m : Nat, E4 k b (j : Int) 2 (m + 1 + 1 + 1) 0 0 = some (n2 b j) := fun k m => by
  rw [E4]
  unfold Ed; (try dsimp only [Az])
  rw [e2, Int.toNat_natCast, Int.toNat_natCast, c2, e8, w1, w3]
  refine (ct rfl).trans ((ct rfl).trans ((ct rfl).trans ?_))
  rw [show @Eq Int (An (t := .int .u8) [a8 b j, a8 b (j + 1)] 0) (a8 b j) from rfl, i64_in (a8 b j) (by omega), show (0 : Int) = 0 * 256 from rfl, Sd 0 (a8 b j) (by omega) b1]
  rw [show (0 : Int) * 256 + a8 b j = a8 b j by omega]
  try dsimp only
  rw [E4]
  unfold Ed; (try dsimp only [Az])
  rw [e2, Int.toNat_natCast, Int.toNat_natCast, c2, e8, w2]
  refine (ct rfl).trans ((ct rfl).trans ((ct rfl).trans ?_))
  rw [show @Eq Int (An (t := .int .u8) [a8 b j, a8 b (j + 1)] 1) (a8 b (j + 1)) from rfl, i64_in (a8 b (j + 1)) (by omega), i64_in (a8 b j * 256) (by omega), Sd (a8 b j) (a8 b (j + 1)) b1 b2]
  try dsimp only
  rw [E4]
  unfold Ed; (try dsimp only [Az])
  rw [e2, Int.toNat_natCast, Int.toNat_natCast, c2]
  exact (cf rfl).trans rfl
 exact aux (q + 4) (q + 1)
theorem Xqq (k : Nat) (a b : A5) (h9 : a.length ≤ 4194304) (k9 : a.length < k) : Xdx k a b = some (decide (a = b)) := by
 unfold Xdx Wr; (try dsimp only)
 by_cases hlen : a.length = b.length
 ·have := Xnz a b (fun n j => Gq k a b n j) hlen
   (fun n j h h' => by
    simp only [Gq, Ga, Az]
    rw [Aq a j h, Aq b j h', I0 j (by omega)]
    rw [decide_eq_true (by omega : ((j : Nat) : Int) < (a.length : Nat)), decide_eq_true (by omega : ((j : Nat) : Int) < (b.length : Nat)), decide_eq_true (by omega : (0 : Int) ≤ (j : Nat))]
    by_cases hc : a[j] = b[j]
    ·rw [if_pos hc, hc]; simp
    ·rw [if_neg hc, (bne_iff_ne (a := (a[j] : Int)) (b := b[j])).2 hc]; rfl)
   (fun n => by
    simp only [Gq, Ga, Az]
    rw [decide_eq_false (by omega : ¬ ((a.length : Nat) : Int) < (a.length : Nat))]; rfl) k 0 (Nat.zero_le _) (by omega)
  refine (cf (by rw [hlen]; simp)).trans ?_
  simpa using this
 ·refine (ct (by rw [bne_iff_ne]; omega)).trans ?_
  rw [decide_eq_false (fun h => hlen (by rw [h]))]
end Go.Proofs.YtdmepjjepogddaaGreat.Gn
end

section
namespace Go.Proofs.YtdmepjjepogddaaGreat.Gn
open Go.Rf Go.IntWalk
set_option linter.unusedVariables false
set_option linter.unusedSimpArgs false
def Kf (p : den Ad) : Bool := inB p.1 0 65535 && inB p.2.1 0 65535 && inB p.2.2.1 0 255 && inB p.2.2.2.1 0 255 && inB p.2.2.2.2.1 0 255 && inB p.2.2.2.2.2.1 0 255 && decide ((p.2.2.2.2.2.2.2.2.length : Int) ≤ 48) && (!p.2.2.2.2.2.2.1 || decide ((p.2.2.2.2.2.2.2.2.length : Int) > 0)) && (!p.2.2.2.2.2.2.2.1 || (@BEq.beq Int _ p.2.2.2.2.2.1 0 && !p.2.2.2.2.2.2.1))
theorem C2 (k : Nat) (p : den Ad) : Hi k p = some (Kf p) := by
 obtain ⟨v0, v1, v2, v3, v4, v5, v6, v7, v8⟩ := p
 unfold Hi W9 Kf; (try dsimp only [Ax])
 simp only [Bq, Option.bind_some]
 cases inB v0 0 65535; · rfl
 cases inB v1 0 65535; · rfl
 cases inB v2 0 255; · rfl
 cases inB v3 0 255; · rfl
 cases inB v4 0 255; · rfl
 cases inB v5 0 255; · rfl
 cases decide ((v8.length : Int) ≤ 48); · rfl
 cases v6 <;> cases v7 <;> cases decide ((v8.length : Int) > 0) <;> cases @BEq.beq Int _ v5 0 <;> rfl
theorem Ri (k : Nat) (p : den Ad) : F89 k p = some (Kf p) := by
 obtain ⟨v0, v1, v2, v3, v4, v5, v6, v7, v8⟩ := p
 unfold F89 Xf8 Kf; (try dsimp only [Ax])
 simp only [C4, Iy, Option.bind_some]
 cases inB v0 0 65535; · rfl
 cases inB v1 0 65535; · rfl
 cases inB v2 0 255; · rfl
 cases inB v3 0 255; · rfl
 cases inB v4 0 255; · rfl
 cases inB v5 0 255; · rfl
 cases decide ((v8.length : Int) ≤ 48); · rfl
 cases v6 <;> cases v7 <;> cases decide ((v8.length : Int) > 0) <;> cases @BEq.beq Int _ v5 0 <;> rfl
theorem Cn {v0 v1 v2 v3 v4 v5 : Int} {v6 v7 : Bool} {v8 : A5} (h : Kf (v0, v1, v2, v3, v4, v5, v6, v7, v8) = true) : (0 ≤ v0 ∧ v0 ≤ 65535) ∧ (0 ≤ v1 ∧ v1 ≤ 65535) ∧ (0 ≤ v2 ∧ v2 ≤ 255) ∧ (0 ≤ v3 ∧ v3 ≤ 255) ∧ (0 ≤ v4 ∧ v4 ≤ 255) ∧ (0 ≤ v5 ∧ v5 ≤ 255) ∧ v8.length ≤ 48 ∧ (v6 = true → 0 < v8.length) ∧ (v7 = true → v5 = 0 ∧ v6 = false) := by
 unfold Kf at h
 simp only [Bool.and_eq_true, Bool.or_eq_true, Bool.not_eq_true', decide_eq_true_eq, beq_iff_eq] at h
 obtain ⟨⟨⟨⟨⟨⟨⟨⟨q0, q1⟩, q2⟩, q3⟩, q4⟩, q5⟩, q6⟩, q7⟩, q8⟩ := h
 refine ⟨Bh q0, Bh q1, Bh q2, Bh q3, Bh q4, Bh q5, by omega, fun e => ?_, fun e => ?_⟩
 ·rcases q7 with q | q
  ·rw [e] at q; cases q
  ·omega
 ·rcases q8 with q | q
  ·rw [e] at q; cases q
  ·exact q
theorem Oe {v0 v1 v2 v3 v4 v5 : Int} {v6 v7 : Bool} {v8 : A5} (h0 : 0 ≤ v0 ∧ v0 ≤ 65535) (h1 : 0 ≤ v1 ∧ v1 ≤ 65535) (h2 : 0 ≤ v2 ∧ v2 ≤ 255) (h3 : 0 ≤ v3 ∧ v3 ≤ 255) (h4 : 0 ≤ v4 ∧ v4 ≤ 255) (h5 : 0 ≤ v5 ∧ v5 ≤ 255) (h6 : v8.length ≤ 48) (h7 : v6 = true → 0 < v8.length) (h8 : v7 = true → v5 = 0 ∧ v6 = false) : Kf (v0, v1, v2, v3, v4, v5, v6, v7, v8) = true := by
 unfold Kf
 simp only [Bool.and_eq_true, Bool.or_eq_true, Bool.not_eq_true', decide_eq_true_eq, beq_iff_eq]
 refine ⟨⟨⟨⟨⟨⟨⟨⟨Ce h0, Ce h1⟩, Ce h2⟩, Ce h3⟩, Ce h4⟩, Ce h5⟩, by omega⟩, ?_⟩, ?_⟩
 ·cases v6 with
  | false => exact .inl rfl
  | true => have := h7 rfl; right; omega
 ·cases v7 with
  | false => exact .inl rfl
  | true => exact .inr (h8 rfl)
def flP (v6 v7 : Bool) : Int := cond v6 (cond v7 3 1) (cond v7 2 0)
def hdP (v0 v1 v2 v3 v4 v5 : Int) (v6 v7 : Bool) (n : Int) : A5 := Xc v0 ++ Xc v1 ++ [Ko v2, Ko v3, Ko v4, Ko v5, Ko (flP v6 v7), Ko n]
def pkB (v0 v1 v2 v3 v4 v5 : Int) (v6 v7 : Bool) (v8 : A5) : A5 := hdP v0 v1 v2 v3 v4 v5 v6 v7 (v8.length : Int) ++ Xc (Zy (hdP v0 v1 v2 v3 v4 v5 v6 v7 (v8.length : Int))) ++ v8
theorem X2 (v0 v1 v2 v3 v4 v5 : Int) (v6 v7 : Bool) (n : Int) : (hdP v0 v1 v2 v3 v4 v5 v6 v7 n).length = 10 := rfl
theorem Xe6 {v0 v1 : Int} (h0 : 0 ≤ v0 ∧ v0 ≤ 65535) (h1 : 0 ≤ v1 ∧ v1 ≤ 65535) (v2 v3 v4 v5 : Int) (v6 v7 : Bool) (n : Int) : BOk (hdP v0 v1 v2 v3 v4 v5 v6 v7 n) :=
 ((Xeo h0).app (Xeo h1)).app BOk.nil.cons.cons.cons.cons.cons.cons
theorem Xd8 (v0 v1 v2 v3 v4 v5 : Int) (v6 v7 : Bool) (v8 : A5) : (pkB v0 v1 v2 v3 v4 v5 v6 v7 v8).length = 12 + v8.length := by
 unfold pkB
 rw [List.length_append, List.length_append, X2, Vx]
theorem Xro (q : Nat) {v0 v1 v2 v3 v4 v5 : Int} {v6 v7 : Bool} {v8 : A5} (h : Kf (v0, v1, v2, v3, v4, v5, v6, v7, v8) = true) : Xg5 (q + 4) (v0, v1, v2, v3, v4, v5, v6, v7, v8) = some (hdP v0 v1 v2 v3 v4 v5 v6 v7 (v8.length : Int)) := by
 obtain ⟨h0, h1, _⟩ := Cn h
 have e : Xgz (q + 4) (v0, v1, v2, v3, v4, v5, v6, v7, v8) = some (flP v6 v7) := by
  unfold Xgz flP; (try dsimp only)
  cases v6 <;> cases v7 <;> rfl
 unfold Xg5 Vh; (try dsimp only [B3, Ax])
 refine (bs (Pw q v0 h0)).trans ((bs (Pw q v1 h1)).trans ((ct rfl).trans ((bs e).trans ((ct rfl).trans rfl))))
theorem Xug (q : Nat) {v0 v1 v2 v3 v4 v5 : Int} {v6 v7 : Bool} {v8 : A5} (h : Kf (v0, v1, v2, v3, v4, v5, v6, v7, v8) = true) (hk : 1048576 < q + 4) : Xh4 (q + 4) (v0, v1, v2, v3, v4, v5, v6, v7, v8) = some (pkB v0 v1 v2 v3 v4 v5 v6 v7 v8) := by
 obtain ⟨h0, h1, _, _, _, _, h6, _⟩ := Cn h
 have hB := Xe6 h0 h1 v2 v3 v4 v5 v6 v7 (v8.length : Int)
 have hl := X2 v0 v1 v2 v3 v4 v5 v6 v7 (v8.length : Int)
 unfold Xh4 Ul; (try dsimp only [B3])
 refine (bs (C2 (q + 4) _)).trans ?_
 rw [h]
 refine (cf rfl).trans ((bs (Xro q h)).trans ((bs (Xt3 (q + 4) _ hB (by omega) hk)).trans ((bs (Pw q _ (Xfw hB))).trans ?_)))
 refine (ct (decide_eq_true (by rw [hl, Vx]; omega))).trans ((ct (decide_eq_true (by rw [List.length_append, hl, Vx]; show (10 + 2 + v8.length) * 1 ≤ _; omega))).trans rfl)
theorem Xsv (q : Nat) {v0 v1 v2 v3 v4 v5 : Int} {v6 v7 : Bool} {v8 : A5} (h : Kf (v0, v1, v2, v3, v4, v5, v6, v7, v8) = true) (hk : 1048576 < q + 4) : Xgi (q + 4) (v0, v1, v2, v3, v4, v5, v6, v7, v8) = some (pkB v0 v1 v2 v3 v4 v5 v6 v7 v8) := by
 obtain ⟨h0, h1, _, _, _, _, h6, _⟩ := Cn h
 have hB := Xe6 h0 h1 v2 v3 v4 v5 v6 v7 (v8.length : Int)
 have hl := X2 v0 v1 v2 v3 v4 v5 v6 v7 (v8.length : Int)
 have hf : IntKind.i64.wrap ((if v6 = true then 1 else 0) + (if v7 = true then 2 else 0)) = flP v6 v7 := by unfold flP; cases v6 <;> cases v7 <;> decide
 unfold Xgi Xp; (try dsimp only [Ax])
 refine (bs (Vy q v0 h0)).trans ((bs (Vy q v1 h1)).trans ((bs (Xfm (q + 4) v6 1)).trans ((bs (Xfm (q + 4) v7 2)).trans ?_)))
 rw [hf]
 have c1 := Xb0 (q + 4) [Xc v0, Xc v1, [Ko v2, Ko v3, Ko v4, Ko v5, Ko (flP v6 v7), Ko (v8.length : Int)]] (show 3 < q + 4 by omega) (by show 3 ≤ 1048576; omega) (by show 10 ≤ 4194304; omega)
 have e1 : [Xc v0, Xc v1, [Ko v2, Ko v3, Ko v4, Ko v5, Ko (flP v6 v7), Ko (v8.length : Int)]].flatten = hdP v0 v1 v2 v3 v4 v5 v6 v7 (v8.length : Int) := rfl
 rw [e1] at c1
 refine (bs c1).trans ((bs (X3m q _ hB (by omega))).trans ((bs (Vy q _ (Xfw hB))).trans ?_))
 have e2 : [hdP v0 v1 v2 v3 v4 v5 v6 v7 (v8.length : Int), Xc (Zy (hdP v0 v1 v2 v3 v4 v5 v6 v7 (v8.length : Int))), v8].flatten = pkB v0 v1 v2 v3 v4 v5 v6 v7 v8 := by simp [pkB]
 have c2 := Xb0 (q + 4) [hdP v0 v1 v2 v3 v4 v5 v6 v7 (v8.length : Int), Xc (Zy (hdP v0 v1 v2 v3 v4 v5 v6 v7 (v8.length : Int))), v8] (show 3 < q + 4 by omega) (by show 3 ≤ 1048576; omega) (by rw [e2, Xd8]; omega)
 rw [e2] at c2
 exact (bs c2).trans rfl
def Xb (a b : Int) (n : Nat) : Bool := inB a 1 6 && inB b 0 65535 && decide ((n : Int) ≤ 20)
theorem Xef (k : Nat) (a b : Int) (l : A5) : Xaj k (a, b, l) = some (Xb a b l.length) := by
 unfold Xaj Vl Xb; (try dsimp only)
 simp only [Bq, Option.bind_some]
 cases inB a 1 6; · rfl
 cases inB b 0 65535 <;> rfl
theorem Xtf (k : Nat) (a b : Int) (l : A5) : Xge k (a, b, l) = some (Xb a b l.length) := by
 unfold Xge Uo Xb; (try dsimp only)
 simp only [C4, Iy, Option.bind_some]
 cases inB a 1 6; · rfl
 cases inB b 0 65535 <;> rfl
def noB (a b : Int) (l : A5) : A5 := cond (Xb a b l.length) ([Ko a] ++ Xc b ++ [Ko (l.length : Int)] ++ l) []
theorem P2 {a b : Int} {n : Nat} (h : Xb a b n = true) : (1 ≤ a ∧ a ≤ 6) ∧ (0 ≤ b ∧ b ≤ 65535) ∧ n ≤ 20 := by
 unfold Xb at h
 simp only [Bool.and_eq_true, decide_eq_true_eq] at h
 exact ⟨Bh h.1.1, Bh h.1.2, by omega⟩
theorem Xu2 (q : Nat) (a b : Int) (l : A5) : Xh3 (q + 4) (a, b, l) = some (noB a b l) := by
 unfold Xh3 Ur noB; (try dsimp only [B3, u_2])
 refine (bs (Xef (q + 4) a b l)).trans ?_
 cases h : Xb a b l.length with
 | false => rfl
 | true =>
  obtain ⟨_, h2, h3⟩ := P2 h
  refine (cf rfl).trans ((bs (Pw q b h2)).trans ((ct rfl).trans ((ct rfl).trans ((ct (decide_eq_true ?_)).trans rfl))))
  show (4 + l.length) * 1 ≤ _
  omega
theorem Xfy (q : Nat) (a b : Int) (l : A5) (hk : 1048576 < q + 4) : Yu (q + 4) (a, b, l) = some (noB a b l) := by
 unfold Yu W0 noB; (try dsimp only [u_2])
 refine (bs (Xtf (q + 4) a b l)).trans ?_
 cases h : Xb a b l.length with
 | false => rfl
 | true =>
  obtain ⟨_, h2, h3⟩ := P2 h
  have e1 : [[Ko a], Xc b, [Ko (l.length : Int)], l].flatten = [Ko a] ++ Xc b ++ [Ko (l.length : Int)] ++ l := by simp
  have c1 := Xb0 (q + 4) [[Ko a], Xc b, [Ko (l.length : Int)], l] (show 4 < q + 4 by omega) (by show 4 ≤ 1048576; omega) (by rw [e1]; show l.length + 1 + 1 + 1 + 1 ≤ 4194304; omega)
  rw [e1] at c1
  exact (cf rfl).trans ((bs (Vy q b h2)).trans ((bs c1).trans rfl))
theorem Va {a b : Int} {l : A5} (h : Xb a b l.length = true) : (noB a b l).length = 4 + l.length ∧ l.length ≤ 20 := by
 unfold noB
 rw [h]
 exact ⟨show l.length + 1 + 1 + 1 + 1 = 4 + l.length by omega, (P2 h).2.2⟩
def noF (v : A5) : (Int × (Int × A5)) × Bool := cond (decide (4 ≤ v.length) && Xb (a8 v 0) (n2 v 1) (v.drop 4).length && (a8 v 3 == ((v.drop 4).length : Int))) ((a8 v 0, n2 v 1, v.drop 4), true) ((0, 0, []), false)
theorem w8 {v : A5} (hb : BOk v) {j : Nat} (h : j < v.length) : IntKind.i64.wrap (a8 v j) = a8 v j := by
 have := Lr hb h
 exact i64_in _ (by omega)
theorem Xrg (q : Nat) (v : A5) (hb : BOk v) (hl : v.length ≤ 1048576) : Xiy (q + 4) v = some (noF v) := by
 unfold Xiy Uw noF; (try dsimp only [B3])
 by_cases h : v.length < 4
 ·rw [decide_eq_false (by omega : ¬ 4 ≤ v.length)]
  exact (ct (decide_eq_true (by omega))).trans rfl
 ·rw [decide_eq_true (by omega : 4 ≤ v.length)]
  refine (cf (decide_eq_false (by omega))).trans ((ct (decide_eq_true (by omega))).trans ((bs (Xtm q v hb hl 1 (by omega))).trans ?_))
  refine (ct (by rw [decide_eq_true (by omega : (4 : Int) ≤ (v.length : Int))]; rfl)).trans ((ct (decide_eq_true (by simp only [List.length_nil, List.length_drop]; omega))).trans ?_)
  rw [List.nil_append, show IntKind.i64.wrap (An v 0) = a8 v 0 from w8 hb (j := 0) (by omega), show IntKind.i64.wrap (An v 3) = a8 v 3 from w8 hb (j := 3) (by omega)]
  refine (bs (Xef (q + 4) (a8 v 0) (n2 v 1) (v.drop 4))).trans ?_
  cases Xb (a8 v 0) (n2 v 1) (v.drop 4).length with
  | false => rfl
  | true =>
   refine (cf rfl).trans ((ct (decide_eq_true (by omega))).trans ?_)
   cases hc : (a8 v 3 == ((v.drop 4).length : Int)) with
   | true => exact (cf (by rw [bne, hc]; rfl)).trans rfl
   | false => exact (ct (by rw [bne, hc]; rfl)).trans rfl
theorem four (v : A5) (h : 4 ≤ v.length) : v = a8 v 0 :: a8 v 1 :: a8 v 2 :: a8 v 3 :: v.drop 4 := by
 obtain _ | ⟨a, _ | ⟨b, _ | ⟨c, _ | ⟨d, r⟩⟩⟩⟩ := v
 ·simp at h
 ·simp at h
 ·simp at h
 ·simp at h
 ·rfl
theorem Xr3 (q : Nat) (v : A5) (hb : BOk v) (hl : v.length ≤ 1048576) (hk : 1048576 < q + 4) : Xhu (q + 4) v = some (noF v) := by
 unfold Xhu Wm noF; (try dsimp only)
 by_cases h : v.length < 4
 ·rw [decide_eq_false (by omega : ¬ 4 ≤ v.length)]
  exact (ct (decide_eq_true (by omega))).trans rfl
 ·have hv := four v (by omega)
  have q0 := Lr hb (j := 0) (by omega)
  have q1 := Lr hb (j := 1) (by omega)
  have q2 := Lr hb (j := 2) (by omega)
  have q3 := Lr hb (j := 3) (by omega)
  have hd : (v.drop 4).length = v.length - 4 := List.length_drop
  rw [decide_eq_true (by omega : 4 ≤ v.length)]
  refine (cf (decide_eq_false (by omega))).trans ((ct (decide_eq_true (by omega))).trans ((bs (Xtx q v hb hl 1 (by omega))).trans ?_))
  refine (ct (by rw [decide_eq_true (by omega : (4 : Int) ≤ (v.length : Int))]; rfl)).trans ((bs (Pt (q + 4) (v.drop 4) (by omega))).trans ?_)
  rw [show IntKind.i64.wrap (An v 0) = a8 v 0 from w8 hb (j := 0) (by omega)]
  refine (bs (Xfy q (a8 v 0) (n2 v 1) (v.drop 4) hk)).trans ?_
  have hnl : (noB (a8 v 0) (n2 v 1) (v.drop 4)).length ≤ 24 := by
   cases ho : Xb (a8 v 0) (n2 v 1) (v.drop 4).length with
   | false => unfold noB; rw [ho]; simp
   | true => have := Va ho; omega
  refine (bs (Xqq (q + 4) _ v (by omega) (by omega))).trans ?_
  have key : decide (noB (a8 v 0) (n2 v 1) (v.drop 4) = v) = (Xb (a8 v 0) (n2 v 1) (v.drop 4).length && (a8 v 3 == ((v.drop 4).length : Int))) := by
   cases ho : Xb (a8 v 0) (n2 v 1) (v.drop 4).length with
   | false =>
    unfold noB
    rw [ho]
    exact decide_eq_false (fun e => by rw [← e] at h; simp at h)
   | true =>
    obtain ⟨_, h2, h3⟩ := P2 ho
    unfold noB
    rw [ho, Bool.true_and, cond_true]
    have e0 : Ko (a8 v 0) = a8 v 0 := u8W _ q0
    have e1 : n2 v 1 / 256 = a8 v 1 := by show (a8 v 1 * 256 + a8 v 2) / 256 = _; omega
    have e2 : n2 v 1 % 256 = a8 v 2 := by show (a8 v 1 * 256 + a8 v 2) % 256 = _; omega
    have e3 : Ko ((v.drop 4).length : Int) = ((v.drop 4).length : Int) := u8W _ (by omega)
    by_cases c : a8 v 3 = ((v.drop 4).length : Int)
    ·rw [show (a8 v 3 == ((v.drop 4).length : Int)) = true from beq_iff_eq.2 c]
     refine decide_eq_true ?_
     rw [e0, e3, ← c]
     show a8 v 0 :: n2 v 1 / 256 :: n2 v 1 % 256 :: a8 v 3 :: v.drop 4 = v
     rw [e1, e2]
     exact hv.symm
    ·rw [show (a8 v 3 == ((v.drop 4).length : Int)) = false from beq_eq_false_iff_ne.2 c]
     refine decide_eq_false (fun e => c ?_)
     have e4 := congrArg (fun l => a8 l 3) e
     have e5 : Ko ((v.drop 4).length : Int) = a8 v 3 := e4
     exact e5.symm.trans e3
  rw [key]
  cases Xb (a8 v 0) (n2 v 1) (v.drop 4).length <;> cases (a8 v 3 == ((v.drop 4).length : Int)) <;> rfl
def Ka (k2 : Int) (v : A5) : Bool := (noF v).2 && (@BEq.beq Int _ k2 1) && decide ((noF v).1.1 ≥ 3)
theorem Xrc (q : Nat) (p : den Ad) (hb : BOk p.2.2.2.2.2.2.2.2) (hl : p.2.2.2.2.2.2.2.2.length ≤ 1048576) : Xgk (q + 4) p = some (Ka p.2.2.1 p.2.2.2.2.2.2.2.2) := by
 unfold Xgk Uu Ka; (try dsimp only)
 refine (bs (Xrg q _ hb hl)).trans ?_
 cases (noF p.2.2.2.2.2.2.2.2).2; · rfl
 refine (ct rfl).trans ?_
 cases @BEq.beq Int _ p.2.2.1 1 <;> rfl
theorem Xt7 (q : Nat) (p : den Ad) (hb : BOk p.2.2.2.2.2.2.2.2) (hl : p.2.2.2.2.2.2.2.2.length ≤ 1048576) (hk : 1048576 < q + 4) : Xi1 (q + 4) p = some (Ka p.2.2.1 p.2.2.2.2.2.2.2.2) := by
 unfold Xi1 V6 Ka; (try dsimp only)
 refine (bs (Xr3 q _ hb hl hk)).trans ?_
 cases (noF p.2.2.2.2.2.2.2.2).2; · rfl
 refine (ct rfl).trans ?_
 cases @BEq.beq Int _ p.2.2.1 1 <;> rfl
def noP : den Ad := (0, 0, 0, 0, 0, 0, false, false, [])
def Ta (v0 v1 v2 v3 v4 v5 : Int) (v6 v7 : Bool) (v8 : A5) (w p q : Int) : den Ad × Bool :=
 cond (!Ka v2 v8 && @BEq.beq Int _ v5 0) ((w, v0, 1, 64, v4, 0, false, false, noB p q ((pkB v0 v1 v2 v3 v4 v5 v6 v7 v8).take 20)), true) (noP, false)
theorem tk20 (l : A5) (n : Nat) (hl : l.length = n) : (l.take (if 20 < (n : Int) then 20 else (n : Int)).toNat).drop 0 = l.take 20 ∧ 0 ≤ (if 20 < (n : Int) then 20 else (n : Int)) ∧ (if 20 < (n : Int) then 20 else (n : Int)) ≤ (n : Int) := by
 by_cases c : 20 < (n : Int)
 ·rw [if_pos c]
  exact ⟨rfl, by omega, by omega⟩
 ·rw [if_neg c]
  refine ⟨?_, by omega, by omega⟩
  rw [Int.toNat_natCast, List.drop_zero, List.take_of_length_le (by omega), List.take_of_length_le (by omega)]
theorem Xt1 (n : Nat) {v0 v1 v2 v3 v4 v5 : Int} {v6 v7 : Bool} {v8 : A5} (h : Kf (v0, v1, v2, v3, v4, v5, v6, v7, v8) = true) (hb : BOk v8) (hk : 1048576 < n + 4) {w p q : Int} (hw : inB w 0 65535 = true) (hp : 3 ≤ p ∧ p ≤ 6) (hq : 0 ≤ q ∧ q ≤ 65535) :
  Zd (n + 4) (v0, v1, v2, v3, v4, v5, v6, v7, v8) w p q = some (Ta v0 v1 v2 v3 v4 v5 v6 v7 v8 w p q) := by
 obtain ⟨h0, h1, _, _, _, h5, h6, _⟩ := Cn h
 have hl := Xd8 v0 v1 v2 v3 v4 v5 v6 v7 v8
 obtain ⟨t1, t2, t3⟩ := tk20 (pkB v0 v1 v2 v3 v4 v5 v6 v7 v8) _ rfl
 have ho : Xb p q ((pkB v0 v1 v2 v3 v4 v5 v6 v7 v8).take 20).length = true := by
  unfold Xb
  rw [Ce (show 1 ≤ p ∧ p ≤ 6 by omega), Ce hq, List.length_take]
  exact decide_eq_true (by omega)
 have hn := Va ho
 unfold Zd Wi Ta; (try dsimp only)
 refine (bs (Xug n h hk)).trans ((ct (by rw [decide_eq_true t2, decide_eq_true t3]; rfl)).trans ?_)
 rw [t1]
 refine (bs (Xu2 n _ _ _)).trans ((bs (C2 _ _)).trans ?_)
 rw [h]
 refine (cf rfl).trans ((bs (Bq _ _ _ _)).trans ?_)
 rw [hw]
 refine (cf rfl).trans ((bs (Bq _ _ _ _)).trans ?_)
 rw [Ce hp]
 refine (cf rfl).trans ((cf (beq_eq_false_iff_ne.2 (by omega))).trans ((bs (Xrc n _ hb (show v8.length ≤ 1048576 by omega))).trans ?_))
 show cond (Ka v2 v8) _ _ = _
 cases Ka v2 v8 with
 | true => rfl
 | false =>
  refine (cf rfl).trans ?_
  by_cases c : v5 = 0
  ·subst c
   exact (cf (decide_eq_false (by show ¬ (0 : Int) > 0; omega))).trans rfl
  ·rw [show @BEq.beq Int _ v5 0 = false from beq_eq_false_iff_ne.2 c]
   exact (ct (decide_eq_true (by show v5 > 0; omega))).trans rfl
theorem Xfb (n : Nat) {v0 v1 v2 v3 v4 v5 : Int} {v6 v7 : Bool} {v8 : A5} (h : Kf (v0, v1, v2, v3, v4, v5, v6, v7, v8) = true) (hb : BOk v8) (hk : 1048576 < n + 4) {w p q : Int} (hw : inB w 0 65535 = true) (hp : 3 ≤ p ∧ p ≤ 6) (hq : 0 ≤ q ∧ q ≤ 65535) :
  Zu (n + 4) (v0, v1, v2, v3, v4, v5, v6, v7, v8) w p q = some (Ta v0 v1 v2 v3 v4 v5 v6 v7 v8 w p q) := by
 obtain ⟨h0, h1, _, _, _, h5, h6, _⟩ := Cn h
 obtain ⟨t1, t2, t3⟩ := tk20 (pkB v0 v1 v2 v3 v4 v5 v6 v7 v8) _ rfl
 unfold Zu Xu Ta; (try dsimp only)
 refine (bs (Ri _ _)).trans ?_
 rw [h]
 refine (cf rfl).trans ((bs (Iy _ _)).trans ?_)
 rw [hw]
 refine (cf rfl).trans ?_
 by_cases c : v5 = 0
 ·subst c
  refine (cf (by decide)).trans ((bs (Xt7 n _ hb (show v8.length ≤ 1048576 by omega) hk)).trans ?_)
  show cond (Ka v2 v8) _ _ = _
  cases Ka v2 v8 with
  | true => rfl
  | false =>
   refine (cf rfl).trans ((bs (C4 _ _ _ _)).trans ?_)
   rw [Ce hp]
   refine (cf rfl).trans ((bs (Iy _ _)).trans ?_)
   rw [Ce hq]
   refine (cf rfl).trans ((bs (Xsv n h hk)).trans ((ct (by rw [decide_eq_true t2, decide_eq_true t3]; rfl)).trans ?_))
   rw [t1]
   unfold Xpj; (try dsimp only)
   rw [Xfy n _ _ _ hk]
   rfl
 ·rw [show @BEq.beq Int _ v5 0 = false from beq_eq_false_iff_ne.2 c, Bool.and_false]
  exact (ct (bne_iff_ne.2 c)).trans rfl
def Iv (b : den Ad × Bool) : den Pr := cond b.2 (3, 0, [b.1]) (0, 0, [])
theorem Xsa {k : Nat} {s : den sta} {w : den Ad} {p q : Int} {b : den Ad × Bool} (h : Zd k w s.1 p q = some b) : Zq k s w p q = some (Iv b) := by
 unfold Zq Iv; (try dsimp only)
 refine (bs h).trans ?_
 cases b.2 <;> rfl
theorem Xek {k : Nat} {s : den sta} {w : den Ad} {p q : Int} {b : den Ad × Bool} (h : Zu k w s.1 p q = some b) : Y8 k s w p q = some (Iv b) := by
 unfold Y8 Iv; (try dsimp only)
 refine (bs h).trans ?_
 cases b.2 <;> rfl
end Go.Proofs.YtdmepjjepogddaaGreat.Gn
end

section
namespace Go.Proofs.YtdmepjjepogddaaGreat.Gn
open Go.Rf Go.IntWalk
set_option linter.unusedVariables false
set_option linter.unusedSimpArgs false
theorem Xr5 (k : Nat) {r : den B4} {w : Int} (ho : okR r = true) (hw : inB w 0 65535 = true) : Xh6 k r w = some (Rt.Sw w r) := by
 obtain ⟨a, n, g, m⟩ := r
 obtain ⟨h1, h2, _⟩ := L2 ho
 have hn := Bh h1
 have ha := Bh h2
 have hx := Bh hw
 have hr : 1 ≤ rest n ∧ rest n ≤ 65536 := P5 hn
 unfold Xh6 Ud Rt.Sw; (try dsimp only)
 refine (bs (Xfd k _)).trans ?_
 rw [ho]
 refine (ct rfl).trans ((bs (Bq _ _ _ _)).trans ?_)
 rw [hw]
 have hz : ¬ rest n = 0 := by omega
 refine (ct rfl).trans ((bs (Wd k hn)).trans ((cf (decide_eq_false hz)).trans ((bs (Wd k hn)).trans ((cf (decide_eq_false hz)).trans ?_))))
 have e : ∀ x : Int, 0 ≤ x ∧ x ≤ 65535 → IntKind.i64.wrap (x.tdiv (rest n)) = x.fdiv (rest n) := fun x hx => by
  rw [Int.tdiv_eq_ediv_of_nonneg hx.1, Int.fdiv_eq_ediv_of_nonneg x (by omega)]
  have h1 := Int.ediv_nonneg hx.1 (show 0 ≤ rest n by omega)
  have h2 := Int.ediv_le_self (rest n) hx.1
  exact i64_in _ (by omega)
 show some (IntKind.i64.wrap (w.tdiv (rest n)) == IntKind.i64.wrap (Int.tdiv a (rest n))) = some (w.fdiv (rest n) == Int.fdiv a (rest n))
 rw [e w hx, e a ha]
theorem Xpq (k : Nat) (v : rtL) (w : Int) (hl : v.length ≤ 1048576) (hr : F202 k v = some true) (ho : ∀ r ∈ v, okR r = true) (hw : inB w 0 65535 = true) : ∀ (j n : Nat), j ≤ v.length → j < n → Hm k v w n ((j : Int) - 1) = some (Rt.B5 w 17 (v.take j).reverse)
 | _, 0, _, h => by omega
 | 0, n + 1, _, _ => by
  rw [Hm]
  unfold Gj; (try dsimp only [Az])
  exact (cf (decide_eq_false (by omega))).trans rfl
 | j + 1, n + 1, hj, h => by
  have hlt : j < v.length := by omega
  have d1 : decide ((j : Int) < ((v.length : Nat) : Int)) = true := decide_eq_true (by omega)
  have d0 : decide ((0 : Int) ≤ ((j : Nat) : Int)) = true := decide_eq_true (by omega)
  have e1 : (((j + 1 : Nat) : Int) - 1) = (j : Int) := by omega
  have ok := ho _ (List.getElem_mem hlt)
  have hn := Bh (L2 ok).1
  rw [Hm]
  unfold Gj; (try dsimp only [Az])
  rw [e1, i64_in ((j : Int) - 1) (by omega), Aq v j hlt, Xpq k v w hl hr ho hw j n (by omega) (by omega), List.take_add_one, List.getElem?_eq_getElem hlt]
  refine (ct (decide_eq_true (by omega))).trans ((bs hr).trans ((ct rfl).trans ((ct d0).trans ((ct d1).trans ((bs (Xr5 k ok hw)).trans ?_)))))
  rw [Option.toList_some, List.reverse_append, List.reverse_singleton, List.singleton_append, Rt.B5]
  rw [show decide (@LT.lt Int _ v[j].2.1 17) = true from decide_eq_true (by omega), Bool.true_and]
  cases Rt.Sw w v[j] with
  | true => exact (ct rfl).trans ((ct d0).trans ((ct d1).trans rfl))
  | false => rfl
theorem Xq8 (k : Nat) (v : rtL) (w : Int) (hl : v.length ≤ 8) (hr : F202 k v = some true) (ho : ∀ r ∈ v, okR r = true) (hw : inB w 0 65535 = true) (hk : 1048576 < k) : Xhw k v w = some (Rt.B5 w 17 v.reverse) := by
 have := Xpq k v w (by omega) hr ho hw v.length k (Nat.le_refl _) (by omega)
 rw [List.take_length] at this
 unfold Xhw U5; (try dsimp only)
 rw [i64_in ((v.length : Int) - 1) (by omega)]
 exact this
theorem Xkj (k : Nat) (v : rtL) (w : Int) (hl : v.length ≤ 8) (ho : ∀ r ∈ v, okR r = true) : F74 k v w 17 = some (Rt.B5 w 17 v.reverse) := by
 unfold F74 Rt.to; (try dsimp only)
 refine ct ?_
 rw [Bool.and_eq_true]
 refine ⟨List.all_eq_true.2 fun r hr => ?_, decide_eq_true (by omega)⟩
 exact (L2 (ho r hr)).1
theorem Rr (w p : Int) : ∀ {l : rtL}, (Rt.B5 w p l).2 = true → (Rt.B5 w p l).1 ∈ l
 | [], h => by cases h
 | r :: l, h => by
  rw [Rt.B5] at h ⊢
  cases hc : (decide (@LT.lt Int _ r.2.1 p) && Rt.Sw w r) with
  | true => rw [hc] at h; exact List.mem_cons_self ..
  | false => rw [hc] at h; exact List.mem_cons_of_mem _ (Rr w p h)
def Hq (v0 v1 v2 v3 v4 : Int) (v7 : Bool) (a : Int) (m : Bool) (d : A5) : den Ad := (v0, v1, v2, v3, v4, a, m, v7, d)
def Cl (g : Int → Bool → A5 → den Ad) (N : Nat) (f : Bool) : Nat → Int → A5 → Ck
 | 0, _, _ => []
 | c + 1, a, d => if d.length ≤ N then [g a f d] else g a true (d.take N) :: Cl g N f c (a + (N : Int)) (d.drop N)
def Db (N : Nat) : Nat → Int → A5 → Int
 | 0, a, _ => a
 | c + 1, a, d => if d.length ≤ N then a else Db N c (a + (N : Int)) (d.drop N)
theorem Si (N : Nat) : ∀ (c : Nat) (a : Int) (d : A5), a ≤ Db N c a d
 | 0, a, d => Int.le_refl _
 | c + 1, a, d => by
  rw [Db]
  split
  ·exact Int.le_refl _
  ·have := Si N c (a + (N : Int)) (d.drop N)
   omega
theorem Yc (N : Nat) : ∀ (c : Nat) (a : Int) (d : A5), Db N c a d ≤ a + (d.length : Int)
 | 0, a, d => by rw [Db]; omega
 | c + 1, a, d => by
  rw [Db]
  split
  ·omega
  ·have := Yc N c (a + (N : Int)) (d.drop N)
   rw [List.length_drop] at this
   omega
def K9 (g : Int → Bool → A5 → den Ad) (N : Nat) (f : Bool) (m : Ck) (c : Nat) (a : Int) (d : A5) : Ck × Bool := cond (decide (Db N c a d > 255)) ([], false) (m ++ Cl g N f c a d, true)
theorem win (l : A5) (x N : Nat) : (l.take (x + min N (l.length - x))).drop x = (l.drop x).take N := by
 rw [List.drop_take, Nat.add_sub_cancel_left]
 by_cases h : N ≤ l.length - x
 ·rw [Nat.min_eq_left h]
 ·rw [Nat.min_eq_right (by omega), List.take_of_length_le (by rw [List.length_drop]; omega), List.take_of_length_le (by rw [List.length_drop]; omega)]
theorem Xnp (k : Nat) (v0 v1 v2 v3 v4 v5 : Int) (v6 v7 : Bool) (v8 : A5) (N : Nat) (h5 : 0 ≤ v5 ∧ v5 ≤ 255) (h8 : v8.length ≤ 48) (hN : 1 ≤ N ∧ N ≤ 48) : ∀ (c n x : Nat) (m : Ck), x = 0 ∨ x < v8.length → v8.length - x < c → c < n → m.length + c ≤ 200 →
  D4 k (v0, v1, v2, v3, v4, v5, v6, v7, v8) (N : Int) n (x : Int) m = some (K9 (Hq v0 v1 v2 v3 v4 v7) N v6 m c (v5 + (x : Int)) (v8.drop x))
 | 0, _, _, _, _, h, _, _ => by omega
 | _, 0, _, _, _, _, h, _ => by omega
 | c + 1, n + 1, x, m, hx, hc, hn, hm => by
  have hxl : x ≤ v8.length := by omega
  rw [D4]
  unfold F2; (try dsimp only)
  have step : Eu k (v0, v1, v2, v3, v4, v5, v6, v7, v8) (N : Int) (D4 k (v0, v1, v2, v3, v4, v5, v6, v7, v8) (N : Int) n) some (x : Int) m = some (K9 (Hq v0 v1 v2 v3 v4 v7) N v6 m (c + 1) (v5 + (x : Int)) (v8.drop x)) := by
   have hme : (if ((v8.length : Nat) : Int) < (x : Int) + (N : Int) then ((v8.length : Nat) : Int) else (x : Int) + (N : Int)) = ((x + min N (v8.length - x) : Nat) : Int) := by split <;> omega
   have hd : (v8.drop x).length = v8.length - x := List.length_drop
   have g1 : (decide ((0 : Int) ≤ ((x + min N (v8.length - x) : Nat) : Int)) && decide (((x + min N (v8.length - x) : Nat) : Int) ≤ ((v8.length : Nat) : Int))) = true := by rw [decide_eq_true (by omega), decide_eq_true (by omega)]; rfl
   have g2 : (decide ((0 : Int) ≤ (x : Int)) && decide ((x : Int) ≤ ((x + min N (v8.length - x) : Nat) : Int))) = true := by rw [decide_eq_true (by omega), decide_eq_true (by omega)]; rfl
   have g3 : decide ((([] : A5).length + ((v8.drop x).take N).length) * 1 ≤ 140737488355328) = true := decide_eq_true (by rw [List.length_take, hd, List.length_nil]; omega)
   have g4 : decide ((m.length + 1) * 80 ≤ 140737488355328) = true := decide_eq_true (by omega)
   have lg := Si N (c + 1) (v5 + (x : Int)) (v8.drop x)
   have nx : ∀ b : Bool, b = (if (v8.drop x).length ≤ N then v6 else true) → ¬ v5 + (x : Int) > 255 → D4 k (v0, v1, v2, v3, v4, v5, v6, v7, v8) (N : Int) n ((x : Int) + (N : Int)) (m ++ [Hq v0 v1 v2 v3 v4 v7 (v5 + (x : Int)) b ((v8.drop x).take N)]) = some (K9 (Hq v0 v1 v2 v3 v4 v7) N v6 m (c + 1) (v5 + (x : Int)) (v8.drop x)) := fun b hb ha => by
    have e1 : (x : Int) + (N : Int) = ((x + N : Nat) : Int) := by omega
    rw [e1]
    by_cases hlast : (v8.drop x).length ≤ N
    ·rw [if_pos hlast] at hb
     obtain ⟨n', rfl⟩ : ∃ n', n = n' + 1 := ⟨n - 1, by omega⟩
     rw [D4]
     unfold F2; (try dsimp only)
     refine (cf (beq_eq_false_iff_ne.2 (by omega))).trans ((cf (decide_eq_false (by omega))).trans ?_)
     unfold K9
     rw [Db, if_pos hlast, Cl, if_pos hlast, decide_eq_false ha, List.take_of_length_le hlast, hb]
     rfl
    ·rw [if_neg hlast] at hb
     have := Xnp k v0 v1 v2 v3 v4 v5 v6 v7 v8 N h5 h8 hN c n (x + N) (m ++ [Hq v0 v1 v2 v3 v4 v7 (v5 + (x : Int)) b ((v8.drop x).take N)]) (.inr (by omega)) (by omega) (by omega) (by rw [List.length_append, List.length_singleton]; omega)
     rw [this]
     unfold K9
     rw [Db, if_neg hlast, Cl, if_neg hlast, hb, List.drop_drop, List.append_assoc, List.singleton_append]
     rw [show v5 + ((x + N : Nat) : Int) = v5 + (x : Int) + (N : Int) by omega]
   unfold Eu; (try dsimp only [B3, Ax])
   rw [i64_in ((x : Int) + (N : Int)) (by omega), hme, i64_in (v5 + (x : Int)) (by omega), Int.toNat_natCast, Int.toNat_natCast, win, List.nil_append, List.length_singleton]
   by_cases ha : v5 + (x : Int) > 255
   ·have fin : some (([] : Ck), false) = some (K9 (Hq v0 v1 v2 v3 v4 v7) N v6 m (c + 1) (v5 + (x : Int)) (v8.drop x)) := by
     unfold K9
     rw [decide_eq_true (by omega : Db N (c + 1) (v5 + (x : Int)) (v8.drop x) > 255)]
     rfl
    cases v6 with
    | true => exact (ct rfl).trans ((ct g1).trans ((ct g2).trans ((ct g3).trans ((ct (decide_eq_true ha)).trans fin))))
    | false => exact (cf rfl).trans ((ct g1).trans ((ct g2).trans ((ct g3).trans ((ct (decide_eq_true ha)).trans fin))))
   ·cases v6 with
    | true => exact (ct rfl).trans ((ct g1).trans ((ct g2).trans ((ct g3).trans ((cf (decide_eq_false ha)).trans ((ct g4).trans (nx true (by split <;> rfl) ha))))))
    | false =>
     refine (cf rfl).trans ((ct g1).trans ((ct g2).trans ((ct g3).trans ((cf (decide_eq_false ha)).trans ((ct g4).trans (nx _ ?_ ha))))))
     by_cases hlast : (v8.drop x).length ≤ N
     ·rw [if_pos hlast]; exact decide_eq_false (by omega)
     ·rw [if_neg hlast]; exact decide_eq_true (by omega)
  rcases hx with h0 | h0
  ·subst h0
   exact (ct rfl).trans step
  ·by_cases hz : x = 0
   ·subst hz
    exact (ct rfl).trans step
   ·exact (cf (beq_eq_false_iff_ne.2 (by omega))).trans ((ct (decide_eq_true (by omega))).trans step)
theorem Xud (k : Nat) {v0 v1 v2 v3 v4 v5 : Int} {v6 v7 : Bool} {v8 : A5} {N : Nat} (h : Kf (v0, v1, v2, v3, v4, v5, v6, v7, v8) = true) (hN : 1 ≤ N ∧ N ≤ 48) (h7 : v7 = true → v8.length ≤ N) (hk : 1048576 < k) :
  Zo k (v0, v1, v2, v3, v4, v5, v6, v7, v8) (N : Int) = some (K9 (Hq v0 v1 v2 v3 v4 v7) N v6 [] 50 v5 v8) := by
 obtain ⟨_, _, _, _, _, h5, h8, _⟩ := Cn h
 have := Xnp k v0 v1 v2 v3 v4 v5 v6 v7 v8 N h5 h8 hN 50 k 0 [] (.inl rfl) (by omega) (by omega) (by simp)
 rw [List.drop_zero, show v5 + ((0 : Nat) : Int) = v5 by omega] at this
 unfold Zo Wv; (try dsimp only)
 refine (bs (C2 k _)).trans ?_
 rw [h]
 refine (cf rfl).trans ((bs (Bq k _ _ _)).trans ?_)
 rw [Ce (show 1 ≤ (N : Int) ∧ (N : Int) ≤ 48 by omega)]
 refine (cf rfl).trans ?_
 by_cases c : (v8.length : Int) > (N : Int)
 ·refine (ct (decide_eq_true c)).trans ?_
  cases v7 with
  | true => have := h7 rfl; omega
  | false => exact (cf rfl).trans this
 ·exact (cf (decide_eq_false c)).trans this
theorem Xe9 (k : Nat) (l : Ck) : Zk k l = some l := by
 unfold Zk V4; (try dsimp only)
 rw [decide_eq_true (by omega : (0 : Int) ≤ ((l.length : Nat) : Int)), decide_eq_true (Int.le_refl _)]
 simp
theorem Xnm (k : Nat) (v0 v1 v2 v3 v4 v5 : Int) (v6 : Bool) (v8 : A5) (N : Nat) (hN : 1 ≤ N) : ∀ (c : Nat) (d : A5) (m : Ck) (a : Int), d ≠ [] → d.length < c → m.length + c ≤ 200 → 0 ≤ a ∧ a + (d.length : Int) ≤ 1000 →
  E8 k (v0, v1, v2, v3, v4, v5, v6, false, v8) (N : Int) (B0 N d) m a = some (K9 (Hq v0 v1 v2 v3 v4 false) N v6 m c a d)
 | 0, _, _, _, _, h, _, _ => by omega
 | c + 1, d, m, a, h0, hc, hm, ha => by
  rw [Iq hN d h0, E8]
  try dsimp only [Ax]
  have htl : (d.take N).length = min N d.length := List.length_take
  refine (bs (Pt k (d.take N) (by omega))).trans ((ct (decide_eq_true (by rw [List.length_singleton]; omega))).trans ?_)
  by_cases hlast : d.length ≤ N
  ·have e0 : d.drop N = [] := List.drop_eq_nil_of_le hlast
   have e1 : d.take N = d := List.take_of_length_le hlast
   rw [e0, Kw hN, e1, E8]
   have hl : (m ++ [(v0, v1, v2, v3, v4, a, true, false, d)]).length = m.length + 1 := by rw [List.length_append, List.length_singleton]
   have hi : IntKind.i64.wrap (((m ++ [(v0, v1, v2, v3, v4, a, true, false, d)]).length : Int) - 1) = ((m.length : Nat) : Int) := by rw [hl, i64_in _ (by omega)]; omega
   have hg : An (t := Ad) (m ++ [(v0, v1, v2, v3, v4, a, true, false, d)]) ((m.length : Nat) : Int) = (v0, v1, v2, v3, v4, a, true, false, d) := by rw [Aq _ m.length (by rw [hl]; omega)]; simp
   have hset : (m ++ [(v0, v1, v2, v3, v4, a, true, false, d)]).set m.length (v0, v1, v2, v3, v4, a, v6, false, d) = m ++ [Hq v0 v1 v2 v3 v4 false a v6 d] := by simp [Hq]
   have hg2 : An (t := Ad) (m ++ [Hq v0 v1 v2 v3 v4 false a v6 d]) ((m.length : Nat) : Int) = Hq v0 v1 v2 v3 v4 false a v6 d := by rw [Aq _ m.length (by rw [List.length_append, List.length_singleton]; omega)]; simp
   try dsimp only
   rw [hi, hg, Int.toNat_natCast]
   refine (ct (decide_eq_true (by omega))).trans ((ct (decide_eq_true (by rw [hl]; omega))).trans ((bs (congrArg some hset)).trans ((cf rfl).trans ?_)))
   rw [hg2]
   unfold K9
   rw [Db, if_pos hlast, Cl, if_pos hlast]
   by_cases c2 : a > 255
   ·rw [decide_eq_true c2]
    exact (ct (decide_eq_true c2)).trans rfl
   ·rw [decide_eq_false c2]
    exact (cf (decide_eq_false c2)).trans ((bs (Xe9 k _)).trans rfl)
  ·have hdl : (d.drop N).length = d.length - N := List.length_drop
   have hne : d.drop N ≠ [] := by
    intro e
    rw [e] at hdl
    simp at hdl
    omega
   have ea : IntKind.i64.wrap (a + ((d.take N).length : Int)) = a + (N : Int) := by rw [htl, i64_in _ (by omega)]; omega
   rw [ea, Xnm k v0 v1 v2 v3 v4 v5 v6 v8 N hN c (d.drop N) _ _ hne (by omega) (by rw [List.length_append, List.length_singleton]; omega) (by omega)]
   unfold K9
   rw [Db, if_neg hlast, Cl, if_neg hlast, List.append_assoc, List.singleton_append]
   rfl
theorem Hc (k : Nat) (p : den Ad) (hl : p.2.2.2.2.2.2.2.2.length ≤ 1048576) : Pq k p = some p := by
 unfold Pq; (try dsimp only [Ax])
 exact (bs (Pt k _ (by omega))).trans rfl
theorem Md (k : Nat) (p : den Ad) (hl : p.2.2.2.2.2.2.2.2.length ≤ 1048576) : Ml k p = some p := by
 unfold Ml; (try dsimp only [B3, Ax])
 refine (ct (decide_eq_true (by rw [List.length_nil]; omega))).trans ?_
 rw [List.nil_append]
theorem Xe4 (k : Nat) {v0 v1 v2 v3 v4 v5 : Int} {v6 v7 : Bool} {v8 : A5} {N : Nat} (h : Kf (v0, v1, v2, v3, v4, v5, v6, v7, v8) = true) (hN : 1 ≤ N ∧ N ≤ 48) (h7 : v7 = true → v8.length ≤ N) :
  Yl k (v0, v1, v2, v3, v4, v5, v6, v7, v8) (N : Int) = some (K9 (Hq v0 v1 v2 v3 v4 v7) N v6 [] 50 v5 v8) := by
 obtain ⟨_, _, _, _, _, h5, h8, _⟩ := Cn h
 unfold Yl; (try dsimp only)
 by_cases c : v8.length ≤ N
 ·refine (ct (decide_eq_true (by omega))).trans ((bs (Hc k _ (show v8.length ≤ 1048576 by omega))).trans ?_)
  unfold K9
  rw [Db, if_pos c, Cl, if_pos c, decide_eq_false (by omega : ¬ v5 > 255)]
  rfl
 ·have e7 : v7 = false := by
   cases v7 with
   | false => rfl
   | true => exact absurd (h7 rfl) c
  subst e7
  refine (cf (decide_eq_false (by omega))).trans ((ct ?_).trans ?_)
  ·rw [decide_eq_true (by omega : (1 : Int) ≤ (N : Int)), decide_eq_true (by omega : (N : Int) ≤ 9223372036854775807), decide_eq_true (show v8.length ≤ 140737488355328 by omega)]; rfl
  ·rw [Int.toNat_natCast]
   exact Xnm k v0 v1 v2 v3 v4 v5 v6 v8 N hN.1 50 v8 [] v5 (fun e => c (by rw [e]; simp)) (by omega) (by simp) (by omega)
end Go.Proofs.YtdmepjjepogddaaGreat.Gn
end

section
namespace Go.Proofs.YtdmepjjepogddaaGreat.Gn
open Go.Rf Go.IntWalk
set_option linter.unusedVariables false
set_option linter.unusedSimpArgs false
def wl (n : Nat) : Int := if n = 0 then 1 else (n : Int)
def wt (p : den Ad) : Int := wl p.2.2.2.2.2.2.2.2.length * ((p.2.2.2.1 : Int) + 1)
theorem Xn6 (n : Nat) : 1 ≤ wl n := by unfold wl; split <;> omega
theorem Yt (v0 v1 v2 v3 v4 : Int) (v7 : Bool) {N : Nat} (hN : 1 ≤ N) (f : Bool) : ∀ (c : Nat) (a : Int) (d : A5), d.length < c → Bp wt (Cl (Hq v0 v1 v2 v3 v4 v7) N f c a d) = wl d.length * (v3 + 1)
 | 0, _, _, h => by omega
 | c + 1, a, d, h => by
  rw [Cl]
  by_cases hl : d.length ≤ N
  ·rw [if_pos hl]
   simp only [Bp]
   show wl d.length * (v3 + 1) + 0 = _
   omega
  ·rw [if_neg hl]
   have hd : (d.drop N).length = d.length - N := List.length_drop
   have ht : (d.take N).length = N := by rw [List.length_take]; omega
   simp only [Bp]
   rw [Yt v0 v1 v2 v3 v4 v7 hN f c (a + (N : Int)) (d.drop N) (by omega)]
   show wl (d.take N).length * (v3 + 1) + _ = _
   rw [ht, hd, ← Int.add_mul]
   congr 1
   unfold wl
   split <;> split <;> split <;> omega
theorem Zx (g : Int → Bool → A5 → den Ad) {N : Nat} (hN : 1 ≤ N) (f : Bool) {p : den Ad} : ∀ (c : Nat) (a : Int) (d : A5), p ∈ Cl g N f c a d → ∃ a' m d', p = g a' m d' ∧ a ≤ a' ∧ a' ≤ Db N c a d ∧ d'.length ≤ d.length ∧ (d ≠ [] → d' ≠ []) ∧ (m = f ∨ d' ≠ []) ∧ (∀ x ∈ d', x ∈ d)
 | 0, _, _, h => by simp [Cl] at h
 | c + 1, a, d, h => by
  rw [Cl] at h
  rw [Db]
  by_cases hl : d.length ≤ N
  ·rw [if_pos hl] at h ⊢
   obtain rfl := List.mem_singleton.1 h
   exact ⟨a, f, d, rfl, Int.le_refl _, Int.le_refl _, Nat.le_refl _, id, .inl rfl, fun x hx => hx⟩
  ·rw [if_neg hl] at h ⊢
   have hd : (d.drop N).length = d.length - N := List.length_drop
   have ht : (d.take N).length = N := by rw [List.length_take]; omega
   have hge := Si N c (a + (N : Int)) (d.drop N)
   rcases List.mem_cons.1 h with e | h
   ·have hne : d.take N ≠ [] := fun e => by rw [e] at ht; simp at ht; omega
    exact ⟨a, true, d.take N, e, Int.le_refl _, by omega, by omega, fun _ => hne, .inr hne, fun x hx => List.mem_of_mem_take hx⟩
   ·have hne : d.drop N ≠ [] := fun e => by rw [e] at hd; simp at hd; omega
    obtain ⟨a', m, d', h1, h2, h3, h4, h5, h6, h7⟩ := Zx g hN f c (a + (N : Int)) (d.drop N) h
    exact ⟨a', m, d', h1, by omega, h3, by omega, fun _ => h5 hne, h6, fun x hx => List.mem_of_mem_drop (h7 x hx)⟩
def N5 (p : den Ad) : den Ad := (p.1, p.2.1, p.2.2.1, IntKind.i64.wrap ((p.2.2.2.1 : Int) - 1), p.2.2.2.2)
theorem Qq {v3 : Int} (h3 : 0 ≤ v3 ∧ v3 ≤ 255) (v0 v1 v2 v4 : Int) (v7 : Bool) (N : Nat) (f : Bool) : ∀ (c : Nat) (a : Int) (d : A5), (Cl (Hq v0 v1 v2 v3 v4 v7) N f c a d).map N5 = Cl (Hq v0 v1 v2 (v3 - 1) v4 v7) N f c a d
 | 0, _, _ => rfl
 | c + 1, a, d => by
  have e : ∀ (a : Int) (m : Bool) (d : A5), N5 (Hq v0 v1 v2 v3 v4 v7 a m d) = Hq v0 v1 v2 (v3 - 1) v4 v7 a m d := fun a m d => by
   show (v0, v1, v2, IntKind.i64.wrap (v3 - 1), v4, a, m, v7, d) = _
   rw [i64_in (v3 - 1) (by omega)]
   rfl
  rw [Cl, Cl]
  split
  ·rw [List.map_cons, e]; rfl
  ·rw [List.map_cons, e, Qq h3 v0 v1 v2 v4 v7 N f c]
theorem Xdt (k : Nat) (s : den sta) (w : den Ad) (z : den B4) : ∀ (n : Nat) (d r : Ck), d.length + r.length ≤ 1000 → r.length < n → D5 k s w n ((d.length + r.length : Nat) : Int) (d.length : Int) z (d ++ r) = some ((2 : Int), (z.2.2.1 : Int), d ++ r.map N5)
 | 0, _, _, _, h => by omega
 | n + 1, d, [], hl, h => by
  rw [D5]
  unfold Fy; (try dsimp only [Az])
  simp
 | n + 1, d, p :: r, hl, h => by
  rw [D5]
  unfold Fy; (try dsimp only [Az])
  rw [List.length_cons] at hl h
  have hj : d.length < (d ++ p :: r).length := by simp
  have hg : An (t := Ad) (d ++ p :: r) (d.length : Int) = p := by rw [Aq _ d.length hj]; simp
  have hset : (d ++ p :: r).set d.length (N5 p) = (d ++ [N5 p]) ++ r := by simp
  have ih := Xdt k s w z n (d ++ [N5 p]) r (by simp; omega) (by omega)
  have e1 : (((d ++ [N5 p]).length + r.length : Nat) : Int) = ((d.length + (p :: r).length : Nat) : Int) := by simp; omega
  have e2 : ((d ++ [N5 p]).length : Int) = ((d.length + 1 : Nat) : Int) := by simp
  rw [e1, e2] at ih
  rw [hg, I0 d.length (by omega), Int.toNat_natCast]
  refine (ct (decide_eq_true (by simp only [List.length_cons]; omega))).trans ?_
  have d0 : decide ((0 : Int) ≤ (d.length : Int)) = true := decide_eq_true (by omega)
  have d1 : decide ((d.length : Int) < ((d ++ p :: r).length : Int)) = true := decide_eq_true (by omega)
  refine (ct d0).trans ((ct d1).trans ((ct d0).trans ((ct d1).trans ?_)))
  refine (congrArg (fun l => D5 k s w n ((d.length + (p :: r).length : Nat) : Int) ((d.length + 1 : Nat) : Int) z l) hset).trans (ih.trans ?_)
  rw [List.map_cons, List.append_assoc, List.singleton_append]
def Xuz (p : den Ad) (d : den Pr) : Prop :=
 (@Eq Int d.1 0 ∧ d.2.2 = []) ∨ (@Eq Int d.1 1 ∧ d.2.2 = [p]) ∨ (@Eq Int d.1 3 ∧ ∃ n : den Ad, d.2.2 = [n] ∧ n.2.2.2.2.2.2.2.2.length ≤ 1048576) ∨
  (@Eq Int d.1 2 ∧ (∀ r ∈ d.2.2, Kf r = true ∧ BOk r.2.2.2.2.2.2.2.2) ∧ Bp wt d.2.2 + 1 ≤ wt p ∧ d.2.2.length ≤ 50)
theorem H8 (p : den Ad) (v0 v1 v2 v3 v4 v5 : Int) (v6 v7 : Bool) (v8 : A5) (w a b : Int) : Xuz p (Iv (Ta v0 v1 v2 v3 v4 v5 v6 v7 v8 w a b)) := by
 unfold Ta
 cases (!Ka v2 v8 && @BEq.beq Int _ v5 0) with
 | false => exact .inl ⟨rfl, rfl⟩
 | true =>
  refine .inr (.inr (.inl ⟨rfl, _, rfl, ?_⟩))
  show (noB a b ((pkB v0 v1 v2 v3 v4 v5 v6 v7 v8).take 20)).length ≤ _
  cases ho : Xb a b ((pkB v0 v1 v2 v3 v4 v5 v6 v7 v8).take 20).length with
  | false => unfold noB; rw [ho]; simp
  | true => have := Va ho; omega
theorem H6 (g : Int → Bool → A5 → den Ad) (N : Nat) (f : Bool) : ∀ (c : Nat) (a : Int) (d : A5), (Cl g N f c a d).length ≤ c
 | 0, _, _ => Nat.le_refl _
 | c + 1, a, d => by
  rw [Cl]
  split
  ·simp
  ·have := H6 g N f c (a + (N : Int)) (d.drop N)
   rw [List.length_cons]
   omega
theorem Xoi {v0 v1 v2 v3 v4 v5 : Int} {v6 v7 : Bool} {v8 : A5} {N : Nat} (h : Kf (v0, v1, v2, v3, v4, v5, v6, v7, v8) = true) (hb : BOk v8) (hN : 1 ≤ N ∧ N ≤ 48) (h7 : v7 = true → v8.length ≤ N) (h3 : ¬ v3 < 2) (gw : Int) (ha : ¬ Db N 50 v5 v8 > 255) :
  Xuz (v0, v1, v2, v3, v4, v5, v6, v7, v8) (2, gw, Cl (Hq v0 v1 v2 (v3 - 1) v4 v7) N v6 50 v5 v8) := by
 obtain ⟨q0, q1, q2, q3, q4, q5, q6, q7, q8⟩ := Cn h
 refine .inr (.inr (.inr ⟨rfl, fun r hr => ?_, ?_, H6 _ _ _ _ _ _⟩))
 ·cases v7 with
  | true =>
   have hr : r ∈ Cl (Hq v0 v1 v2 (v3 - 1) v4 true) N v6 50 v5 v8 := hr
   rw [Cl, if_pos (h7 rfl)] at hr
   obtain rfl := List.mem_singleton.1 hr
   exact ⟨Oe q0 q1 q2 (by omega) q4 q5 q6 q7 q8, hb⟩
  | false =>
   obtain ⟨a', m, d', rfl, e1, e2, e3, e4, e5, e6⟩ := Zx (Hq v0 v1 v2 (v3 - 1) v4 false) hN.1 v6 50 v5 v8 hr
   refine ⟨Oe q0 q1 q2 (by omega) q4 (by omega) (by omega) (fun hm => ?_) (fun e => by cases e), fun x hx => hb x (e6 x hx)⟩
   refine List.length_pos_iff.2 ?_
   rcases e5 with e5 | e5
   ·exact e4 (List.length_pos_iff.1 (q7 (e5.symm.trans hm)))
   ·exact e5
 ·show Bp wt (Cl (Hq v0 v1 v2 (v3 - 1) v4 v7) N v6 50 v5 v8) + 1 ≤ wl v8.length * (v3 + 1)
  rw [Yt v0 v1 v2 (v3 - 1) v4 v7 hN.1 v6 50 v5 v8 (by omega)]
  have := Xn6 v8.length
  rw [show v3 - 1 + 1 = v3 by omega, Int.mul_add, Int.mul_one]
  omega
theorem fwd (q : Nat) {s : den sta} (hs : StaOk (q + 4) s) {v0 v1 v2 v3 v4 v5 : Int} {v6 v7 : Bool} {v8 : A5} (h : Kf (v0, v1, v2, v3, v4, v5, v6, v7, v8) = true) (hb : BOk v8) (hk : 1048576 < q + 4) :
  ∃ d : den Pr, Xd1 (q + 4) s (v0, v1, v2, v3, v4, v5, v6, v7, v8) = some d ∧ Vd (q + 4) s (v0, v1, v2, v3, v4, v5, v6, v7, v8) = some d ∧ Xuz (v0, v1, v2, v3, v4, v5, v6, v7, v8) d := by
 obtain ⟨q0, q1, q2, q3, q4, q5, q6, q7, q8⟩ := Cn h
 have hp : Hi (q + 4) (v0, v1, v2, v3, v4, v5, v6, v7, v8) = some true := by rw [C2, h]
 have h58 := Hc (q + 4) (v0, v1, v2, v3, v4, v5, v6, v7, v8) (show v8.length ≤ 1048576 by omega)
 have h39 := Md (q + 4) (v0, v1, v2, v3, v4, v5, v6, v7, v8) (show v8.length ≤ 1048576 by omega)
 have sg := fun (a b : Int) (ha : 3 ≤ a ∧ a ≤ 6) (hb2 : 0 ≤ b ∧ b ≤ 65535) => Xsa (Xt1 q h hb hk hs.at1 ha hb2)
 have ig := fun (a b : Int) (ha : 3 ≤ a ∧ a ≤ 6) (hb2 : 0 ≤ b ∧ b ≤ 65535) => Xek (Xfb q h hb hk hs.at1 ha hb2)
 unfold Xd1 V0 Vd So; (try dsimp only)
 rw [hs.st, hp]
 by_cases c1 : v1 = s.1
 ·have b1 : (v1 == s.1) = true := beq_iff_eq.2 c1
  exact ⟨(1, 0, [(v0, v1, v2, v3, v4, v5, v6, v7, v8)]), (bs rfl).trans ((cf rfl).trans ((bs rfl).trans ((cf rfl).trans ((ct b1).trans ((bs h39).trans rfl))))), (ct b1).trans ((bs h58).trans rfl), .inr (.inl ⟨rfl, rfl⟩)⟩
 have b1 : (v1 == s.1) = false := beq_eq_false_iff_ne.2 c1
 by_cases c2 : v3 < 2
 ·have b2 : decide (v3 < 2) = true := decide_eq_true c2
  exact ⟨_, (bs rfl).trans ((cf rfl).trans ((bs rfl).trans ((cf rfl).trans ((cf b1).trans ((ct b2).trans ((bs (sg 4 0 (by omega) (by omega))).trans rfl)))))), (cf b1).trans ((ct b2).trans ((bs (ig 4 0 (by omega) (by omega))).trans rfl)), H8 _ _ _ _ _ _ _ _ _ _ _ _ _⟩
 have b2 : decide (v3 < 2) = false := decide_eq_false c2
 have fs := Xq8 (q + 4) s.2 v1 hs.len hs.rs hs.ok (Ce q1) hk
 have fi := Xkj (q + 4) s.2 v1 hs.len hs.ok
 have fm := Rr v1 17 (l := s.2.reverse)
 generalize Rt.B5 v1 17 s.2.reverse = r at fs fi fm
 obtain ⟨r, fd⟩ := r
 cases fd with
 | false =>
  exact ⟨_, (bs rfl).trans ((cf rfl).trans ((bs rfl).trans ((cf rfl).trans ((cf b1).trans ((cf b2).trans ((bs fs).trans ((ct rfl).trans ((bs (sg 3 0 (by omega) (by omega))).trans rfl)))))))), (cf b1).trans ((cf b2).trans ((bs fi).trans ((ct rfl).trans ((bs (ig 3 0 (by omega) (by omega))).trans rfl)))), H8 _ _ _ _ _ _ _ _ _ _ _ _ _⟩
 | true =>
  have hm := List.mem_reverse.1 (fm rfl)
  obtain ⟨r0, r1, gw, mtu⟩ := r
  have hmtu : @LE.le Int _ 1 mtu ∧ @LE.le Int _ mtu 48 := Bh (L2 (hs.ok _ hm)).2.2.2
  obtain ⟨N, hN⟩ : ∃ N : Nat, mtu = (N : Int) := ⟨Int.toNat mtu, (Int.toNat_of_nonneg (by omega)).symm⟩
  subst hN
  have hN : 1 ≤ N ∧ N ≤ 48 := by omega
  have w3 : IntKind.i64.wrap (v3 - 1) = v3 - 1 := i64_in _ (by omega)
  have hok' : Kf (v0, v1, v2, v3 - 1, v4, v5, v6, v7, v8) = true := Oe q0 q1 q2 (by omega) q4 q5 q6 q7 q8
  have sj : (v7 = true → v8.length ≤ N) → ∃ d : den Pr, L9 (q + 4) s (v0, v1, v2, v3, v4, v5, v6, v7, v8) some ((r0, r1, gw, (N : Int)), true) = some d ∧ (Yl (q + 4) (v0, v1, v2, v3, v4, v5, v6, v7, v8) (N : Int)).bind (fun b6 => cond (!b6.2) (some ((0 : Int), (0 : Int), ([] : Ck))) (D5 (q + 4) s (v0, v1, v2, v3, v4, v5, v6, v7, v8) (q + 4) (b6.1.length : Int) 0 (r0, r1, gw, (N : Int)) b6.1)) = some d ∧ Xuz (v0, v1, v2, v3, v4, v5, v6, v7, v8) d := fun h7 => by
   have e1 := Xud (q + 4) hok' hN h7 hk
   have e2 := Xe4 (q + 4) h hN h7
   unfold L9; (try dsimp only)
   unfold K9 at e1 e2
   by_cases ha : Db N 50 v5 v8 > 255
   ·rw [decide_eq_true ha] at e1 e2
    refine ⟨(0, 0, []), (bs h39).trans ?_, (bs e2).trans rfl, .inl ⟨rfl, rfl⟩⟩
    show (Zo (q + 4) (v0, v1, v2, IntKind.i64.wrap (v3 - 1), v4, v5, v6, v7, v8) (N : Int)).bind _ = _
    rw [w3]
    exact (bs e1).trans rfl
   ·rw [decide_eq_false ha] at e1 e2
    refine ⟨(2, gw, Cl (Hq v0 v1 v2 (v3 - 1) v4 v7) N v6 50 v5 v8), (bs h39).trans ?_, (bs e2).trans ?_, Xoi h hb hN h7 c2 gw ha⟩
    ·show (Zo (q + 4) (v0, v1, v2, IntKind.i64.wrap (v3 - 1), v4, v5, v6, v7, v8) (N : Int)).bind _ = _
     rw [w3]
     exact (bs e1).trans rfl
    ·have hl := H6 (Hq v0 v1 v2 v3 v4 v7) N v6 50 v5 v8
     have := Xdt (q + 4) s (v0, v1, v2, v3, v4, v5, v6, v7, v8) (r0, r1, gw, (N : Int)) (q + 4) [] (Cl (Hq v0 v1 v2 v3 v4 v7) N v6 50 v5 v8) (by simp; omega) (by omega)
     simp only [List.nil_append, List.length_nil, Nat.zero_add] at this
     rw [Qq q3] at this
     exact (cf rfl).trans this
  by_cases c3 : (v8.length : Int) > (N : Int)
  ·have b3 : decide ((v8.length : Int) > (N : Int)) = true := decide_eq_true c3
   cases v7 with
   | true =>
    exact ⟨_, (bs rfl).trans ((cf rfl).trans ((bs rfl).trans ((cf rfl).trans ((cf b1).trans ((cf b2).trans ((bs fs).trans ((cf rfl).trans ((ct b3).trans ((ct rfl).trans ((bs (sg 6 (N : Int) (by omega) (by omega))).trans rfl)))))))))), (cf b1).trans ((cf b2).trans ((bs fi).trans ((cf rfl).trans ((ct b3).trans ((ct rfl).trans ((bs (ig 6 (N : Int) (by omega) (by omega))).trans rfl)))))), H8 _ _ _ _ _ _ _ _ _ _ _ _ _⟩
   | false =>
    obtain ⟨d, e1, e2, e3⟩ := sj (fun e => by cases e)
    exact ⟨d, (bs rfl).trans ((cf rfl).trans ((bs rfl).trans ((cf rfl).trans ((cf b1).trans ((cf b2).trans ((bs fs).trans ((cf rfl).trans ((ct b3).trans ((cf rfl).trans e1))))))))), (cf b1).trans ((cf b2).trans ((bs fi).trans ((cf rfl).trans ((ct b3).trans ((cf rfl).trans e2))))), e3⟩
  ·have b3 : decide ((v8.length : Int) > (N : Int)) = false := decide_eq_false c3
   obtain ⟨d, e1, e2, e3⟩ := sj (fun e => by omega)
   exact ⟨d, (bs rfl).trans ((cf rfl).trans ((bs rfl).trans ((cf rfl).trans ((cf b1).trans ((cf b2).trans ((bs fs).trans ((cf rfl).trans ((cf b3).trans e1)))))))), (cf b1).trans ((cf b2).trans ((bs fi).trans ((cf rfl).trans ((cf b3).trans e2)))), e3⟩
end Go.Proofs.YtdmepjjepogddaaGreat.Gn
end

section
namespace Go.Proofs.YtdmepjjepogddaaGreat.Gn
open Go.Rf Go.IntWalk
set_option linter.unusedVariables false
set_option linter.unusedSimpArgs false
abbrev Tt : Type := List (den (.pair (.int .i64) Ad))
def nM (d1 : Int) (l : Ck) (m : den Cy) : den Cy := cond (d1 == 1) (m.1 ++ l, m.2) (cond (d1 == 3) (m.1, m.2.1 ++ l, m.2.2) m)
def nA (d1 t : Int) (n : Nat) (A : Bc) : Bc := cond (d1 == 1) A (cond (d1 == 3) A (cond (decide (t ≥ 0)) (A ++ List.replicate n t) A))
def nR (d1 t : Int) (l : Ck) (R : Ck) : Ck := cond (d1 == 1) R (cond (d1 == 3) R (cond (decide (t ≥ 0)) (R ++ l) R))
theorem Xtz (d1 : Int) (a : den Ad) (l : Ck) (m : den Cy) : nM d1 l (nM d1 [a] m) = nM d1 (a :: l) m := by
 unfold nM
 cases d1 == 1 <;> cases d1 == 3 <;> simp
theorem Xtd (d1 t : Int) (n : Nat) (A : Bc) : nA d1 t n (nA d1 t 1 A) = nA d1 t (n + 1) A := by
 unfold nA
 cases d1 == 1 <;> cases d1 == 3 <;> cases decide (t ≥ 0) <;> simp [List.replicate_succ]
theorem Xuu (d1 t : Int) (a : den Ad) (l : Ck) (R : Ck) : nR d1 t l (nR d1 t [a] R) = nR d1 t (a :: l) R := by
 unfold nR
 cases d1 == 1 <;> cases d1 == 3 <;> cases decide (t ≥ 0) <;> simp
theorem Xw7 (d1 : Int) (l : Ck) (m : den Cy) : (nM d1 l m).1.length ≤ m.1.length + l.length ∧ (nM d1 l m).2.1.length ≤ m.2.1.length + l.length := by
 unfold nM
 cases d1 == 1 <;> cases d1 == 3 <;> simp
theorem X09 (d1 t : Int) (n : Nat) (A : Bc) : (nA d1 t n A).length ≤ A.length + n := by
 unfold nA
 cases d1 == 1 <;> cases d1 == 3 <;> cases decide (t ≥ 0) <;> simp
theorem X2e (d1 t : Int) (l : Ck) (R : Ck) : (nR d1 t l R).length ≤ R.length + l.length := by
 unfold nR
 cases d1 == 1 <;> cases d1 == 3 <;> cases decide (t ≥ 0) <;> simp
theorem Tv (k : Nat) (v : J6) (w : Int) (p : den Ad) (x t : Int) (d : den Pr) (hl : d.2.2.length ≤ 100) : ∀ (n j : Nat) (m : den Cy) (A : Bc) (R : Ck), j ≤ d.2.2.length → d.2.2.length - j < n → m.1.length + (d.2.2.length - j) ≤ 100000 → m.2.1.length + (d.2.2.length - j) ≤ 100000 → A.length + (d.2.2.length - j) ≤ 100000 → R.length + (d.2.2.length - j) ≤ 100000 →
  Nv k v w p n x t (j : Int) m d A R = some (x, t, (d.2.2.length : Int), d, nM d.1 (d.2.2.drop j) m, nA d.1 t (d.2.2.drop j).length A, nR d.1 t (d.2.2.drop j) R)
 | 0, j, m, A, R, _, h, _, _, _, _ => by omega
 | n + 1, j, m, A, R, hj, h, h1, h2, h3, h4 => by
  rw [Nv]
  unfold L0; (try dsimp only [Az, B3])
  rcases Nat.lt_or_ge j d.2.2.length with hlt | hge
  ·have d1 : decide ((j : Int) < ((d.2.2.length : Nat) : Int)) = true := decide_eq_true (by omega)
   have d0 : decide ((0 : Int) ≤ ((j : Nat) : Int)) = true := decide_eq_true (by omega)
   rw [Aq (t := Ad) d.2.2 j hlt, I0 j (by omega), List.drop_eq_getElem_cons hlt]
   have l1 := Xw7 d.1 [d.2.2[j]] m
   have l2 := X09 d.1 t 1 A
   have l3 := X2e d.1 t [d.2.2[j]] R
   rw [List.length_singleton] at l1 l3
   have ih := Tv k v w p x t d hl n (j + 1) (nM d.1 [d.2.2[j]] m) (nA d.1 t 1 A) (nR d.1 t [d.2.2[j]] R) hlt (by omega) (by omega) (by omega) (by omega) (by omega)
   rw [Xtz, Xtd, Xuu] at ih
   refine Eq.trans ?_ ih
   refine (ct d1).trans ?_
   unfold nM nA nR
   have c1 : ((d.1 : Int) == 1) = true ∨ ((d.1 : Int) == 1) = false := by cases ((d.1 : Int) == 1) <;> simp
   rcases c1 with c1 | c1
   ·refine (ct c1).trans ((ct d0).trans ((ct d1).trans ((ct (decide_eq_true (by (try simp only [List.length_singleton]); omega))).trans ?_)))
    rw [c1]
    rfl
   ·have c3 : ((d.1 : Int) == 3) = true ∨ ((d.1 : Int) == 3) = false := by cases ((d.1 : Int) == 3) <;> simp
    rw [c1]
    rcases c3 with c3 | c3
    ·refine (cf rfl).trans ((ct c3).trans ((ct d0).trans ((ct d1).trans ((ct (decide_eq_true (by (try simp only [List.length_singleton]); omega))).trans ?_))))
     rw [c3]
     rfl
    ·rw [c3]
     by_cases ht : t ≥ 0
     ·refine (cf rfl).trans ((cf rfl).trans ((ct (decide_eq_true ht)).trans ((ct (decide_eq_true (by (try simp only [List.length_singleton]); omega))).trans ((ct d0).trans ((ct d1).trans ((ct (decide_eq_true (by (try simp only [List.length_singleton]); omega))).trans ?_))))))
      rw [decide_eq_true ht]
      rfl
     ·refine (cf rfl).trans ((cf rfl).trans ((cf (decide_eq_false ht)).trans ?_))
      rw [decide_eq_false ht]
      rfl
  ·have : j = d.2.2.length := by omega
   subst this
   rw [List.drop_length]
   refine (cf (decide_eq_false (by omega))).trans ?_
   unfold nM nA nR
   cases (d.1 : Int) == 1 <;> cases (d.1 : Int) == 3 <;> cases decide (t ≥ 0) <;> simp
theorem Lb (k : Nat) (v : J6) (w : Int) (p : den Ad) (t : Int) (m : den Cy) (ps : Ck) (hl : ps.length ≤ 100) : ∀ (n j : Nat) (Q : Tt), j ≤ ps.length → ps.length - j < n → Q.length + (ps.length - j) ≤ 100000 →
  Jd k v w p n t (ps.length : Int) (j : Int) m ps Q = some (t, (ps.length : Int), (ps.length : Int), m, ps, Q ++ (ps.drop j).map fun r => (t, r))
 | 0, j, Q, _, h, _ => by omega
 | n + 1, j, Q, hj, h, h1 => by
  rw [Jd]
  unfold I8; (try dsimp only [Az, B3])
  rcases Nat.lt_or_ge j ps.length with hlt | hge
  ·have d1 : decide ((j : Int) < ((ps.length : Nat) : Int)) = true := decide_eq_true (by omega)
   have d0 : decide ((0 : Int) ≤ ((j : Nat) : Int)) = true := decide_eq_true (by omega)
   rw [Aq (t := Ad) ps j hlt, I0 j (by omega), List.drop_eq_getElem_cons hlt]
   refine (ct d1).trans ((ct d0).trans ((ct d1).trans ((ct (decide_eq_true (by rw [List.length_singleton]; omega))).trans ?_)))
   rw [Lb k v w p t m ps hl n (j + 1) _ hlt (by omega) (by rw [List.length_append, List.length_singleton]; omega), List.map_cons, List.append_assoc, List.singleton_append]
  ·have : j = ps.length := by omega
   subst this
   rw [List.drop_length]
   refine (cf (decide_eq_false (by omega))).trans ?_
   simp
theorem Xkr (k : Nat) (v : Ck) (hv : v.length ≤ 100000) (hs : ∀ r ∈ v, r.2.2.2.2.2.2.2.2.length ≤ 1048576) : ∀ (n j : Nat) (m : Ck), j ≤ v.length → v.length - j < n → m.length + (v.length - j) ≤ 100000 → Jf k v n (j : Int) m = some (m ++ v.drop j)
 | 0, j, m, _, h, _ => by omega
 | n + 1, j, m, hj, h, hm => by
  rw [Jf]
  unfold Jg; (try dsimp only [Az, B3])
  rcases Nat.lt_or_ge j v.length with hlt | hge
  ·have d1 : decide ((j : Int) < ((v.length : Nat) : Int)) = true := decide_eq_true (by omega)
   have d0 : decide ((0 : Int) ≤ ((j : Nat) : Int)) = true := decide_eq_true (by omega)
   rw [Aq v j hlt, I0 j (by omega), List.drop_eq_getElem_cons hlt]
   refine (ct d1).trans ((ct d0).trans ((ct d1).trans ((bs (Hc k v[j] (hs _ (List.getElem_mem hlt)))).trans ((ct (decide_eq_true (by rw [List.length_singleton]; omega))).trans ?_))))
   rw [Xkr k v hv hs n (j + 1) _ hlt (by omega) (by rw [List.length_append, List.length_singleton]; omega), List.append_assoc, List.singleton_append]
  ·have : j = v.length := by omega
   subst this
   rw [List.drop_length, List.append_nil]
   exact (cf (decide_eq_false (by omega))).trans ((bs (Xe9 k m)).trans rfl)
theorem Hh (k : Nat) (v : Ck) (hv : v.length ≤ 100000) (hs : ∀ r ∈ v, r.2.2.2.2.2.2.2.2.length ≤ 1048576) (hk : 1048576 < k) : Po k v = some v := by
 have := Xkr k v hv hs k 0 [] (Nat.zero_le _) (by omega) (by simpa using hv)
 unfold Po Wn; (try dsimp only)
 simpa using this
theorem Xxu {a b : Int} (ha : 1 ≤ a ∧ a ≤ 48) (hb : 0 ≤ b ∧ b ≤ 255) : 1 ≤ a * (b + 1) ∧ a * (b + 1) ≤ 12288 := by
 have h1 := Int.mul_pos (show 0 < a by omega) (show 0 < b + 1 by omega)
 have h2 := Int.mul_le_mul ha.2 (show b + 1 ≤ 256 by omega) (show 0 ≤ b + 1 by omega) (show (0 : Int) ≤ 48 by omega)
 omega
theorem Xvj {r : den Ad} (h : Kf r = true) : 1 ≤ wt r ∧ wt r ≤ 12288 := by
 obtain ⟨v0, v1, v2, v3, v4, v5, v6, v7, v8⟩ := r
 obtain ⟨_, _, _, h3, _, _, h8, _⟩ := Cn h
 exact Xxu ⟨Xn6 _, by show wl v8.length ≤ 48; unfold wl; split <;> omega⟩ h3
theorem Xpe {r : den Ad} (h : Kf r = true) : 1 ≤ wt r := (Xvj h).1
theorem X4l {r : den Ad} (h : Kf r = true) : wt r ≤ 12288 := (Xvj h).2
theorem Zw {α : Type} (s : α → Int) : ∀ a b : List α, Bp s (a ++ b) = Bp s a + Bp s b
 | [], b => by simp [Bp]
 | x :: a, b => by simp only [List.cons_append, Bp, Zw s a b]; omega
theorem P4 : ∀ l : Ck, (∀ r ∈ l, Kf r = true) → (l.length : Int) ≤ Bp wt l
 | [], _ => by simp [Bp]
 | r :: l, h => by
  have h1 := Xpe (h r (by simp))
  have h2 := P4 l (fun x hx => h x (by simp [hx]))
  simp only [Bp, List.length_cons]
  omega
def TOk (t : den Cy) : Prop := t.1.length ≤ 100000 ∧ t.2.1.length ≤ 100000 ∧ (∀ r ∈ t.1, r.2.2.2.2.2.2.2.2.length ≤ 1048576) ∧ (∀ r ∈ t.2.1, r.2.2.2.2.2.2.2.2.length ≤ 1048576)
def stp (t : den Cy) : Int := t.2.2
theorem trav (q : Nat) (v : J6) (w : Int) (p : den Ad) (hv : ∀ s ∈ v, StaOk (q + 4) s) (hvl : v.length ≤ 5) (hk : 1048576 < q + 4) : ∀ (c n n' x : Nat) (m : den Cy) (A : Bc) (R : Ck), A.length = R.length → x ≤ R.length → (∀ a ∈ A.drop x, @LE.le Int _ 0 a ∧ @LT.lt Int _ a (v.length : Int)) → (∀ r ∈ R.drop x, Kf r = true ∧ BOk r.2.2.2.2.2.2.2.2) →
  Bp wt (R.drop x) ≤ (c : Int) → c < n → c < n' → x + c ≤ 20000 → m.1.length + c ≤ 20000 → m.2.1.length + c ≤ 20000 → (∀ r ∈ m.1, r.2.2.2.2.2.2.2.2.length ≤ 1048576) → (∀ r ∈ m.2.1, r.2.2.2.2.2.2.2.2.length ≤ 1048576) → (0 ≤ stp m ∧ stp m + (c : Int) ≤ 20000) →
  ∃ t : den Cy, Du (q + 4) v w p n (x : Int) m A R = some t ∧ Be (q + 4) v w p n' m (List.zip (A.drop x) (R.drop x)) = some t ∧ TOk t := by
 intro c
 induction c with
 | zero =>
  intro n n' x m A R hAR hx hA hR hs hn hn' hxc hm1 hm2 hl1 hl2 hst
  obtain ⟨n, rfl⟩ : ∃ i, n = i + 1 := ⟨n - 1, by omega⟩
  obtain ⟨n', rfl⟩ : ∃ i, n' = i + 1 := ⟨n' - 1, by omega⟩
  have hlen := P4 (R.drop x) (fun r hr => (hR r hr).1)
  have hdl : (R.drop x).length = R.length - x := List.length_drop
  have e : R.drop x = [] := List.length_eq_zero_iff.1 (by omega)
  rw [Du, Be, e, List.zip_nil_right]
  refine ⟨m, (cf (decide_eq_false (by omega))).trans rfl, (cf (by rfl)).trans ((bs (Hh _ _ (by omega) hl1 hk)).trans ((bs (Hh _ _ (by omega) hl2 hk)).trans rfl)), by omega, by omega, hl1, hl2⟩
 | succ c ih =>
  intro n n' x m A R hAR hx hA hR hs hn hn' hxc hm1 hm2 hl1 hl2 hst
  obtain ⟨n, rfl⟩ : ∃ i, n = i + 1 := ⟨n - 1, by omega⟩
  obtain ⟨n', rfl⟩ : ∃ i, n' = i + 1 := ⟨n' - 1, by omega⟩
  have hlen := P4 (R.drop x) (fun r hr => (hR r hr).1)
  have hdl : (R.drop x).length = R.length - x := List.length_drop
  rcases Nat.eq_or_lt_of_le hx with hx0 | hxl
  ·have e : R.drop x = [] := List.length_eq_zero_iff.1 (by omega)
   rw [Du, Be, e, List.zip_nil_right]
   exact ⟨m, (cf (decide_eq_false (by omega))).trans rfl, (cf (by rfl)).trans ((bs (Hh _ _ (by omega) hl1 hk)).trans ((bs (Hh _ _ (by omega) hl2 hk)).trans rfl)), by omega, by omega, hl1, hl2⟩
  ·have hxA : x < A.length := by omega
   have eR : R.drop x = R[x] :: R.drop (x + 1) := List.drop_eq_getElem_cons hxl
   have eA : A.drop x = A[x] :: A.drop (x + 1) := List.drop_eq_getElem_cons hxA
   have ha := hA A[x] (by rw [eA]; exact List.mem_cons_self ..)
   have hr := hR R[x] (by rw [eR]; exact List.mem_cons_self ..)
   have hA' : ∀ a ∈ A.drop (x + 1), @LE.le Int _ 0 a ∧ @LT.lt Int _ a (v.length : Int) := fun a h => hA a (by rw [eA]; exact List.mem_cons_of_mem _ h)
   have hR' : ∀ r ∈ R.drop (x + 1), Kf r = true ∧ BOk r.2.2.2.2.2.2.2.2 := fun r h => hR r (by rw [eR]; exact List.mem_cons_of_mem _ h)
   have hlen' := P4 (R.drop (x + 1)) (fun r hr => (hR' r hr).1)
   rw [eR] at hs
   simp only [Bp] at hs
   obtain ⟨a, hae⟩ : ∃ a : Int, a = A[x] := ⟨_, rfl⟩
   have hd1 : ((R.drop (x + 1)).length : Int) = (R.length : Int) - (x : Int) - 1 := by rw [List.length_drop]; omega
   have gA : An A (x : Int) = A[x] := Aq A x hxA
   have gR : An R (x : Int) = R[x] := Aq R x hxl
   rw [eA, eR, List.zip_cons_cons]
   rw [← hae] at ha gA ⊢
   generalize R[x] = r at hr hs gR ⊢
   obtain ⟨i, rfl⟩ : ∃ i : Nat, a = (i : Int) := ⟨a.toNat, by omega⟩
   have hi : i < v.length := by omega
   have ok := hv _ (List.getElem_mem hi)
   have hwr := Xpe hr.1
   obtain ⟨r0, r1, r2, r3, r4, r5, r6, r7, r8⟩ := r
   have hr8 := (Cn hr.1).2.2.2.2.2.2.1
   obtain ⟨d, f1, f2, good⟩ := fwd q ok hr.1 hr.2 hk
   have f3 := Xtq (q + 4) v d.2.1 (by omega) hk
   have f4 := Xcu (q + 4) v d.2.1 (by omega) hk
   have f5 := Xf6 d.2.1 v 0
   generalize fi d.2.1 v 0 = t at f3 f4 f5
   have d1 : decide ((x : Int) < ((R.length : Nat) : Int)) = true := decide_eq_true (by omega)
   have dA : decide ((x : Int) < ((A.length : Nat) : Int)) = true := decide_eq_true (by omega)
   have d0 : decide ((0 : Int) ≤ ((x : Nat) : Int)) = true := decide_eq_true (by omega)
   have i1 : decide ((i : Int) < ((v.length : Nat) : Int)) = true := decide_eq_true (by omega)
   have i0 : decide ((0 : Int) ≤ ((i : Nat) : Int)) = true := decide_eq_true (by omega)
   have hdl2 : d.2.2.length ≤ 50 := by
    rcases good with ⟨_, e⟩ | ⟨_, e⟩ | ⟨_, z, e, _⟩ | ⟨_, _, _, e⟩
    ·rw [e]; simp
    ·rw [e]; simp
    ·rw [e]; simp
    ·exact e
   have l2 := Tv (q + 4) v w p (x : Int) t d (by omega) (q + 4) 0 (m.1, m.2.1, m.2.2 + 1) A R (Nat.zero_le _) (by omega) (by show m.1.length + _ ≤ _; omega) (by show m.2.1.length + _ ≤ _; omega) (by omega) (by omega)
   rw [List.drop_zero] at l2
   have w1 : IntKind.i64.wrap (m.2.2 + 1) = m.2.2 + 1 := i64_in _ (show -9223372036854775808 ≤ stp m + 1 ∧ stp m + 1 ≤ 9223372036854775807 by omega)
   have SP : ∀ z, Du (q + 4) v w p n ((x + 1 : Nat) : Int) (nM d.1 d.2.2 (m.1, m.2.1, m.2.2 + 1)) (nA d.1 t d.2.2.length A) (nR d.1 t d.2.2 R) = some z → Du (q + 4) v w p (n + 1) (x : Int) m A R = some z := fun z hz => by
    rw [Du, gA, gR, Aq v i hi, w1]
    refine (ct d1).trans ((ct d0).trans ((ct dA).trans ((ct i0).trans ((ct i1).trans ((ct d0).trans ((ct d1).trans ((bs f1).trans ((bs f3).trans ((bs l2).trans ?_)))))))))
    show Du (q + 4) v w p n (IntKind.i64.wrap ((x : Int) + 1)) _ _ _ = _
    rw [I0 x (by omega)]
    exact hz
   generalize hZ : (List.zip (A.drop (x + 1)) (R.drop (x + 1)) : Tt) = Z
   have hZl : Z.length ≤ 30000 := by rw [← hZ, List.length_zip]; omega
   have tl : ((((i : Int), r0, r1, r2, r3, r4, r5, r6, r7, r8) :: Z : Tt).take (((((i : Int), r0, r1, r2, r3, r4, r5, r6, r7, r8) :: Z : Tt).length : Int)).toNat).drop 1 = Z := by rw [Int.toNat_natCast, List.take_length]; rfl
   have z0 : decide (((((i : Int), r0, r1, r2, r3, r4, r5, r6, r7, r8) :: Z : Tt).length : Int) > 0) = true := decide_eq_true (by rw [List.length_cons]; omega)
   have z1 : decide ((0 : Int) < ((((i : Int), r0, r1, r2, r3, r4, r5, r6, r7, r8) :: Z : Tt).length : Int)) = true := decide_eq_true (by rw [List.length_cons]; omega)
   have z2 : (decide ((0 : Int) ≤ 1) && decide ((1 : Int) ≤ ((((i : Int), r0, r1, r2, r3, r4, r5, r6, r7, r8) :: Z : Tt).length : Int))) = true := by rw [List.length_cons, decide_eq_true (by omega : (1 : Int) ≤ ((Z.length + 1 : Nat) : Int))]; rfl
   have g0 : An (t := .pair (.int .i64) Ad) (((i : Int), r0, r1, r2, r3, r4, r5, r6, r7, r8) :: Z) 0 = ((i : Int), r0, r1, r2, r3, r4, r5, r6, r7, r8) := rfl
   rw [Be, g0, w1, tl]
   dsimp only
   rw [Aq v i hi]
   have m2 : 0 ≤ stp m + 1 ∧ stp m + 1 + (c : Int) ≤ 20000 := by omega
   have hs2 : Bp wt (R.drop (x + 1)) ≤ (c : Int) := by omega
   have stay : ∃ z : den Cy, Du (q + 4) v w p n ((x + 1 : Nat) : Int) (m.1, m.2.1, m.2.2 + 1) A R = some z ∧ Be (q + 4) v w p n' (m.1, m.2.1, m.2.2 + 1) Z = some z ∧ TOk z := by
    rw [← hZ]
    exact ih n n' (x + 1) (m.1, m.2.1, m.2.2 + 1) A R hAR hxl hA' hR' hs2 (by omega) (by omega) (by omega) (by show m.1.length + _ ≤ _; omega) (by show m.2.1.length + _ ≤ _; omega) hl1 hl2 m2
   rcases good with ⟨k0, e⟩ | ⟨k1, e⟩ | ⟨k3, b, e, eb⟩ | ⟨k2, e1, e2, e3⟩
   ·obtain ⟨z, s1, s2, s3⟩ := stay
    rw [e] at SP
    have eM : nM d.1 [] (m.1, m.2.1, m.2.2 + 1) = (m.1, m.2.1, m.2.2 + 1) := by unfold nM; rw [k0]; rfl
    have eA2 : nA d.1 t ([] : Ck).length A = A := by unfold nA; rw [k0]; cases ht : decide (t ≥ 0) <;> simp
    have eR2 : nR d.1 t [] R = R := by unfold nR; rw [k0]; cases ht : decide (t ≥ 0) <;> simp
    rw [eM, eA2, eR2] at SP
    refine ⟨z, SP z s1, ?_, s3⟩
    refine (ct z0).trans ((ct z1).trans ((ct z2).trans ((ct i0).trans ((ct i1).trans ((bs f2).trans ?_)))))
    rw [k0]
    exact s2
   ·rw [e] at SP
    have eM : nM d.1 [(r0, r1, r2, r3, r4, r5, r6, r7, r8)] (m.1, m.2.1, m.2.2 + 1) = (m.1 ++ [(r0, r1, r2, r3, r4, r5, r6, r7, r8)], m.2.1, m.2.2 + 1) := by unfold nM; rw [k1]; rfl
    have eA2 : nA d.1 t ([(r0, r1, r2, r3, r4, r5, r6, r7, r8)] : Ck).length A = A := by unfold nA; rw [k1]; rfl
    have eR2 : nR d.1 t [(r0, r1, r2, r3, r4, r5, r6, r7, r8)] R = R := by unfold nR; rw [k1]; rfl
    rw [eM, eA2, eR2] at SP
    obtain ⟨z, s1, s2, s3⟩ := ih n n' (x + 1) (m.1 ++ [(r0, r1, r2, r3, r4, r5, r6, r7, r8)], m.2.1, m.2.2 + 1) A R hAR hxl hA' hR' hs2 (by omega) (by omega) (by omega) (by show (m.1 ++ _).length + _ ≤ _; rw [List.length_append, List.length_singleton]; omega) (by show m.2.1.length + _ ≤ _; omega)
     (fun y hy => (List.mem_append.1 hy).elim (hl1 y) (fun hy => by obtain rfl := List.mem_singleton.1 hy; show r8.length ≤ _; omega)) hl2 m2
    rw [hZ] at s2
    refine ⟨z, SP z s1, ?_, s3⟩
    refine (ct z0).trans ((ct z1).trans ((ct z2).trans ((ct i0).trans ((ct i1).trans ((bs f2).trans ?_)))))
    rw [k1, e]
    exact (ct rfl).trans ((ct (decide_eq_true (by rw [List.length_singleton]; omega))).trans s2)
   ·rw [e] at SP
    have eM : nM d.1 [b] (m.1, m.2.1, m.2.2 + 1) = (m.1, m.2.1 ++ [b], m.2.2 + 1) := by unfold nM; rw [k3]; rfl
    have eA2 : nA d.1 t ([b] : Ck).length A = A := by unfold nA; rw [k3]; rfl
    have eR2 : nR d.1 t [b] R = R := by unfold nR; rw [k3]; rfl
    rw [eM, eA2, eR2] at SP
    obtain ⟨z, s1, s2, s3⟩ := ih n n' (x + 1) (m.1, m.2.1 ++ [b], m.2.2 + 1) A R hAR hxl hA' hR' hs2 (by omega) (by omega) (by omega) (by show m.1.length + _ ≤ _; omega) (by show (m.2.1 ++ _).length + _ ≤ _; rw [List.length_append, List.length_singleton]; omega)
     hl1 (fun y hy => (List.mem_append.1 hy).elim (hl2 y) (fun hy => by obtain rfl := List.mem_singleton.1 hy; exact eb)) m2
    rw [hZ] at s2
    refine ⟨z, SP z s1, ?_, s3⟩
    refine (ct z0).trans ((ct z1).trans ((ct z2).trans ((ct i0).trans ((ct i1).trans ((bs f2).trans ?_)))))
    rw [k3, e]
    exact (cf rfl).trans ((ct rfl).trans ((ct (decide_eq_true (by rw [List.length_singleton]; omega))).trans s2))
   ·have eM : nM d.1 d.2.2 (m.1, m.2.1, m.2.2 + 1) = (m.1, m.2.1, m.2.2 + 1) := by unfold nM; rw [k2]; rfl
    by_cases ht : t ≥ 0
    ·have eA2 : nA d.1 t d.2.2.length A = A ++ List.replicate d.2.2.length t := by unfold nA; rw [k2, decide_eq_true ht]; rfl
     have eR2 : nR d.1 t d.2.2 R = R ++ d.2.2 := by unfold nR; rw [k2, decide_eq_true ht]; rfl
     rw [eM, eA2, eR2] at SP
     have dA2 : (A ++ List.replicate d.2.2.length t).drop (x + 1) = A.drop (x + 1) ++ List.replicate d.2.2.length t := List.drop_append_of_le_length (by omega)
     have dR2 : (R ++ d.2.2).drop (x + 1) = R.drop (x + 1) ++ d.2.2 := List.drop_append_of_le_length (by omega)
     have zz : (List.zip ((A ++ List.replicate d.2.2.length t).drop (x + 1)) ((R ++ d.2.2).drop (x + 1)) : Tt) = Z ++ d.2.2.map fun r => (t, r) := by
      rw [dA2, dR2, List.zip_append (by rw [List.length_drop, List.length_drop]; omega), hZ]
      congr 1
      generalize d.2.2 = l
      induction l with
      | nil => rfl
      | cons y l ihl => rw [List.length_cons, List.replicate_succ, List.zip_cons_cons, List.map_cons, ihl]
     obtain ⟨z, s1, s2, s3⟩ := ih n n' (x + 1) (m.1, m.2.1, m.2.2 + 1) (A ++ List.replicate d.2.2.length t) (R ++ d.2.2) (by rw [List.length_append, List.length_append, List.length_replicate, hAR]) (by rw [List.length_append]; omega)
      (fun y hy => by
       rw [dA2] at hy
       rcases List.mem_append.1 hy with hy | hy
       ·exact hA' y hy
       ·rw [List.eq_of_mem_replicate hy]; show 0 ≤ t ∧ t < (v.length : Int); omega)
      (fun y hy => by
       rw [dR2] at hy
       exact (List.mem_append.1 hy).elim (hR' y) (e1 y))
      (by rw [dR2, Zw]; omega) (by omega) (by omega) (by omega) (by show m.1.length + _ ≤ _; omega) (by show m.2.1.length + _ ≤ _; omega) hl1 hl2 m2
     rw [zz] at s2
     have l3 := Lb (q + 4) v w p t (m.1, m.2.1, m.2.2 + 1) d.2.2 (by omega) (q + 4) 0 Z (Nat.zero_le _) (by omega) (by omega)
     rw [List.drop_zero] at l3
     refine ⟨z, SP z s1, ?_, s3⟩
     refine (ct z0).trans ((ct z1).trans ((ct z2).trans ((ct i0).trans ((ct i1).trans ((bs f2).trans ?_)))))
     rw [k2]
     exact (cf rfl).trans ((cf rfl).trans ((ct rfl).trans ((bs f4).trans ((ct (decide_eq_true ht)).trans ((bs l3).trans s2)))))
    ·have eA2 : nA d.1 t d.2.2.length A = A := by unfold nA; rw [k2, decide_eq_false ht]; rfl
     have eR2 : nR d.1 t d.2.2 R = R := by unfold nR; rw [k2, decide_eq_false ht]; rfl
     rw [eM, eA2, eR2] at SP
     obtain ⟨z, s1, s2, s3⟩ := stay
     refine ⟨z, SP z s1, ?_, s3⟩
     refine (ct z0).trans ((ct z1).trans ((ct z2).trans ((ct i0).trans ((ct i1).trans ((bs f2).trans ?_)))))
     rw [k2]
     exact (cf rfl).trans ((cf rfl).trans ((ct rfl).trans ((bs f4).trans ((cf (decide_eq_false ht)).trans s2))))
end Go.Proofs.YtdmepjjepogddaaGreat.Gn
end

section
namespace Go.Proofs.YtdmepjjepogddaaGreat.Gn
open Go.Rf Go.IntWalk
set_option linter.unusedVariables false
set_option linter.unusedSimpArgs false
def Ch (g : Int → Bool → A5 → den Ad) : Int → Ck → A5 → Bool → Prop
 | _, [], c, f => c = [] ∧ f = true
 | x, p :: l, c, f => ∃ m d c', p = g x m d ∧ c = d ++ c' ∧ ((m = true ∧ d ≠ [] ∧ Ch g (x + (d.length : Int)) l c' f) ∨ (m = false ∧ l = [] ∧ c' = [] ∧ f = false))
theorem Hs (g : Int → Bool → A5 → den Ad) : ∀ {l : Ck} {x : Int} {c : A5} {l' : Ck} {c' : A5} {f : Bool}, Ch g x l c true → Ch g (x + (c.length : Int)) l' c' f → Ch g x (l ++ l') (c ++ c') f
 | [], x, c, l', c', f, h, h' => by
  obtain ⟨rfl, _⟩ := h
  simpa using h'
 | p :: l, x, c, l', c', f, h, h' => by
  obtain ⟨m, d, c2, rfl, rfl, h | h⟩ := h
  ·refine ⟨m, d, c2 ++ c', rfl, by rw [List.append_assoc], .inl ⟨h.1, h.2.1, Hs g h.2.2 ?_⟩⟩
   rw [List.length_append] at h'
   rw [show x + (d.length : Int) + (c2.length : Int) = x + ((d.length + c2.length : Nat) : Int) by omega]
   exact h'
  ·exact absurd h.2.2.2 (by decide)
theorem Ig (g : Int → Bool → A5 → den Ad) {x : Int} {m : Bool} {d : A5} (h : m = true → d ≠ []) : Ch g x [g x m d] d m := by
 refine ⟨m, d, [], rfl, by simp, ?_⟩
 cases m with
 | true => exact .inl ⟨rfl, h rfl, rfl, rfl⟩
 | false => exact .inr ⟨rfl, rfl, rfl, rfl⟩
theorem Xf3 (g : Int → Bool → A5 → den Ad) {N : Nat} (hN : 1 ≤ N) (f : Bool) : ∀ (n : Nat) (a : Int) (d : A5), d.length < n → (f = true → d ≠ []) → Ch g a (Cl g N f n a d) d f
 | 0, _, _, h, _ => by omega
 | n + 1, a, d, h, hf => by
  rw [Cl]
  by_cases hl : d.length ≤ N
  ·rw [if_pos hl]
   exact Ig g hf
  ·rw [if_neg hl]
   have ht : (d.take N).length = N := by rw [List.length_take]; omega
   have hd : (d.drop N).length = d.length - N := List.length_drop
   refine ⟨true, d.take N, d.drop N, rfl, (List.take_append_drop N d).symm, .inl ⟨rfl, fun e => by rw [e] at ht; simp at ht; omega, ?_⟩⟩
   rw [ht]
   exact Xf3 g hN f n _ _ (by omega) (fun _ e => by rw [e] at hd; simp at hd; omega)
theorem Ep (g : Int → Bool → A5 → den Ad) : ∀ {l : Ck} {x : Int} {c : A5} {f : Bool}, Ch g x l c f → l.length ≤ c.length + 1
 | [], _, _, _, _ => Nat.zero_le _
 | p :: l, x, c, f, h => by
  obtain ⟨m, d, c2, rfl, rfl, h | h⟩ := h
  ·have := Ep g h.2.2
   have := List.length_pos_iff.2 h.2.1
   rw [List.length_append, List.length_cons]
   omega
  ·rw [h.2.1]; simp
theorem Vg (g : Int → Bool → A5 → den Ad) : ∀ {l : Ck} {x : Int} {c : A5} {f : Bool} {p : den Ad}, Ch g x l c f → p ∈ l → ∃ x' m d, p = g x' m d ∧ x ≤ x' ∧ x' + (d.length : Int) ≤ x + (c.length : Int) ∧ (m = true → d ≠ []) ∧ ∀ b ∈ d, b ∈ c
 | [], _, _, _, _, _, h => by cases h
 | p :: l, x, c, f, r, h, hr => by
  obtain ⟨m, d, c2, rfl, rfl, h | h⟩ := h
  ·rcases List.mem_cons.1 hr with rfl | hr
   ·exact ⟨x, m, d, rfl, Int.le_refl _, by rw [List.length_append]; omega, fun _ => h.2.1, fun b hb => List.mem_append_left _ hb⟩
   ·obtain ⟨x', m', d', e1, e2, e3, e4, e5⟩ := Vg g h.2.2 hr
    exact ⟨x', m', d', e1, by omega, by rw [List.length_append]; omega, e4, fun b hb => List.mem_append_right _ (e5 b hb)⟩
  ·rw [h.2.1] at hr
   obtain rfl := List.mem_singleton.1 hr
   exact ⟨x, m, d, rfl, Int.le_refl _, by rw [List.length_append]; omega, (fun e => by rw [h.1] at e; cases e), fun b hb => List.mem_append_left _ hb⟩
theorem fwdV (q : Nat) {s : den sta} (hs : StaOk (q + 4) s) {v0 v1 v2 v3 v4 v5 : Int} {v6 : Bool} {v8 : A5} (h : Kf (v0, v1, v2, v3, v4, v5, v6, false, v8) = true) (hb : BOk v8) (hk : 1048576 < q + 4) (ha : v5 + (v8.length : Int) ≤ 255) :
    ∃ d : den Pr, Vd (q + 4) s (v0, v1, v2, v3, v4, v5, v6, false, v8) = some d ∧
      ((v1 = s.1 ∧ d = (1, 0, [(v0, v1, v2, v3, v4, v5, v6, false, v8)])) ∨
       (v1 ≠ s.1 ∧ (v3 < 2 ∨ (Rt.B5 v1 17 s.2.reverse).2 = false) ∧ (@Eq Int d.1 0 ∨ @Eq Int d.1 3)) ∨
       (v1 ≠ s.1 ∧ ¬ v3 < 2 ∧ (Rt.B5 v1 17 s.2.reverse).2 = true ∧ ∃ N : Nat, (1 ≤ N ∧ N ≤ 48) ∧ @Eq Int (Rt.B5 v1 17 s.2.reverse).1.2.2.2 (N : Int) ∧ d = (2, (Rt.B5 v1 17 s.2.reverse).1.2.2.1, Cl (Hq v0 v1 v2 (v3 - 1) v4 false) N v6 50 v5 v8))) := by
  obtain ⟨q0, q1, q2, q3, q4, q5, q6, q7, q8⟩ := Cn h
  have h58 := Hc (q + 4) (v0, v1, v2, v3, v4, v5, v6, false, v8) (show v8.length ≤ 1048576 by omega)
  have ig := fun (a b : Int) (ha : 3 ≤ a ∧ a ≤ 6) (hb2 : 0 ≤ b ∧ b ≤ 65535) => Xek (Xfb q h hb hk hs.at1 ha hb2)
  have gk : ∀ b : den Ad × Bool, @Eq Int (Iv b).1 0 ∨ @Eq Int (Iv b).1 3 := fun b => by
    unfold Iv
    cases b.2 with
    | true => exact .inr rfl
    | false => exact .inl rfl
  unfold Vd So; (try dsimp only)
  by_cases c1 : v1 = s.1
  · have b1 : (v1 == s.1) = true := beq_iff_eq.2 c1
    exact ⟨_, (ct b1).trans ((bs h58).trans rfl), .inl ⟨c1, rfl⟩⟩
  have b1 : (v1 == s.1) = false := beq_eq_false_iff_ne.2 c1
  by_cases c2 : v3 < 2
  · exact ⟨_, (cf b1).trans ((ct (decide_eq_true c2)).trans ((bs (ig 4 0 (by omega) (by omega))).trans rfl)), .inr (.inl ⟨c1, .inl c2, gk _⟩)⟩
  have b2 : decide (v3 < 2) = false := decide_eq_false c2
  have fi := Xkj (q + 4) s.2 v1 hs.len hs.ok
  have fm := Rr v1 17 (l := s.2.reverse)
  generalize Rt.B5 v1 17 s.2.reverse = r at fi fm ⊢
  obtain ⟨r, fd⟩ := r
  cases fd with
  | false => exact ⟨_, (cf b1).trans ((cf b2).trans ((bs fi).trans ((ct rfl).trans ((bs (ig 3 0 (by omega) (by omega))).trans rfl)))), .inr (.inl ⟨c1, .inr rfl, gk _⟩)⟩
  | true =>
    have hm := List.mem_reverse.1 (fm rfl)
    obtain ⟨r0, r1, gw, mtu⟩ := r
    have hmtu : @LE.le Int _ 1 mtu ∧ @LE.le Int _ mtu 48 := Bh (L2 (hs.ok _ hm)).2.2.2
    obtain ⟨N, hN⟩ : ∃ N : Nat, mtu = (N : Int) := ⟨Int.toNat mtu, (Int.toNat_of_nonneg (by omega)).symm⟩
    subst hN
    have hN : 1 ≤ N ∧ N ≤ 48 := by omega
    have e2 := Xe4 (q + 4) h hN (fun e => by cases e)
    have hla := Yc N 50 v5 v8
    unfold K9 at e2
    rw [decide_eq_false (by omega : ¬ Db N 50 v5 v8 > 255)] at e2
    have hl := H6 (Hq v0 v1 v2 v3 v4 false) N v6 50 v5 v8
    have := Xdt (q + 4) s (v0, v1, v2, v3, v4, v5, v6, false, v8) (r0, r1, gw, (N : Int)) (q + 4) [] (Cl (Hq v0 v1 v2 v3 v4 false) N v6 50 v5 v8) (by simp; omega) (by omega)
    simp only [List.nil_append, List.length_nil, Nat.zero_add] at this
    rw [Qq q3] at this
    refine ⟨(2, gw, Cl (Hq v0 v1 v2 (v3 - 1) v4 false) N v6 50 v5 v8), ?_, .inr (.inr ⟨c1, c2, rfl, N, hN, rfl, rfl⟩)⟩
    by_cases c3 : (v8.length : Int) > (N : Int)
    · exact (cf b1).trans ((cf b2).trans ((bs fi).trans ((cf rfl).trans ((ct (decide_eq_true c3)).trans ((cf rfl).trans ((bs e2).trans ((cf rfl).trans this)))))))
    · exact (cf b1).trans ((cf b2).trans ((bs fi).trans ((cf rfl).trans ((cf (decide_eq_false c3)).trans ((bs e2).trans ((cf rfl).trans this))))))
def Hp (v : J6) (s : den sta) (to h : Int) : Option (Int × Nat) :=
 cond (decide (h < 2)) none (cond (Rt.B5 to 17 s.2.reverse).2 (cond (decide (fi (Rt.B5 to 17 s.2.reverse).1.2.2.1 v 0 ≥ 0)) (some (fi (Rt.B5 to 17 s.2.reverse).1.2.2.1 v 0, Int.toNat (Rt.B5 to 17 s.2.reverse).1.2.2.2)) none) none)
theorem Xj {α : Type} {c : Bool} {x : Option α} {t : α} (h : cond c x none = some t) : c = true ∧ x = some t := by
 cases c with
 | true => exact ⟨rfl, h⟩
 | false => cases h
theorem X4h (q : Nat) {v : J6} (w : Int) (p : den Ad) (hv : ∀ s ∈ v, StaOk (q + 4) s) (hvl : v.length ≤ 5) (hk : 1048576 < q + 4) {n a : Nat} {s : den sta} (hs : v[a]? = some s) {m : den Cy} {v0 v1 v2 v3 v4 v5 : Int} {v6 : Bool} {v8 : A5}
    (h : Kf (v0, v1, v2, v3, v4, v5, v6, false, v8) = true) (hb : BOk v8) (ha : v5 + (v8.length : Int) ≤ 255) {Z : Tt} (hZ : Z.length ≤ 1000) (hm : m.1.length ≤ 1000) {t : den Cy}
    (ht : Be (q + 4) v w p (n + 1) m (((a : Int), v0, v1, v2, v3, v4, v5, v6, false, v8) :: Z) = some t) :
    ∃ m' : den Cy, ∃ Q' : Tt, Be (q + 4) v w p n m' Q' = some t ∧
      ((v1 = s.1 ∧ m'.1 = m.1 ++ [(v0, v1, v2, v3, v4, v5, v6, false, v8)] ∧ Q' = Z) ∨
       (v1 ≠ s.1 ∧ m'.1 = m.1 ∧ ((Hp v s v1 v3 = none ∧ Q' = Z) ∨ ∃ b : Nat, ∃ N : Nat, Hp v s v1 v3 = some ((b : Int), N) ∧ b < v.length ∧ 1 ≤ N ∧ 2 ≤ v3 ∧ Q' = Z ++ (Cl (Hq v0 v1 v2 (v3 - 1) v4 false) N v6 50 v5 v8).map fun r => ((b : Int), r)))) := by
  obtain ⟨hi, hse⟩ := List.getElem?_eq_some_iff.1 hs
  have ok := hv _ (List.getElem_mem hi)
  rw [hse] at ok
  obtain ⟨d, f2, hd⟩ := fwdV q ok h hb hk ha
  have i1 : decide ((a : Int) < ((v.length : Nat) : Int)) = true := decide_eq_true (by omega)
  have i0 : decide ((0 : Int) ≤ ((a : Nat) : Int)) = true := decide_eq_true (by omega)
  have tl : ((((a : Int), v0, v1, v2, v3, v4, v5, v6, false, v8) :: Z : Tt).take (((((a : Int), v0, v1, v2, v3, v4, v5, v6, false, v8) :: Z : Tt).length : Int)).toNat).drop 1 = Z := by rw [Int.toNat_natCast, List.take_length]; rfl
  have z0 : decide (((((a : Int), v0, v1, v2, v3, v4, v5, v6, false, v8) :: Z : Tt).length : Int) > 0) = true := decide_eq_true (by rw [List.length_cons]; omega)
  have z1 : decide ((0 : Int) < ((((a : Int), v0, v1, v2, v3, v4, v5, v6, false, v8) :: Z : Tt).length : Int)) = true := decide_eq_true (by rw [List.length_cons]; omega)
  have z2 : (decide ((0 : Int) ≤ 1) && decide ((1 : Int) ≤ ((((a : Int), v0, v1, v2, v3, v4, v5, v6, false, v8) :: Z : Tt).length : Int))) = true := by rw [List.length_cons, decide_eq_true (by omega : (1 : Int) ≤ ((Z.length + 1 : Nat) : Int))]; rfl
  have g0 : An (t := .pair (.int .i64) Ad) (((a : Int), v0, v1, v2, v3, v4, v5, v6, false, v8) :: Z) 0 = ((a : Int), v0, v1, v2, v3, v4, v5, v6, false, v8) := rfl
  rw [Be, g0, tl] at ht
  dsimp only at ht
  rw [Aq v a hi, hse] at ht
  replace ht := Eq.trans (Eq.symm ((ct z0).trans ((ct z1).trans ((ct z2).trans ((ct i0).trans ((ct i1).trans (bs f2))))))) ht
  rcases hd with ⟨c1, rfl⟩ | ⟨c1, c2, c3⟩ | ⟨c1, c2, c3, N, hN, eN, rfl⟩
  · obtain ⟨_, ht⟩ := Xj ht
    exact ⟨_, _, ht, .inl ⟨c1, rfl, rfl⟩⟩
  · have hh : Hp v s v1 v3 = none := by
      unfold Hp
      by_cases c : v3 < 2
      · rw [decide_eq_true c]; rfl
      · rw [decide_eq_false c, c2.resolve_left c]; rfl
    rcases c3 with c3 | c3
    · rw [c3] at ht
      exact ⟨_, _, ht, .inr ⟨c1, rfl, .inl ⟨hh, rfl⟩⟩⟩
    · rw [c3] at ht
      obtain ⟨_, ht⟩ := Xj ht
      exact ⟨_, _, ht, .inr ⟨c1, rfl, .inl ⟨hh, rfl⟩⟩⟩
  · have f4 := Xcu (q + 4) v (Rt.B5 v1 17 s.2.reverse).1.2.2.1 (by omega) hk
    have f5 := Xf6 (Rt.B5 v1 17 s.2.reverse).1.2.2.1 v 0
    have hh : Hp v s v1 v3 = cond (decide (fi (Rt.B5 v1 17 s.2.reverse).1.2.2.1 v 0 ≥ 0)) (some (fi (Rt.B5 v1 17 s.2.reverse).1.2.2.1 v 0, N)) none := by
      unfold Hp
      rw [decide_eq_false c2, c3, cond_false, cond_true]
      have : Int.toNat (Rt.B5 v1 17 s.2.reverse).1.2.2.2 = N := by rw [eN]; rfl
      rw [this]
    have ht : (F75 (q + 4) v (Rt.B5 v1 17 s.2.reverse).1.2.2.1).bind _ = some t := ht
    rw [f4, Option.bind_some] at ht
    generalize fi (Rt.B5 v1 17 s.2.reverse).1.2.2.1 v 0 = b at *
    by_cases cb : b ≥ 0
    · obtain ⟨b, rfl⟩ : ∃ i : Nat, b = (i : Int) := ⟨b.toNat, by omega⟩
      rw [decide_eq_true cb] at ht hh
      have hl := H6 (Hq v0 v1 v2 (v3 - 1) v4 false) N v6 50 v5 v8
      have l3 := Lb (q + 4) v w p (b : Int) (m.1, m.2.1, IntKind.i64.wrap (m.2.2 + 1)) (Cl (Hq v0 v1 v2 (v3 - 1) v4 false) N v6 50 v5 v8) (by omega) (q + 4) 0 Z (Nat.zero_le _) (by omega) (by omega)
      rw [List.drop_zero] at l3
      have ht := (bs l3).symm.trans ht
      exact ⟨_, _, ht, .inr ⟨c1, rfl, .inr ⟨b, N, hh, by omega, hN.1, by omega, rfl⟩⟩⟩
    · rw [decide_eq_false cb] at ht hh
      exact ⟨_, _, ht, .inr ⟨c1, rfl, .inl ⟨hh, rfl⟩⟩⟩
end Go.Proofs.YtdmepjjepogddaaGreat.Gn
end

section
namespace Go.Proofs.YtdmepjjepogddaaGreat.Gn
open Go.Rf Go.IntWalk
set_option linter.unusedVariables false
set_option linter.unusedSimpArgs false
def A6 (fr to kd id h : Int) : Int → Bool → A5 → den Ad := Hq fr to kd h id false
def Sv (a : Nat) (l : Ck) : Tt := l.map fun r => ((a : Int), r)
def Inv (v : J6) (fr to kd id : Int) (c : A5) (arr : Ck) (Q : Tt) : Prop :=
  (Q = [] ∧ (arr = [] ∨ ∃ h : Int, (0 ≤ h ∧ h ≤ 64) ∧ Ch (A6 fr to kd id h) 0 arr c false)) ∨
  ∃ (a : Nat) (s : den sta) (h : Int) (c1 c2 : A5) (A : Ck), v[a]? = some s ∧ (0 ≤ h ∧ h ≤ 64) ∧ c = c1 ++ c2 ∧ Ch (A6 fr to kd id h) (c1.length : Int) A c2 false ∧
    ((to = s.1 ∧ Ch (A6 fr to kd id h) 0 arr c1 true ∧ Q = Sv a A) ∨
     (to ≠ s.1 ∧ arr = [] ∧ ((Hp v s to h = none ∧ Q = Sv a A) ∨
       ∃ (b N : Nat) (B : Ck), Hp v s to h = some ((b : Int), N) ∧ b < v.length ∧ 1 ≤ h ∧ Ch (A6 fr to kd id (h - 1)) 0 B c1 true ∧ Q = Sv a A ++ Sv b B)))
theorem Xpb {v : J6} {s : den sta} {to h : Int} {b : Int} {N : Nat} (e : Hp v s to h = some (b, N)) : 2 ≤ h ∧ 0 ≤ b ∧ b < (v.length : Int) := by
 unfold Hp at e
 by_cases c : h < 2
 ·rw [decide_eq_true c] at e; cases e
 ·rw [decide_eq_false c, cond_false] at e
  obtain ⟨_, e⟩ := Xj e
  have f5 := Xf6 (Rt.B5 to 17 s.2.reverse).1.2.2.1 v 0
  by_cases c2 : fi (Rt.B5 to 17 s.2.reverse).1.2.2.1 v 0 ≥ 0
  ·rw [decide_eq_true c2, cond_true] at e
   simp only [Option.some.injEq, Prod.mk.injEq] at e
   omega
  ·rw [decide_eq_false c2] at e; cases e
theorem Xf0 {v : J6} {fr to kd id : Int} {c : A5} {a : Nat} {h : Int} {A : Ck} (ha : a < v.length) (hh : 0 ≤ h ∧ h ≤ 64) (hA : Ch (A6 fr to kd id h) 0 A c false) : Inv v fr to kd id c [] (Sv a A) := by
 refine .inr ⟨a, v[a], h, [], c, A, List.getElem?_eq_getElem ha, hh, rfl, hA, ?_⟩
 by_cases e : to = v[a].1
 ·exact .inl ⟨e, ⟨rfl, rfl⟩, rfl⟩
 ·refine .inr ⟨e, rfl, ?_⟩
  cases ho : Hp v v[a] to h with
  | none => exact .inl ⟨rfl, rfl⟩
  | some z =>
   obtain ⟨b, N⟩ := z
   obtain ⟨h1, h2, h3⟩ := Xpb ho
   obtain ⟨b, rfl⟩ : ∃ i : Nat, b = (i : Int) := ⟨b.toNat, by omega⟩
   exact .inr ⟨b, N, [], rfl, by omega, by omega, ⟨rfl, rfl⟩, by simp [Sv]⟩
theorem X5c (g : Int → Bool → A5 → den Ad) {x : Int} {l : Ck} {c : A5} (h : Ch g x l c false) : l ≠ [] := fun e => by
 subst e
 exact absurd h.2 (by decide)
theorem P1 (q : Nat) {v : J6} (w : Int) (p : den Ad) (hv : ∀ s ∈ v, StaOk (q + 4) s) (hvl : v.length ≤ 5) (hk : 1048576 < q + 4) {fr to kd id : Int} {c : A5} (hfr : 0 ≤ fr ∧ fr ≤ 65535) (hto : 0 ≤ to ∧ to ≤ 65535) (hkd : 0 ≤ kd ∧ kd ≤ 255) (hid : 0 ≤ id ∧ id ≤ 255) (hc : c.length ≤ 48) (hb : BOk c) :
  ∀ (n : Nat) (m : den Cy) (Q : Tt) (t : den Cy), Inv v fr to kd id c m.1 Q → Be (q + 4) v w p n m Q = some t → t.1 = [] ∨ ∃ h : Int, (0 ≤ h ∧ h ≤ 64) ∧ Ch (A6 fr to kd id h) 0 t.1 c false
 | 0, _, _, _, _, ht => by rw [Be] at ht; cases ht
 | n + 1, m, Q, t, hI, ht => by
  rcases hI with ⟨rfl, hF⟩ | ⟨a, s, h, c1, c2, A, hs, hh, hcc, hA, hM⟩
  ·
   rw [Be] at ht
   have hsz : m.1.length ≤ 100000 ∧ ∀ r ∈ m.1, r.2.2.2.2.2.2.2.2.length ≤ 1048576 := by
    rcases hF with e | ⟨h, _, hF⟩
    ·rw [e]; exact ⟨by simp, fun r hr => by cases hr⟩
    ·have := Ep _ hF
     refine ⟨by omega, fun r hr => ?_⟩
     obtain ⟨x', m', d, rfl, _, e3, _⟩ := Vg _ hF hr
     show d.length ≤ 1048576
     omega
   have e1 := Hh (q + 4) m.1 hsz.1 hsz.2 hk
   have ht := Eq.trans (Eq.symm ((cf (show decide ((([] : Tt).length : Int) > 0) = false from rfl)).trans (bs e1))) ht
   cases e2 : Po (q + 4) m.2.1 with
   | none => rw [e2] at ht; cases ht
   | some z =>
    rw [e2, Option.bind_some, Option.some.injEq] at ht
    rw [← ht]
    exact hF
  ·have hAne := X5c _ hA
   cases A with
   | nil => exact absurd rfl hAne
   | cons r A =>
    obtain ⟨m0, d, c2', rfl, rfl, hA2⟩ := hA
    have hlen : c1.length + d.length + c2'.length ≤ 48 := by rw [hcc] at hc; simp only [List.length_append] at hc; omega
    have hbd : BOk d := fun z hz => hb z (by rw [hcc]; simp [hz])
    have hmd : m0 = true → d ≠ [] := fun e => by
     rcases hA2 with h2 | h2
     ·exact h2.2.1
     ·rw [h2.1] at e; cases e
    have okp : Kf (A6 fr to kd id h (c1.length : Int) m0 d) = true := Oe hfr hto hkd (by omega) hid (by omega) (by omega) (fun e => List.length_pos_iff.2 (hmd e)) (fun e => by cases e)
    have hAl : A.length ≤ 49 := by
     rcases hA2 with h2 | h2
     ·have := Ep _ h2.2.2; omega
     ·rw [h2.2.1]; simp
    have st := fun (Z : Tt) (hZ : Z.length ≤ 1000) (hm : m.1.length ≤ 1000) (ht : Be (q + 4) v w p (n + 1) m (((a : Int), A6 fr to kd id h (c1.length : Int) m0 d) :: Z) = some t) => X4h q w p hv hvl hk hs okp hbd (by omega) hZ hm ht
    have e0 : (c1 ++ d).length = c1.length + d.length := List.length_append
    rcases hM with ⟨e1, harr, rfl⟩ | ⟨e1, harr, hM⟩
    ·
     have hml := Ep _ harr
     obtain ⟨m', Q', s1, s2⟩ := st (Sv a A) (by simp [Sv]; omega) (by omega) ht
     rcases s2 with ⟨_, s3, rfl⟩ | ⟨s3, _⟩
     ·have one := Ig (A6 fr to kd id h) (x := 0 + (c1.length : Int)) hmd
      rw [Int.zero_add] at one
      have arr' : Ch (A6 fr to kd id h) 0 m'.1 (c1 ++ d) m0 := by
       rw [s3]
       exact Hs _ harr (by rw [Int.zero_add]; exact one)
      refine P1 q w p hv hvl hk hfr hto hkd hid hc hb n m' _ t ?_ s1
      rcases hA2 with ⟨rfl, _, h2⟩ | ⟨rfl, rfl, rfl, _⟩
      ·refine .inr ⟨a, s, h, c1 ++ d, c2', A, hs, hh, by rw [List.append_assoc]; exact hcc, ?_, .inl ⟨e1, arr', rfl⟩⟩
       rw [e0, Int.natCast_add]
       exact h2
      ·refine .inl ⟨rfl, .inr ⟨h, hh, ?_⟩⟩
       rw [hcc, List.append_nil]
       exact arr'
     ·exact absurd e1 s3
    ·
     have hm1 : m.1.length ≤ 1000 := by rw [harr]; simp
     rcases hM with ⟨ho, rfl⟩ | ⟨b, N, B, ho, hbl, h1, hB, rfl⟩
     ·obtain ⟨m', Q', s1, s2⟩ := st (Sv a A) (by simp [Sv]; omega) hm1 ht
      rcases s2 with ⟨s3, _⟩ | ⟨_, s3, s4⟩
      ·exact absurd s3 e1
      ·rcases s4 with ⟨_, rfl⟩ | ⟨b, N, s5, _⟩
       ·refine P1 q w p hv hvl hk hfr hto hkd hid hc hb n m' _ t ?_ s1
        rw [s3, harr]
        rcases hA2 with ⟨rfl, _, h2⟩ | ⟨rfl, rfl, rfl, _⟩
        ·refine .inr ⟨a, s, h, c1 ++ d, c2', A, hs, hh, by rw [List.append_assoc]; exact hcc, ?_, .inr ⟨e1, rfl, .inl ⟨ho, rfl⟩⟩⟩
         rw [e0, Int.natCast_add]
         exact h2
        ·exact .inl ⟨rfl, .inl rfl⟩
       ·rw [show Hp v s to h = none from ho] at s5; cases s5
     ·have hBl := Ep _ hB
      have ht : Be (q + 4) v w p (n + 1) m (((a : Int), A6 fr to kd id h (c1.length : Int) m0 d) :: (Sv a A ++ Sv b B)) = some t := ht
      obtain ⟨m', Q', s1, s2⟩ := st (Sv a A ++ Sv b B) (by simp [Sv]; omega) hm1 ht
      rcases s2 with ⟨s3, _⟩ | ⟨_, s3, s4⟩
      ·exact absurd s3 e1
      ·rcases s4 with ⟨s5, _⟩ | ⟨b', N', s5, hb', hN', h3, rfl⟩
       ·rw [show Hp v s to h = _ from ho] at s5; cases s5
       ·rw [show Hp v s to h = _ from ho] at s5
        simp only [Option.some.injEq, Prod.mk.injEq] at s5
        obtain ⟨s5, rfl⟩ := s5
        obtain rfl : b = b' := by omega
        have cc := Xf3 (A6 fr to kd id (h - 1)) hN' m0 50 (0 + (c1.length : Int)) d (by omega) hmd
        have B' := Hs _ hB cc
        rw [Int.zero_add] at B'
        have eQ : Sv a A ++ Sv b B ++ (Cl (Hq fr to kd (h - 1) id false) N m0 50 (c1.length : Int) d).map (fun r => ((b : Int), r)) = Sv a A ++ Sv b (B ++ Cl (A6 fr to kd id (h - 1)) N m0 50 (c1.length : Int) d) := by
         rw [List.append_assoc]
         simp [Sv, A6]
        have s1 : Be (q + 4) v w p n m' (Sv a A ++ Sv b B ++ (Cl (Hq fr to kd (h - 1) id false) N m0 50 (c1.length : Int) d).map (fun r => ((b : Int), r))) = some t := s1
        rw [eQ] at s1
        refine P1 q w p hv hvl hk hfr hto hkd hid hc hb n m' _ t ?_ s1
        rw [s3, harr]
        rcases hA2 with ⟨rfl, _, h2⟩ | ⟨rfl, rfl, rfl, _⟩
        ·refine .inr ⟨a, s, h, c1 ++ d, c2', A, hs, hh, by rw [List.append_assoc]; exact hcc, ?_, .inr ⟨e1, rfl, .inr ⟨b, N, _, ho, hbl, h1, B', rfl⟩⟩⟩
         rw [e0, Int.natCast_add]
         exact h2
        ·rw [hcc, List.append_nil]
         exact Xf0 (a := b) hbl (by omega) B'
end Go.Proofs.YtdmepjjepogddaaGreat.Gn
end

section
namespace Go.Proofs.YtdmepjjepogddaaGreat.Gn
open Go.Rf Go.IntWalk
set_option linter.unusedVariables false
set_option linter.unusedSimpArgs false
structure Gk (fr to kd id h : Int) : Prop where
 fr : 0 ≤ fr ∧ fr ≤ 65535
 to : 0 ≤ to ∧ to ≤ 65535
 kd : 0 ≤ kd ∧ kd ≤ 255
 id : 0 ≤ id ∧ id ≤ 255
 h : 0 ≤ h ∧ h ≤ 64
theorem Gk.ok {fr to kd id h x : Int} {m : Bool} {d : A5} (G : Gk fr to kd id h) (h0 : 0 ≤ x) (hx : x + (d.length : Int) ≤ 48) (hm : m = true → d ≠ []) : Kf (A6 fr to kd id h x m d) = true :=
 Oe G.fr G.to G.kd (by have := G.h; omega) G.id (by omega) (by omega) (fun e => List.length_pos_iff.2 (hm e)) (fun e => by cases e)
def Cq (g : Int → Bool → A5 → den Ad) : Int → Ck → Prop
 | x, [] => x ≤ 48
 | x, p :: l => ∃ m d, p = g x m d ∧ (m = true → d ≠ []) ∧ (l ≠ [] → m = true) ∧ x + (d.length : Int) ≤ 48 ∧ Cq g (x + (d.length : Int)) l
theorem Xu7 (g : Int → Bool → A5 → den Ad) : ∀ {l : Ck} {x : Int} {c : A5} {f : Bool}, Ch g x l c f → x + (c.length : Int) ≤ 48 → Cq g x l
 | [], x, c, f, h, hx => by
  obtain ⟨rfl, _⟩ := h
  simpa [Cq] using hx
 | p :: l, x, c, f, h, hx => by
  obtain ⟨m, d, c2, rfl, rfl, h⟩ := h
  rw [List.length_append] at hx
  refine ⟨m, d, rfl, fun e => ?_, fun e => ?_, by omega, ?_⟩
  ·rcases h with h | h
   ·exact h.2.1
   ·rw [h.1] at e; cases e
  ·rcases h with h | h
   ·exact h.1
   ·exact absurd h.2.1 e
  ·rcases h with h | h
   ·exact Xu7 g h.2.2 (by omega)
   ·rw [h.2.1]
    show x + (d.length : Int) ≤ 48
    omega
theorem Uz (k : Nat) (fr to kd id h x y : Int) (m m' : Bool) (d e : A5) : Wk k (A6 fr to kd id h x m d) (A6 fr to kd id h y m' e) = some true := by
 unfold Wk Xz A6 Hq; (try dsimp only)
 simp only [beq_self_eq_true, cond_true]
theorem Xje (k : Nat) (fr to kd id h x y : Int) (m m' : Bool) (d e : A5) : Xd4 k (A6 fr to kd id h x m d) (A6 fr to kd id h y m' e) = some true := Uz k fr to kd id h x y m m' d e
def isG (fr to kd id h : Int) (p : den Ad) : Prop := ∃ (x : Int) (m : Bool) (d : A5), p = A6 fr to kd id h x m d
theorem Xos (k : Nat) {fr to kd id h : Int} (G : Gk fr to kd id h) (S : Ck) (hS : ∀ z ∈ S, isG fr to kd id h z) (hSl : S.length ≤ 1000) (hne : 0 < S.length) : ∀ (n : Nat) (d r : Ck) (x : Int), S = d ++ r → Cq (A6 fr to kd id h) x r → 0 ≤ x → (r ≠ [] → d = [] ∨ ∃ d0 y e, d = d0 ++ [A6 fr to kd id h y true e] ∧ 0 ≤ y ∧ y + (e.length : Int) = x) → x ≤ 48 → (d ≠ [] ∨ r ≠ []) → r.length < n →
  D7 k (S, 15) n x (d.length : Int) = some true ∧ D9 k (S, 15) n x (d.length : Int) = some true
 | 0, _, _, _, _, _, _, _, _, _, h => by omega
 | n + 1, d, [], x, hs, hq, h0, hd, hx, hor, hn => by
  have e1 : d.length = S.length := by rw [hs, List.append_nil]
  rw [D7, D9]
  unfold F8 F6; (try dsimp only [Az, Bb])
  have c1 : decide ((d.length : Int) < (S.length : Int)) = false := decide_eq_false (by omega)
  have c2 : decide ((S.length : Int) > 0) = true := decide_eq_true (by omega)
  exact ⟨(cf c1).trans ((ct c2).trans ((ct (decide_eq_true hx)).trans ((bs (Bq k 15 0 1000000)).trans rfl))), (cf c1).trans ((ct c2).trans ((ct (decide_eq_true hx)).trans ((bs (C4 k 15 0 1000000)).trans rfl)))⟩
 | n + 1, d, p :: r, x, hs, hq, h0, hd, hx, hor, hn => by
  obtain ⟨m, e, rfl, hm, hr, hxe, hq⟩ := hq
  have hj : d.length < S.length := by rw [hs]; simp
  have hg : An (t := Ad) S (d.length : Int) = A6 fr to kd id h x m e := by rw [Aq S d.length hj]; simp [hs]
  have d1 : decide ((d.length : Int) < (S.length : Int)) = true := decide_eq_true (by omega)
  have d0 : decide ((0 : Int) ≤ (d.length : Int)) = true := decide_eq_true (by omega)
  have p0 : decide ((0 : Int) < (S.length : Int)) = true := decide_eq_true (by omega)
  obtain ⟨y0, m0, e0, hg0⟩ := hS _ (List.getElem_mem hne)
  have hg0 : An (t := Ad) S 0 = A6 fr to kd id h y0 m0 e0 := by
   have := Aq (t := Ad) S 0 hne
   rw [hg0] at this
   exact this
  have ok := G.ok h0 hxe hm
  have k1 : Hi k (A6 fr to kd id h x m e) = some true := by rw [C2, ok]
  have k2 : F89 k (A6 fr to kd id h x m e) = some true := by rw [Ri, ok]
  have s1 := Uz k fr to kd id h x y0 m m0 e e0
  have s2 := Xje k fr to kd id h x y0 m m0 e e0
  have hxl : IntKind.i64.wrap (x + (e.length : Int)) = x + (e.length : Int) := i64_in _ (by omega)
  have hs' : S = (d ++ [A6 fr to kd id h x m e]) ++ r := by rw [hs]; simp
  have hl' : ((d ++ [A6 fr to kd id h x m e]).length : Int) = ((d.length + 1 : Nat) : Int) := by simp
  have rec1 : D7 k (S, 15) n (x + (e.length : Int)) ((d.length + 1 : Nat) : Int) = some true ∧ D9 k (S, 15) n (x + (e.length : Int)) ((d.length + 1 : Nat) : Int) = some true := by
   rw [← hl']
   refine Xos k G S hS hSl hne n (d ++ [A6 fr to kd id h x m e]) r _ hs' hq (by omega) (fun hrn => .inr ⟨d, x, e, by rw [hr hrn], h0, rfl⟩) hxe (.inl (by simp)) (by simp at hn; omega)
  rw [D7, D9]
  unfold F8 F6; (try dsimp only [Az, Bb])
  rw [hg, hg0, I0 d.length (by omega)]
  have nx1 : D7 k (S, 15) n (IntKind.i64.wrap (x + ((A6 fr to kd id h x m e).2.2.2.2.2.2.2.2.length : Int))) ((d.length + 1 : Nat) : Int) = some true := by
   rw [show IntKind.i64.wrap (x + ((A6 fr to kd id h x m e).2.2.2.2.2.2.2.2.length : Int)) = x + (e.length : Int) from hxl]; exact rec1.1
  have nx2 : D9 k (S, 15) n (IntKind.i64.wrap (x + ((A6 fr to kd id h x m e).2.2.2.2.2.2.2.2.length : Int))) ((d.length + 1 : Nat) : Int) = some true := by
   rw [show IntKind.i64.wrap (x + ((A6 fr to kd id h x m e).2.2.2.2.2.2.2.2.length : Int)) = x + (e.length : Int) from hxl]; exact rec1.2
  rcases hd (by simp) with rfl | ⟨dd, y, e', rfl, hy0, hy⟩
  ·have g0 : decide ((([] : Ck).length : Int) > 0) = false := rfl
   exact ⟨(ct d1).trans ((ct d0).trans ((ct d1).trans ((bs k1).trans ((cf rfl).trans ((ct p0).trans ((bs s1).trans ((cf rfl).trans ((cf g0).trans nx1)))))))), (ct d1).trans ((ct d0).trans ((ct d1).trans ((bs k2).trans ((cf rfl).trans ((ct p0).trans ((bs s2).trans ((cf rfl).trans ((cf g0).trans nx2))))))))⟩
  ·have hl2 : (dd ++ [A6 fr to kd id h y true e']).length = dd.length + 1 := by simp
   rw [hl2] at d1 d0 hj nx1 nx2 ⊢
   have g0 : decide (((dd.length + 1 : Nat) : Int) > 0) = true := decide_eq_true (by omega)
   have e1 : IntKind.i64.wrap (((dd.length + 1 : Nat) : Int) - 1) = (dd.length : Int) := by rw [i64_in _ (by omega)]; omega
   have q1 : decide ((dd.length : Int) < (S.length : Int)) = true := decide_eq_true (by omega)
   have q0 : decide ((0 : Int) ≤ (dd.length : Int)) = true := decide_eq_true (by omega)
   have hgp : An (t := Ad) S (dd.length : Int) = A6 fr to kd id h y true e' := by rw [Aq S dd.length (by omega)]; simp [hs]
   rw [e1, hgp]
   have lt1 : decide ((A6 fr to kd id h x m e).2.2.2.2.2.1 < IntKind.i64.wrap ((A6 fr to kd id h y true e').2.2.2.2.2.1 + ((A6 fr to kd id h y true e').2.2.2.2.2.2.2.2.length : Int))) = false := by
    refine decide_eq_false ?_
    show ¬ x < IntKind.i64.wrap (y + (e'.length : Int))
    rw [i64_in _ (by omega)]
    omega
   exact ⟨(ct d1).trans ((ct d0).trans ((ct d1).trans ((bs k1).trans ((cf rfl).trans ((ct p0).trans ((bs s1).trans ((cf rfl).trans ((ct g0).trans ((ct q0).trans ((ct q1).trans ((ct q0).trans ((ct q1).trans ((cf lt1).trans ((ct q0).trans ((ct q1).trans ((cf rfl).trans nx1)))))))))))))))), (ct d1).trans ((ct d0).trans ((ct d1).trans ((bs k2).trans ((cf rfl).trans ((ct p0).trans ((bs s2).trans ((cf rfl).trans ((ct g0).trans ((ct q0).trans ((ct q1).trans ((cf lt1).trans ((cf rfl).trans nx2))))))))))))⟩
theorem Wl {fr to kd id h : Int} {x : Int} {S : Ck} {c : A5} {f : Bool} (hS : Ch (A6 fr to kd id h) x S c f) : ∀ z ∈ S, isG fr to kd id h z := fun z hz => by
 obtain ⟨x', m, d, e, _⟩ := Vg _ hS hz
 exact ⟨x', m, d, e⟩
theorem Rb (k : Nat) {fr to kd id h : Int} (G : Gk fr to kd id h) {S : Ck} {c : A5} {f : Bool} (hS : Ch (A6 fr to kd id h) 0 S c f) (hc : c.length ≤ 48) (hne : S ≠ []) (hk : 1048576 < k) : Qj k (S, 15) = some true ∧ Xbr k (S, 15) = some true := by
 have hl := Ep _ hS
 exact Xos k G S (Wl hS) (by omega) (List.length_pos_iff.2 hne) k [] S 0 rfl (Xu7 _ hS (by omega)) (by omega) (fun _ => .inl rfl) (by omega) (.inr hne) (by omega)
theorem Ye (k : Nat) (hk : 1048576 < k) : Ym k [] = some true ∧ X7 k [] = some true := by
 obtain ⟨n, rfl⟩ : ∃ n, k = n + 1 := ⟨k - 1, by omega⟩
 unfold Ym Se X7 Qt; (try dsimp only)
 rw [Fi, Gw]
 exact ⟨rfl, rfl⟩
theorem Xnl (k : Nat) {fr to kd id h : Int} (G : Gk fr to kd id h) {S : Ck} {c : A5} {f : Bool} (hS : Ch (A6 fr to kd id h) 0 S c f) (hc : c.length ≤ 48) (hne : S ≠ []) (hk : 1048576 < k) : Ym k [(S, 15)] = some true ∧ X7 k [(S, 15)] = some true := by
 obtain ⟨o1, o2⟩ := Rb k G hS hc hne hk
 obtain ⟨n, rfl⟩ : ∃ n, k = n + 1 + 1 := ⟨k - 2, by omega⟩
 have w1 : IntKind.i64.wrap (0 + 1) = 1 := by decide
 constructor
 ·unfold Ym Se; (try dsimp only)
  rw [Fi]
  refine (ct rfl).trans ((ct rfl).trans ((ct rfl).trans ((bs o1).trans ((cf rfl).trans ?_))))
  have e : Jw (n + 1 + 1) [(S, 15)] (n + 1 + 1) 0 0 = some (.inr (0, 0)) := by
   rw [Jw]
   unfold J2; (try dsimp only [Az])
   exact (cf rfl).trans rfl
  refine (bs e).trans ?_
  show Fi (n + 1 + 1) [(S, 15)] (n + 1) (IntKind.i64.wrap (0 + 1)) = some true
  rw [w1, Fi]
  exact (cf rfl).trans rfl
 ·unfold X7 Qt; (try dsimp only)
  rw [Gw]
  unfold Gb; (try dsimp only [Az])
  refine (ct rfl).trans ((ct rfl).trans ((ct rfl).trans ((bs o2).trans ((cf rfl).trans ((ct rfl).trans ?_)))))
  have e : Xh8 (n + 1 + 1) (([(S, 15)] : List (den Ay)).take (0 : Int).toNat) (An (t := Ay) [(S, 15)] 0) = some (false, (S, 15)) := by
   unfold Xh8 Xil U6; (try dsimp only)
   show (Jj (n + 1 + 1) [] (S, 15) (n + 1 + 1) 0 (S, 15)).bind _ = _
   rw [Jj]
   rfl
  refine (bs e).trans ((cf rfl).trans ?_)
  rw [w1, Gw]
  unfold Gb; (try dsimp only [Az])
  exact (cf rfl).trans rfl
def Xfp (S : Ck) (x : Int) : Prop := ∀ z ∈ S, @LT.lt Int _ z.2.2.2.2.2.1 x
theorem Lt {fr to kd id h : Int} : ∀ {S : Ck} {x : Int} {c : A5}, Ch (A6 fr to kd id h) x S c true → Xfp S (x + (c.length : Int))
 | [], _, _, _, z, hz => by cases hz
 | p :: S, x, c, hS, z, hz => by
  obtain ⟨m, d, c2, rfl, rfl, h | h⟩ := hS
  ·have hd := List.length_pos_iff.2 h.2.1
   rw [List.length_append]
   rcases List.mem_cons.1 hz with rfl | hz
   ·show x < _
    omega
   ·have := Lt h.2.2 z hz
    rw [show x + ((d.length + c2.length : Nat) : Int) = x + (d.length : Int) + (c2.length : Int) by omega]
    exact this
  ·exact absurd h.2.2.2 (by decide)
theorem Xk6 (k : Nat) (S : Ck) (p : den Ad) (hS : Xfp S p.2.2.2.2.2.1) (hSl : S.length ≤ 1000) : ∀ (n j : Nat), j ≤ S.length → S.length - j < n → I7 k (S, 15) p n false (j : Int) = Gm k (S, 15) p k false 0 ([], 15)
 | 0, j, _, h => by omega
 | n + 1, j, hj, h => by
  rw [I7]
  unfold Ju; (try dsimp only [Az, Bb])
  rcases Nat.lt_or_ge j S.length with hlt | hge
  ·have d1 : decide ((j : Int) < (S.length : Int)) = true := decide_eq_true (by omega)
   have d0 : decide ((0 : Int) ≤ (j : Int)) = true := decide_eq_true (by omega)
   have hz := hS _ (List.getElem_mem hlt)
   rw [Aq S j hlt, I0 j (by omega)]
   have c : (S[j].2.2.2.2.2.1 == p.2.2.2.2.2.1) = false := beq_eq_false_iff_ne.2 (Int.ne_of_lt hz)
   exact (ct d1).trans ((ct d0).trans ((ct d1).trans ((cf c).trans (Xk6 k S p hS hSl n (j + 1) hlt (by omega)))))
  ·exact (cf (decide_eq_false (by show ¬ (j : Int) < (S.length : Int); omega))).trans rfl
theorem Xnv (k : Nat) (S : Ck) (p : den Ad) (hS : Xfp S p.2.2.2.2.2.1) (hSl : S.length ≤ 1000) (hd : ∀ z ∈ S, z.2.2.2.2.2.2.2.2.length ≤ 1048576) (hp : p.2.2.2.2.2.2.2.2.length ≤ 1048576) (ho : Qj k (S ++ [p], 15) = some true) : ∀ (n j : Nat), j ≤ S.length → S.length - j < n → Gm k (S, 15) p n false (j : Int) (S.take j, 15) = some ((S ++ [p], 15), true)
 | 0, j, _, h => by omega
 | n + 1, j, hj, h => by
  rw [Gm]
  unfold Ji; (try dsimp only [Az, B3, Bb])
  have ht : (S.take j).length = j := by rw [List.length_take]; omega
  rcases Nat.lt_or_ge j S.length with hlt | hge
  ·have d1 : decide ((j : Int) < (S.length : Int)) = true := decide_eq_true (by omega)
   have d0 : decide ((0 : Int) ≤ (j : Int)) = true := decide_eq_true (by omega)
   have hz := hS _ (List.getElem_mem hlt)
   unfold He; (try dsimp only [Az, B3])
   rw [Aq S j hlt, I0 j (by omega)]
   have c : decide (p.2.2.2.2.2.1 < S[j].2.2.2.2.2.1) = false := decide_eq_false (by have := hz; exact Int.not_lt.2 (Int.le_of_lt hz))
   refine (ct d1).trans ((ct rfl).trans ((ct d0).trans ((ct d1).trans ((cf c).trans ((ct d0).trans ((ct d1).trans ((bs (Md k S[j] (hd _ (List.getElem_mem hlt)))).trans ((ct (decide_eq_true (by show ((S.take j).length + 1) * 80 ≤ _; omega))).trans ?_))))))))
   have e : S.take j ++ [S[j]] = S.take (j + 1) := by rw [List.take_add_one, List.getElem?_eq_getElem hlt]; rfl
   rw [show ((S.take j, (15 : Int)) : den Ay).1 ++ [S[j]] = S.take (j + 1) from e]
   exact Xnv k S p hS hSl hd hp ho n (j + 1) hlt (by omega)
  ·have e : S.take j = S := List.take_of_length_le hge
   rw [e]
   exact (cf (decide_eq_false (by show ¬ (j : Int) < (S.length : Int); omega))).trans ((ct rfl).trans ((bs (Md k p hp)).trans ((ct (decide_eq_true (by show (S.length + 1) * 80 ≤ _; omega))).trans ((bs ho).trans ((cf rfl).trans rfl)))))
theorem Xf {fr to kd id h : Int} {S : Ck} (hS : ∀ z ∈ S, isG fr to kd id h z) (hne : 0 < S.length) : ∃ y m e, An (t := Ad) S 0 = A6 fr to kd id h y m e := by
 obtain ⟨y0, m0, e0, hg0⟩ := hS _ (List.getElem_mem hne)
 have := Aq (t := Ad) S 0 hne
 rw [hg0] at this
 exact ⟨_, _, _, this⟩
theorem Mo {fr to kd id h x : Int} {S : Ck} {c : A5} {f : Bool} (hS : Ch (A6 fr to kd id h) x S c f) (hc : c.length ≤ 48) : ∀ z ∈ S, z.2.2.2.2.2.2.2.2.length ≤ 1048576 := fun z hz => by
 obtain ⟨x', m, d, rfl, _, e3, _⟩ := Vg _ hS hz
 show d.length ≤ 1048576
 omega
theorem X2a (k : Nat) {fr to kd id h : Int} (G : Gk fr to kd id h) {S : Ck} {c : A5} (hS : Ch (A6 fr to kd id h) 0 S c true) {m : Bool} {d : A5} (hd : m = true → d ≠ []) (hc : c.length + d.length ≤ 48) (hne : S ≠ []) (hk : 1048576 < k) :
  Xie k (S, 15) (A6 fr to kd id h (c.length : Int) m d) = some ((S ++ [A6 fr to kd id h (c.length : Int) m d], 15), true) := by
 have hl := Ep _ hS
 have hp := List.length_pos_iff.2 hne
 have S' := Hs _ hS (by rw [Int.zero_add]; exact Ig (A6 fr to kd id h) (x := (c.length : Int)) hd)
 obtain ⟨o1, _⟩ := Rb k G hS (by omega) hne hk
 obtain ⟨o2, _⟩ := Rb k G S' (by rw [List.length_append]; omega) (by simp) hk
 have ah := Lt hS
 rw [Int.zero_add] at ah
 have ok := G.ok (x := (c.length : Int)) (m := m) (d := d) (by omega) (by omega) hd
 obtain ⟨y, m0, e0, hg⟩ := Xf (Wl hS) hp
 unfold Xie Ww; (try dsimp only)
 rw [hg]
 refine (bs o1).trans ((cf rfl).trans ((bs (show Hi k (A6 fr to kd id h (c.length : Int) m d) = some true by rw [C2, ok])).trans ((cf rfl).trans ((ct (decide_eq_true (by show (0 : Int) < (S.length : Int); omega))).trans ((bs (Uz k fr to kd id h y (c.length : Int) m0 m e0 d)).trans ((cf rfl).trans ?_))))))
 refine (Xk6 k S _ ah (by omega) k 0 (Nat.zero_le _) (by omega)).trans ?_
 exact Xnv k S _ ah (by omega) (Mo hS (by omega)) (show d.length ≤ 1048576 by omega) o2 k 0 (Nat.zero_le _) (by omega)
end Go.Proofs.YtdmepjjepogddaaGreat.Gn
end

section
namespace Go.Proofs.YtdmepjjepogddaaGreat.Gn
open Go.Rf Go.IntWalk
set_option linter.unusedVariables false
set_option linter.unusedSimpArgs false
def Cd (g : Int → Bool → A5 → den Ad) : Int → Ck → A5 → Prop
 | _, [], c => c = []
 | x, p :: l, c => ∃ m d c', p = g x m d ∧ c = d ++ c' ∧ Cd g (x + (d.length : Int)) l c'
theorem Xvs (g : Int → Bool → A5 → den Ad) : ∀ {l : Ck} {x : Int} {c : A5} {f : Bool}, Ch g x l c f → Cd g x l c
 | [], _, _, _, h => h.1
 | p :: l, x, c, f, h => by
  obtain ⟨m, d, c2, rfl, rfl, h | h⟩ := h
  ·exact ⟨m, d, c2, rfl, rfl, Xvs g h.2.2⟩
  ·refine ⟨m, d, c2, rfl, rfl, ?_⟩
   rw [h.2.1, h.2.2.1]
   rfl
theorem Xm1 (k : Nat) (fr to kd id h : Int) (S : Ck) (hSl : S.length ≤ 1000) : ∀ (n : Nat) (d r : Ck) (dat c : A5), S = d ++ r → Cd (A6 fr to kd id h) (dat.length : Int) r c → dat.length + c.length ≤ 48 → r.length < n →
  G7 k (S, 15) n (d.length : Int) (fr, to, kd, h, id, 0, false, false, dat) = some ((fr, to, kd, h, id, 0, false, false, dat ++ c), true)
 | 0, _, _, _, _, _, _, _, hn => by omega
 | n + 1, d, [], dat, c, hs, hc, hl, hn => by
  have e1 : d.length = S.length := by rw [hs, List.append_nil]
  have hc : c = [] := hc
  subst hc
  rw [G7]
  unfold Fx; (try dsimp only [Az, B3, Bb])
  rw [List.append_nil]
  exact (cf (decide_eq_false (by show ¬ (d.length : Int) < (S.length : Int); omega))).trans rfl
 | n + 1, d, p :: r, dat, c, hs, hc, hl, hn => by
  obtain ⟨m, e, c2, rfl, rfl, hc⟩ := hc
  rw [List.length_append] at hl
  have hj : d.length < S.length := by rw [hs]; simp
  have hg : An (t := Ad) S (d.length : Int) = A6 fr to kd id h (dat.length : Int) m e := by rw [Aq S d.length hj]; simp [hs]
  have d1 : decide ((d.length : Int) < (S.length : Int)) = true := decide_eq_true (by omega)
  have d0 : decide ((0 : Int) ≤ (d.length : Int)) = true := decide_eq_true (by omega)
  have hl' : ((d ++ [A6 fr to kd id h (dat.length : Int) m e]).length : Int) = ((d.length + 1 : Nat) : Int) := by simp
  have ih := Xm1 k fr to kd id h S hSl n (d ++ [A6 fr to kd id h (dat.length : Int) m e]) r (dat ++ e) c2 (by rw [hs]; simp) (by rw [List.length_append, Int.natCast_add]; exact hc) (by rw [List.length_append]; omega) (by simp at hn; omega)
  rw [hl', List.append_assoc] at ih
  rw [G7]
  unfold Fx; (try dsimp only [Az, B3, Bb])
  rw [hg, I0 d.length (by omega)]
  have ne : ((A6 fr to kd id h (dat.length : Int) m e).2.2.2.2.2.1 != (dat.length : Int)) = false := bne_self_eq_false _
  exact (ct d1).trans ((ct d0).trans ((ct d1).trans ((cf ne).trans ((ct d0).trans ((ct d1).trans ((ct (decide_eq_true (by show (dat.length + e.length) * 1 ≤ _; omega))).trans ih))))))
theorem Xju (k : Nat) (fr to kd id h : Int) (S0 : Ck) (p : den Ad) (S : Ck) (hS : S = S0 ++ [p]) (hSl : S.length ≤ 1000) (b : Bool) : ∀ (n : Nat) (d r : Ck) (dat c : A5), S = d ++ r → Cd (A6 fr to kd id h) (dat.length : Int) r c → dat.length + c.length ≤ 48 → r.length < n →
  G4 k (S, 15) n (dat.length : Int) (d.length : Int) (fr, to, kd, h, id, 0, b, false, dat) = some (cond p.2.2.2.2.2.2.1 ((0, 0, 0, 0, 0, 0, false, false, []), false) ((fr, to, kd, h, id, 0, false, false, dat ++ c), true))
 | 0, _, _, _, _, _, _, _, hn => by omega
 | n + 1, d, [], dat, c, hs, hc, hl, hn => by
  have e1 : d.length = S.length := by rw [hs, List.append_nil]
  have hc : c = [] := hc
  subst hc
  have hSl2 : S.length = S0.length + 1 := by rw [hS]; simp
  rw [G4]
  unfold Gc; (try dsimp only [Az, B3, Bb])
  have w : IntKind.i64.wrap ((S.length : Int) - 1) = (S0.length : Int) := by rw [i64_in _ (by omega)]; omega
  have hg : An (t := Ad) S (S0.length : Int) = p := by rw [Aq S S0.length (by omega)]; simp [hS]
  rw [w, hg, List.append_nil]
  refine (cf (decide_eq_false (by show ¬ (d.length : Int) < (S.length : Int); omega))).trans ((ct (decide_eq_true (by omega))).trans ((ct (decide_eq_true (by omega))).trans ?_))
  cases p.2.2.2.2.2.2.1 with
  | true => rfl
  | false =>
   refine (cf rfl).trans ((bs (Hc k (fr, to, kd, h, id, 0, false, false, dat) (show dat.length ≤ 1048576 by simp at hl; omega))).trans rfl)
 | n + 1, d, z :: r, dat, c, hs, hc, hl, hn => by
  obtain ⟨m, e, c2, rfl, rfl, hc⟩ := hc
  rw [List.length_append] at hl
  have hj : d.length < S.length := by rw [hs]; simp
  have hg : An (t := Ad) S (d.length : Int) = A6 fr to kd id h (dat.length : Int) m e := by rw [Aq S d.length hj]; simp [hs]
  have d1 : decide ((d.length : Int) < (S.length : Int)) = true := decide_eq_true (by omega)
  have d0 : decide ((0 : Int) ≤ (d.length : Int)) = true := decide_eq_true (by omega)
  have hl' : ((d ++ [A6 fr to kd id h (dat.length : Int) m e]).length : Int) = ((d.length + 1 : Nat) : Int) := by simp
  have hx : (((dat ++ e).length : Nat) : Int) = IntKind.i64.wrap ((dat.length : Int) + (e.length : Int)) := by rw [i64_in _ (by omega), List.length_append]; omega
  have ih := Xju k fr to kd id h S0 p S hS hSl b n (d ++ [A6 fr to kd id h (dat.length : Int) m e]) r (dat ++ e) c2 (by rw [hs]; simp) (by rw [List.length_append, Int.natCast_add]; exact hc) (by rw [List.length_append]; omega) (by simp at hn; omega)
  rw [hl', hx, List.append_assoc] at ih
  rw [G4]
  unfold Gc; (try dsimp only [Az, B3, Bb])
  rw [hg, I0 d.length (by omega)]
  have ne : ((A6 fr to kd id h (dat.length : Int) m e).2.2.2.2.2.1 != (dat.length : Int)) = false := bne_self_eq_false _
  exact (ct d1).trans ((ct d0).trans ((ct d1).trans ((cf ne).trans ((ct (decide_eq_true (by show (dat.length + e.length) * 1 ≤ _; omega))).trans ih))))
def X9 (fr to kd id h : Int) (m : Bool) (c : A5) : den Ad × Bool := cond m ((0, 0, 0, 0, 0, 0, false, false, []), false) ((fr, to, kd, h, id, 0, false, false, c), true)
theorem Xsi (k : Nat) {fr to kd id h : Int} (G : Gk fr to kd id h) {S : Ck} {c : A5} (hS : Ch (A6 fr to kd id h) 0 S c true) {m : Bool} {d : A5} (hd : m = true → d ≠ []) (hc : c.length + d.length ≤ 48) (hne : S ≠ []) (hk : 1048576 < k) :
  Xgu k (S ++ [A6 fr to kd id h (c.length : Int) m d], 15) = some (X9 fr to kd id h m (c ++ d)) ∧ Xhg k (S ++ [A6 fr to kd id h (c.length : Int) m d], 15) = some (X9 fr to kd id h m (c ++ d)) := by
 have hl := Ep _ hS
 have hp := List.length_pos_iff.2 hne
 have S' := Hs _ hS (by rw [Int.zero_add]; exact Ig (A6 fr to kd id h) (x := (c.length : Int)) hd)
 obtain ⟨o2, _⟩ := Rb k G S' (by rw [List.length_append]; omega) (by simp) hk
 have hcd := Xvs _ S'
 cases S with
 | nil => exact absurd rfl hne
 | cons z S =>
  obtain ⟨m0, e0, c0, rfl, hce, _⟩ := hS
  have hlen : (A6 fr to kd id h 0 m0 e0 :: S ++ [A6 fr to kd id h (c.length : Int) m d]).length = S.length + 2 := by simp
  have hlen0 : (A6 fr to kd id h 0 m0 e0 :: S).length = S.length + 1 := rfl
  rw [hlen0] at hl
  have he0 : e0.length ≤ 48 := by
   have e3 := congrArg List.length hce
   rw [List.length_append] at e3
   omega
  have g0 : An (t := Ad) (A6 fr to kd id h 0 m0 e0 :: S ++ [A6 fr to kd id h (c.length : Int) m d]) 0 = A6 fr to kd id h 0 m0 e0 := rfl
  have w : IntKind.i64.wrap (((S.length + 2 : Nat) : Int) - 1) = ((S.length + 1 : Nat) : Int) := by rw [i64_in _ (by omega)]; omega
  have hg : An (t := Ad) (A6 fr to kd id h 0 m0 e0 :: S ++ [A6 fr to kd id h (c.length : Int) m d]) ((S.length + 1 : Nat) : Int) = A6 fr to kd id h (c.length : Int) m d := by
   rw [Aq _ (S.length + 1) (by rw [hlen]; omega)]; simp
  constructor
  ·have lp := Xm1 k fr to kd id h (A6 fr to kd id h 0 m0 e0 :: S ++ [A6 fr to kd id h (c.length : Int) m d]) (by rw [hlen]; omega) k [] (A6 fr to kd id h 0 m0 e0 :: S ++ [A6 fr to kd id h (c.length : Int) m d]) [] (c ++ d) rfl hcd (by rw [List.length_nil, List.length_append]; omega) (by rw [hlen]; omega)
   unfold Xgu Uq X9; (try dsimp only [Az, Bb])
   rw [hlen, w, hg, g0]
   refine (bs o2).trans ((cf rfl).trans ((ct (decide_eq_true (by omega))).trans ((ct (decide_eq_true (by omega))).trans ?_)))
   cases m with
   | true => rfl
   | false => exact (cf rfl).trans ((ct (decide_eq_true (by omega))).trans lp)
  ·have lp := Xju k fr to kd id h (A6 fr to kd id h 0 m0 e0 :: S) (A6 fr to kd id h (c.length : Int) m d) (A6 fr to kd id h 0 m0 e0 :: S ++ [A6 fr to kd id h (c.length : Int) m d]) rfl (by rw [hlen]; omega) m0 k [] (A6 fr to kd id h 0 m0 e0 :: S ++ [A6 fr to kd id h (c.length : Int) m d]) [] (c ++ d) rfl hcd (by rw [List.length_nil, List.length_append]; omega) (by rw [hlen]; omega)
   unfold Xhg Ut X9; (try dsimp only)
   rw [g0, hlen]
   exact (ct (decide_eq_true (by omega))).trans ((bs (Hc k (A6 fr to kd id h 0 m0 e0) (show e0.length ≤ 1048576 by omega))).trans lp)
theorem Xvp (k : Nat) (S : Ck) (p : den Ad) (hS : Xfp S p.2.2.2.2.2.1) (hSl : S.length ≤ 1000) : ∀ (n j : Nat), j ≤ S.length → S.length - j < n → Jl k S p n (j : Int) p = some (-1, p) ∧ Ec k S p n (j : Int) p = some (-1, p)
 | 0, j, _, h => by omega
 | n + 1, j, hj, h => by
  rw [Jl, Ec]
  unfold J3 Fh; (try dsimp only [Az])
  rcases Nat.lt_or_ge j S.length with hlt | hge
  ·have d1 : decide ((j : Int) < (S.length : Int)) = true := decide_eq_true (by omega)
   have d0 : decide ((0 : Int) ≤ (j : Int)) = true := decide_eq_true (by omega)
   have hz := hS _ (List.getElem_mem hlt)
   obtain ⟨i1, i2⟩ := Xvp k S p hS hSl n (j + 1) hlt (by omega)
   rw [Aq S j hlt, I0 j (by omega)]
   have e1 : Xif k S[j] p = some (false, p) := by
    unfold Xif Uh; (try dsimp only)
    exact (cf (beq_eq_false_iff_ne.2 (Int.ne_of_lt hz))).trans rfl
   have e2 : Xir k S[j] p = some (false, p) := by
    unfold Xir; (try dsimp only)
    rw [show decide (S[j].2.2.2.2.2.1 > p.2.2.2.2.2.1) = false from decide_eq_false (Int.not_lt.2 (Int.le_of_lt hz))]
   exact ⟨(ct d1).trans ((ct d0).trans ((ct d1).trans ((bs e1).trans ((cf rfl).trans i1)))), (ct d1).trans ((ct d0).trans ((ct d1).trans ((bs e2).trans ((cf rfl).trans i2))))⟩
  ·have c : decide ((j : Int) < (S.length : Int)) = false := decide_eq_false (by omega)
   exact ⟨(cf c).trans rfl, (cf c).trans rfl⟩
theorem X5f (k : Nat) {fr to kd id h : Int} (G : Gk fr to kd id h) {S : Ck} {c : A5} (hS : Ch (A6 fr to kd id h) 0 S c true) {m : Bool} {d : A5} (hd : m = true → d ≠ []) (hc : c.length + d.length ≤ 48) (hne : S ≠ []) (hk : 1048576 < k) :
  Xhh k (S, 15) (A6 fr to kd id h (c.length : Int) m d) = some ((S ++ [A6 fr to kd id h (c.length : Int) m d], 15), true) := by
 have hl := Ep _ hS
 have hp := List.length_pos_iff.2 hne
 have S' := Hs _ hS (by rw [Int.zero_add]; exact Ig (A6 fr to kd id h) (x := (c.length : Int)) hd)
 have hc' : (c ++ d).length ≤ 48 := by rw [List.length_append]; omega
 obtain ⟨_, o2⟩ := Rb k G S' hc' (by simp) hk
 have ah := Lt hS
 rw [Int.zero_add] at ah
 obtain ⟨i1, i2⟩ := Xvp k S (A6 fr to kd id h (c.length : Int) m d) ah (by omega) k 0 (Nat.zero_le _) (by omega)
 have e1 : Xhr k S (A6 fr to kd id h (c.length : Int) m d) = some (false, A6 fr to kd id h (c.length : Int) m d) := by
  unfold Xhr; (try dsimp only)
  exact (bs i1).trans rfl
 have e3 : Xcb k S = some S := by
  unfold Xcb Um; (try dsimp only [B3])
  exact (cf (decide_eq_false (by omega))).trans ((ct (decide_eq_true (by rw [List.length_nil]; omega))).trans (by rw [List.nil_append]))
 have e4 : Xct k S (S.length : Int) [A6 fr to kd id h (c.length : Int) m d] = some (S ++ [A6 fr to kd id h (c.length : Int) m d]) := by
  unfold Xct X0; (try dsimp only [B3])
  refine (ct (by rw [decide_eq_true (by omega), decide_eq_true (by omega)]; rfl)).trans ((cf rfl).trans ((ct (beq_self_eq_true _)).trans ((ct (decide_eq_true (by rw [List.length_singleton]; omega))).trans rfl)))
 have e5 : Ry k (S ++ [A6 fr to kd id h (c.length : Int) m d], 15) = some (S ++ [A6 fr to kd id h (c.length : Int) m d], 15) := by
  unfold Ry; (try dsimp only)
  exact (bs (Hh k _ (by simp; omega) (Mo S' hc') hk)).trans rfl
 unfold Xhh V5; (try dsimp only [Bb])
 exact (bs e1).trans ((cf rfl).trans ((bs i2).trans ((ct rfl).trans ((bs e3).trans ((bs e4).trans ((bs o2).trans ((cf rfl).trans ((bs e5).trans rfl))))))))
end Go.Proofs.YtdmepjjepogddaaGreat.Gn
end

section
namespace Go.Proofs.YtdmepjjepogddaaGreat.Gn
open Go.Rf Go.IntWalk
set_option linter.unusedVariables false
set_option linter.unusedSimpArgs false
abbrev prL : Type := List (den Ay)
theorem U1 (k : Nat) (hk : 1048576 < k) : Mu k [] = some [] := by
 obtain ⟨n, rfl⟩ : ∃ n, k = n + 1 := ⟨k - 1, by omega⟩
 unfold Mu Sk; (try dsimp only)
 rw [Hk]
 unfold Ek; (try dsimp only [Az, B3])
 exact (cf rfl).trans rfl
theorem Xdy (k : Nat) {T : Ck} (hT : T.length ≤ 1000) (hs : ∀ z ∈ T, z.2.2.2.2.2.2.2.2.length ≤ 1048576) (hk : 1048576 < k) : Mu k [(T, 15)] = some [(T, 15)] := by
 have e5 : Ry k (T, 15) = some (T, 15) := by
  unfold Ry; (try dsimp only)
  exact (bs (Hh k T (by omega) hs hk)).trans rfl
 obtain ⟨n, rfl⟩ : ∃ n, k = n + 1 + 1 := ⟨k - 2, by omega⟩
 unfold Mu Sk; (try dsimp only)
 rw [Hk]
 unfold Ek; (try dsimp only [Az, B3])
 refine (ct rfl).trans ((ct rfl).trans ((ct rfl).trans ((bs e5).trans ((ct rfl).trans ?_))))
 rw [show IntKind.i64.wrap (0 + 1) = 1 by decide, Hk]
 unfold Ek; (try dsimp only [Az, B3])
 exact (cf rfl).trans rfl
theorem Xve (k : Nat) (hk : 1048576 < k) : Yk k [] 0 = some ([], 0) := by
 obtain ⟨n, rfl⟩ : ∃ n, k = n + 1 := ⟨k - 1, by omega⟩
 unfold Yk R9; (try dsimp only)
 have e : H4 (n + 1) [] 0 = some (-1, [], 0) := by
  unfold H4 Hu; (try dsimp only)
  rw [Dg]
  unfold Ct; (try dsimp only [Az])
  exact (cf rfl).trans rfl
 exact (bs e).trans ((ct rfl).trans rfl)
theorem X6a (k : Nat) (T : Ck) (hk : 1048576 < k) : Yk k [(T, 15)] 0 = some ([(T, 15)], 0) := by
 obtain ⟨n, rfl⟩ : ∃ n, k = n + 1 + 1 := ⟨k - 2, by omega⟩
 unfold Yk R9; (try dsimp only)
 have e : H4 (n + 1 + 1) [(T, 15)] 0 = some (-1, [(T, 15)], 0) := by
  unfold H4 Hu; (try dsimp only)
  rw [Dg]
  unfold Ct; (try dsimp only [Az])
  refine (ct rfl).trans ((ct rfl).trans ((ct rfl).trans ((bs (show Xpk (n + 1 + 1) (T, 15) 0 = some (false, 0) from rfl)).trans ((cf rfl).trans ?_))))
  rw [show IntKind.i64.wrap (0 + 1) = 1 by decide, Dg]
  unfold Ct; (try dsimp only [Az])
  exact (cf rfl).trans rfl
 exact (bs e).trans ((ct rfl).trans rfl)
theorem X4g (k : Nat) (p : den Ad) (hk : 1048576 < k) : I2 k [] p = some (-1, [], p) := by
 obtain ⟨n, rfl⟩ : ∃ n, k = n + 1 := ⟨k - 1, by omega⟩
 unfold I2 H5; (try dsimp only)
 rw [El]
 unfold Dm; (try dsimp only [Az])
 exact (cf rfl).trans rfl
theorem X34 (k : Nat) {fr to kd id h x : Int} {m : Bool} {d : A5} {S : Ck} (hS : ∀ z ∈ S, isG fr to kd id h z) (hne : 0 < S.length) (hk : 1048576 < k) : I2 k [(S, 15)] (A6 fr to kd id h x m d) = some (0, [(S, 15)], A6 fr to kd id h x m d) := by
 obtain ⟨n, rfl⟩ : ∃ n, k = n + 1 := ⟨k - 1, by omega⟩
 obtain ⟨y, m0, e0, hg⟩ := Xf hS hne
 unfold I2 H5; (try dsimp only)
 rw [El]
 unfold Dm; (try dsimp only [Az])
 have e : Xhi (n + 1) (S, 15) (A6 fr to kd id h x m d) = some (true, A6 fr to kd id h x m d) := by
  unfold Xhi Vj; (try dsimp only)
  rw [hg]
  exact (ct (decide_eq_true (by show (0 : Int) < (S.length : Int); omega))).trans ((bs (Xje (n + 1) fr to kd id h y x m0 m e0 d)).trans rfl)
 exact (ct rfl).trans ((ct rfl).trans ((ct rfl).trans ((bs e).trans ((ct rfl).trans rfl))))
theorem X4x (k : Nat) {fr to kd id h : Int} (G : Gk fr to kd id h) {c : A5} (hc : c.length ≤ 48) (hk : 1048576 < k) :
  F62 k [] (A6 fr to kd id h 0 false c) 0 = some ([], A6 fr to kd id h 0 false c, true) ∧ Q8 k [] (A6 fr to kd id h 0 false c) 0 = some ([], A6 fr to kd id h 0 false c, true) := by
 have ok := G.ok (x := 0) (m := false) (d := c) (by omega) (by omega) (fun e => by cases e)
 have k1 : Hi k (A6 fr to kd id h 0 false c) = some true := by rw [C2, ok]
 have k2 : F89 k (A6 fr to kd id h 0 false c) = some true := by rw [Ri, ok]
 have o := Ye k hk
 have cp := Md k (A6 fr to kd id h 0 false c) (show c.length ≤ 1048576 by omega)
 have cq := Hc k (A6 fr to kd id h 0 false c) (show c.length ≤ 1048576 by omega)
 constructor
 ·obtain ⟨n, rfl⟩ : ∃ n, k = n + 1 := ⟨k - 1, by omega⟩
  unfold F62 S4; (try dsimp only)
  refine (bs o.1).trans ((cf rfl).trans ((bs k1).trans ((cf rfl).trans ((bs (Bq _ 0 0 999985)).trans ((cf rfl).trans ((ct rfl).trans ?_))))))
  rw [G2]
  unfold Dr; (try dsimp only [Az, B3])
  exact (cf rfl).trans ((ct rfl).trans ((bs cp).trans rfl))
 ·unfold Q8 Nf; (try dsimp only)
  exact (bs o.2).trans ((cf rfl).trans ((bs k2).trans ((cf rfl).trans ((bs (C4 k 0 0 999985)).trans ((cf rfl).trans ((bs (U1 k hk)).trans ((bs (Xve k hk)).trans ((ct rfl).trans ((ct rfl).trans ((bs (U1 k hk)).trans ((bs cq).trans rfl)))))))))))
theorem X5m (k : Nat) {fr to kd id h : Int} (G : Gk fr to kd id h) {d : A5} (hd : d ≠ []) (hc : d.length ≤ 48) (hk : 1048576 < k) :
  F62 k [] (A6 fr to kd id h 0 true d) 0 = some ([([A6 fr to kd id h 0 true d], 15)], noP, false) ∧ Q8 k [] (A6 fr to kd id h 0 true d) 0 = some ([([A6 fr to kd id h 0 true d], 15)], noP, false) := by
 have ok := G.ok (x := 0) (m := true) (d := d) (by omega) (by omega) (fun _ => hd)
 have k1 : Hi k (A6 fr to kd id h 0 true d) = some true := by rw [C2, ok]
 have k2 : F89 k (A6 fr to kd id h 0 true d) = some true := by rw [Ri, ok]
 have o := Ye k hk
 have cp := Md k (A6 fr to kd id h 0 true d) (show d.length ≤ 1048576 by omega)
 have w15 : IntKind.i64.wrap (0 + 15) = 15 := by decide
 constructor
 ·obtain ⟨n, rfl⟩ : ∃ n, k = n + 1 := ⟨k - 1, by omega⟩
  unfold F62 S4; (try dsimp only)
  refine (bs o.1).trans ((cf rfl).trans ((bs k1).trans ((cf rfl).trans ((bs (Bq _ 0 0 999985)).trans ((cf rfl).trans ((ct rfl).trans ?_))))))
  rw [G2]
  unfold Dr; (try dsimp only [Az, B3])
  rw [w15]
  exact (cf rfl).trans ((cf rfl).trans ((ct rfl).trans ((bs cp).trans ((ct rfl).trans ((cf rfl).trans rfl)))))
 ·have p1 := Xdy k (T := [A6 fr to kd id h 0 true d]) (by simp) (fun z hz => by obtain rfl := List.mem_singleton.1 hz; show d.length ≤ 1048576; omega) hk
  unfold Q8 Nf; (try dsimp only)
  refine (bs o.2).trans ((cf rfl).trans ((bs k2).trans ((cf rfl).trans ((bs (C4 k 0 0 999985)).trans ((cf rfl).trans ((bs (U1 k hk)).trans ((bs (Xve k hk)).trans ((ct rfl).trans ((cf rfl).trans ?_)))))))))
  unfold Lu; (try dsimp only [Az, B3])
  refine (bs (X4g k _ hk)).trans ((ct rfl).trans ((ct rfl).trans ?_))
  dsimp only
  rw [w15]
  have w2 : IntKind.i64.wrap (((([] ++ [([A6 fr to kd id h 0 true d], 15)] : prL)).length : Int) - 3) = -2 := by show IntKind.i64.wrap (1 - 3) = -2; decide
  rw [w2]
  exact (ct rfl).trans ((bs p1).trans rfl)
theorem X5a (k : Nat) {fr to kd id h : Int} (G : Gk fr to kd id h) {S : Ck} {c : A5} (hS : Ch (A6 fr to kd id h) 0 S c true) {m : Bool} {d : A5} (hd : m = true → d ≠ []) (hc : c.length + d.length ≤ 48) (hne : S ≠ []) (hk : 1048576 < k) :
  F62 k [(S, 15)] (A6 fr to kd id h (c.length : Int) m d) 0 = some (cond m [(S ++ [A6 fr to kd id h (c.length : Int) m d], 15)] [], (X9 fr to kd id h m (c ++ d)).1, (X9 fr to kd id h m (c ++ d)).2) ∧
  Q8 k [(S, 15)] (A6 fr to kd id h (c.length : Int) m d) 0 = some (cond m [(S ++ [A6 fr to kd id h (c.length : Int) m d], 15)] [], (X9 fr to kd id h m (c ++ d)).1, (X9 fr to kd id h m (c ++ d)).2) := by
 have hl := Ep _ hS
 have hp := List.length_pos_iff.2 hne
 have hcp : 0 < c.length := by
  have := Lt hS
  cases S with
  | nil => exact absurd rfl hne
  | cons z S =>
   obtain ⟨m0, e0, c0, rfl, rfl, h | h⟩ := hS
   ·have := List.length_pos_iff.2 h.2.1
    rw [List.length_append]; omega
   ·exact absurd h.2.2.2 (by decide)
 have ok := G.ok (x := (c.length : Int)) (m := m) (d := d) (by omega) (by omega) hd
 have k1 : Hi k (A6 fr to kd id h (c.length : Int) m d) = some true := by rw [C2, ok]
 have k2 : F89 k (A6 fr to kd id h (c.length : Int) m d) = some true := by rw [Ri, ok]
 have o := Xnl k G hS (by omega) hne hk
 obtain ⟨y, m0, e0, hg⟩ := Xf (Wl hS) hp
 have pc := X2a k G hS hd hc hne hk
 have pi := X5f k G hS hd hc hne hk
 have wh := Xsi k G hS hd hc hne hk
 have S' := Hs _ hS (by rw [Int.zero_add]; exact Ig (A6 fr to kd id h) (x := (c.length : Int)) hd)
 have hc' : (c ++ d).length ≤ 48 := by rw [List.length_append]; omega
 have p1 := Xdy k (T := S) (by omega) (Mo hS (by omega)) hk
 have p2 := Xdy k (T := S ++ [A6 fr to kd id h (c.length : Int) m d]) (by simp; omega) (Mo S' hc') hk
 have at0 : ((A6 fr to kd id h (c.length : Int) m d).2.2.2.2.2.1 == (0 : Int)) = false := beq_eq_false_iff_ne.2 (by show ¬ (c.length : Int) = 0; omega)
 have w1 : IntKind.i64.wrap (0 + 1) = 1 := by decide
 constructor
 ·obtain ⟨n, rfl⟩ : ∃ n, k = n + 1 + 1 := ⟨k - 2, by omega⟩
  unfold F62 S4; (try dsimp only)
  refine (bs o.1).trans ((cf rfl).trans ((bs k1).trans ((cf rfl).trans ((bs (Bq _ 0 0 999985)).trans ((cf rfl).trans ((cf at0).trans ?_))))))
  rw [G2]
  unfold Dr; (try dsimp only [Az, B3])
  rw [show An (t := Ay) [(S, 15)] 0 = (S, 15) from rfl, hg]
  refine (ct rfl).trans ((ct rfl).trans ((ct rfl).trans ((cf rfl).trans ((ct rfl).trans ((ct (decide_eq_true (by show (0 : Int) < (S.length : Int); omega))).trans ((bs (Uz _ fr to kd id h y (c.length : Int) m0 m e0 d)).trans ((ct rfl).trans ((bs pc).trans ((bs wh.1).trans ((ct rfl).trans ?_))))))))))
  rw [w1]
  cases m with
  | true =>
   refine (ct rfl).trans ((ct rfl).trans ?_)
   rw [G2]
   unfold Dr; (try dsimp only [Az, B3])
   exact (cf rfl).trans ((cf rfl).trans ((cf rfl).trans ((cf rfl).trans rfl)))
  | false =>
   refine (cf rfl).trans ?_
   rw [G2]
   unfold Dr; (try dsimp only [Az, B3])
   exact (cf rfl).trans ((cf rfl).trans ((cf rfl).trans ((cf rfl).trans rfl)))
 ·unfold Q8 Nf; (try dsimp only)
  refine (bs o.2).trans ((cf rfl).trans ((bs k2).trans ((cf rfl).trans ((bs (C4 k 0 0 999985)).trans ((cf rfl).trans ((bs p1).trans ((bs (X6a k S hk)).trans ((cf at0).trans ?_))))))))
  unfold Lu; (try dsimp only [Az, B3])
  refine (bs (X34 k (Wl hS) hp hk)).trans ((cf rfl).trans ((ct rfl).trans ((ct rfl).trans ?_)))
  refine (bs pi).trans ((cf rfl).trans ((bs wh.2).trans ?_))
  cases m with
  | true => exact (cf rfl).trans ((ct rfl).trans ((ct rfl).trans ((bs p2).trans rfl)))
  | false =>
   dsimp only
   rw [w1]
   exact (ct rfl).trans ((bs (show Xrs k [(S, 15)] 0 1 = some [] from rfl)).trans ((bs (U1 k hk)).trans rfl))
end Go.Proofs.YtdmepjjepogddaaGreat.Gn
end

section
namespace Go.Proofs.YtdmepjjepogddaaGreat.Gn
open Go.Rf Go.IntWalk
set_option linter.unusedVariables false
set_option linter.unusedSimpArgs false
theorem Xmi (k : Nat) {fr to kd id h : Int} (G : Gk fr to kd id h) (v : J6) (w p q o : Int) (cc : A5) (t : den Cy) (ht : t.1.length ≤ 1000) (hk : 1048576 < k) : ∀ (n : Nat) (S R : Ck) (c1 c2 : A5), t.1 = S ++ R → Ch (A6 fr to kd id h) 0 S c1 true → Ch (A6 fr to kd id h) (c1.length : Int) R c2 false → c1.length + c2.length ≤ 48 → R.length < n →
  G5 k v w p q o cc n (S.length : Int) t (if S = [] then [] else [(S, 15)]) = some (c1 ++ c2, true) ∧ H7 k v w p q o cc n (t.1.length : Int) (S.length : Int) t.1 (if S = [] then [] else [(S, 15)]) = some (c1 ++ c2, true)
 | 0, _, _, _, _, _, _, _, _, h => by omega
 | n + 1, S, [], c1, c2, _, _, hR, _, _ => absurd hR.2 (by decide)
 | n + 1, S, r :: R, c1, c2, hT, hS, hR, hc, hn => by
  obtain ⟨m, d, c3, rfl, rfl, hR⟩ := hR
  rw [List.length_append] at hc
  have hd : m = true → d ≠ [] := fun e => by
   rcases hR with h2 | h2
   ·exact h2.2.1
   ·rw [h2.1] at e; cases e
  have hj : S.length < t.1.length := by rw [hT]; simp
  have hg : An (t := Ad) t.1 (S.length : Int) = A6 fr to kd id h (c1.length : Int) m d := by rw [Aq t.1 S.length hj]; simp [hT]
  have d1 : decide ((S.length : Int) < (t.1.length : Int)) = true := decide_eq_true (by omega)
  have d0 : decide ((0 : Int) ≤ (S.length : Int)) = true := decide_eq_true (by omega)
  have one := Ig (A6 fr to kd id h) (x := 0 + (c1.length : Int)) hd
  have S' := Hs _ hS one
  rw [Int.zero_add] at S'
  have he : ∃ q1 : den Ad, q1.2.2.2.2.2.2.2.2 = c1 ++ d ∧ (F62 k (if S = [] then [] else [(S, 15)]) (A6 fr to kd id h (c1.length : Int) m d) 0 = some (cond m ([(S ++ [A6 fr to kd id h (c1.length : Int) m d], 15)], noP, false) ([], q1, true))) ∧
    (Q8 k (if S = [] then [] else [(S, 15)]) (A6 fr to kd id h (c1.length : Int) m d) 0 = some (cond m ([(S ++ [A6 fr to kd id h (c1.length : Int) m d], 15)], noP, false) ([], q1, true))) := by
   by_cases hs : S = []
   ·subst hs
    obtain ⟨rfl, _⟩ := hS
    rw [if_pos rfl]
    cases m with
    | true =>
     obtain ⟨b1, b2⟩ := X5m k G (hd rfl) (by omega) hk
     exact ⟨(0, 0, 0, 0, 0, 0, false, false, [] ++ d), rfl, b1, b2⟩
    | false =>
     obtain ⟨b1, b2⟩ := X4x k G (c := d) (by omega) hk
     exact ⟨A6 fr to kd id h 0 false d, rfl, b1, b2⟩
   ·rw [if_neg hs]
    obtain ⟨b1, b2⟩ := X5a k G hS hd (by omega) hs hk
    refine ⟨(fr, to, kd, h, id, 0, false, false, c1 ++ d), rfl, ?_, ?_⟩
    ·rw [b1]; cases m <;> rfl
    ·rw [b2]; cases m <;> rfl
  obtain ⟨q1, hq, h1, h2⟩ := he
  rw [G5, H7]
  unfold F5 Hz; (try dsimp only [Az, B3])
  rw [hg, h1, h2, I0 S.length (by omega)]
  rcases hR with ⟨rfl, _, h3⟩ | ⟨rfl, rfl, rfl, _⟩
  ·have ih := Xmi k G v w p q o cc t ht hk n (S ++ [A6 fr to kd id h (c1.length : Int) true d]) R (c1 ++ d) c3 (by rw [hT]; simp) S' (by rw [List.length_append, Int.natCast_add]; exact h3) (by rw [List.length_append]; omega) (by simp at hn; omega)
   rw [if_neg (by simp), List.append_assoc, show (((S ++ [A6 fr to kd id h (c1.length : Int) true d]).length : Nat) : Int) = ((S.length + 1 : Nat) : Int) by simp] at ih
   exact ⟨(ct d1).trans ((ct d0).trans ((ct d1).trans ((bs rfl).trans ((cf rfl).trans ih.1)))), (ct d1).trans ((ct d0).trans ((ct d1).trans ((bs rfl).trans ((cf rfl).trans ih.2))))⟩
  ·have hl : q1.2.2.2.2.2.2.2.2.length ≤ 48 := by rw [hq, List.length_append]; simp at hc; omega
   refine ⟨(ct d1).trans ((ct d0).trans ((ct d1).trans ((bs rfl).trans ((ct rfl).trans ((ct (decide_eq_true (by show (0 + q1.2.2.2.2.2.2.2.2.length) * 1 ≤ _; omega))).trans ?_))))), (ct d1).trans ((ct d0).trans ((ct d1).trans ((bs rfl).trans ((ct rfl).trans ((bs (Pt k _ (show q1.2.2.2.2.2.2.2.2.length ≤ 4194304 by omega))).trans ?_)))))⟩
   ·rw [List.append_nil, ← hq]; rfl
   ·rw [List.append_nil, ← hq]
theorem sent (q : Nat) {v : J6} {a : Nat} {s : den sta} (hs : v[a]? = some s) {to kd id : Int} {c : A5} (hv : ∀ s ∈ v, StaOk (q + 4) s) (hvl : v.length ≤ 5) (hto : 0 ≤ to ∧ to ≤ 65535) (hkd : 0 ≤ kd ∧ kd ≤ 255) (hid : 0 ≤ id ∧ id ≤ 255) (hc : c.length ≤ 48) (hb : BOk c) (hk : 1048576 < q + 4) (hN : F59 (q + 4) v = some true) :
  ∃ t : den Cy, F61 (q + 4) v (a : Int) (s.1, to, kd, 64, id, 0, false, false, c) = some t ∧ Xg6 (q + 4) v (a : Int) (s.1, to, kd, 64, id, 0, false, false, c) = some t ∧ (t.1 = [] ∨ ∃ h : Int, (0 ≤ h ∧ h ≤ 64) ∧ Ch (A6 s.1 to kd id h) 0 t.1 c false) := by
 obtain ⟨hi, hse⟩ := List.getElem?_eq_some_iff.1 hs
 have sk := hv _ (List.getElem_mem hi)
 rw [hse] at sk
 have hfr : 0 ≤ (s.1 : Int) ∧ (s.1 : Int) ≤ 65535 := Bh sk.at1
 have ok : Kf (s.1, to, kd, 64, id, 0, false, false, c) = true := Oe hfr hto hkd (by omega) hid (by omega) hc (fun e => by cases e) (fun e => by cases e)
 obtain ⟨t, t1, t2, _⟩ := trav q v (a : Int) (s.1, to, kd, 64, id, 0, false, false, c) hv hvl hk 12288 (q + 4) (q + 4) 0 ([], [], 0) [(a : Int)] [(s.1, to, kd, 64, id, 0, false, false, c)] rfl (by simp) (fun x hx => by
   have e : x = (a : Int) := by simpa using hx
   rw [e]; show (0 : Int) ≤ (a : Int) ∧ (a : Int) < (v.length : Int); omega) (fun r hr => by
   have e := List.mem_singleton.1 (show r ∈ [((s.1, to, kd, 64, id, 0, false, false, c) : den Ad)] from hr)
   rw [e]; exact ⟨ok, hb⟩) (by
   have := X4l ok
   rw [List.drop_zero]
   simp only [Bp]
   omega) (by omega) (by omega) (by omega) (by simp) (by simp) (fun r h => by cases h) (fun r h => by cases h) (by show (0 : Int) ≤ 0 ∧ (0 : Int) + ((12288 : Nat) : Int) ≤ 20000; omega)
 have I : Inv v s.1 to kd id c (([], [], 0) : den Cy).1 [((a : Int), s.1, to, kd, 64, id, 0, false, false, c)] :=
  Xf0 (fr := s.1) (to := to) (kd := kd) (id := id) (c := c) (a := a) (h := 64) (A := [A6 s.1 to kd id 64 0 false c]) hi (by omega) (Ig _ (fun e => by cases e))
 refine ⟨t, ?_, ?_, P1 q (a : Int) (s.1, to, kd, 64, id, 0, false, false, c) hv hvl hk hfr hto hkd hid hc hb (q + 4) ([], [], 0) _ t I t2⟩
 ·unfold F61 Zh; (try dsimp only [Ax])
  have p1 := C2 (q + 4) (s.1, to, kd, 64, id, 0, false, false, c)
  rw [ok] at p1
  have wl1 : IntKind.i64.wrap ((v.length : Int) - 1) = (v.length : Int) - 1 := i64_in _ (by omega)
  have i1 := Bq (q + 4) (a : Int) 0 (IntKind.i64.wrap ((v.length : Int) - 1))
  rw [wl1, Ce (show (0 : Int) ≤ (a : Int) ∧ (a : Int) ≤ (v.length : Int) - 1 by omega)] at i1
  rw [wl1]
  exact (bs hN).trans ((cf rfl).trans ((bs p1).trans ((cf rfl).trans ((bs i1).trans ((cf rfl).trans t1)))))
 ·unfold Xg6 Us; (try dsimp only [Ax])
  exact t2
theorem Xaz (q : Nat) {v : J6} (w p kd id : Int) {c : A5} (hl : v.length ≤ 1048576) (hs : Gx v ≤ 1048576) (hb : BOk c) (hcl : c.length ≤ 1048576) (hk : 1048576 < q + 4) :
  ∃ r : A5 × Bool, F13 (q + 4) v w p kd id c = some r ∧ F16 (q + 4) v w p kd id c = some r ∧ (r = ([], false) ∨ r = (c, true)) ∧ r.1.length ≤ 48 := by
 obtain ⟨b, n1, n2, n3⟩ := X3h q v hl hs hk
 have i1 := Bq (q + 4) w 0 (IntKind.i64.wrap ((v.length : Int) - 1))
 have i2 := C4 (q + 4) w 0 (IntKind.i64.wrap ((v.length : Int) - 1))
 have wl1 : IntKind.i64.wrap ((v.length : Int) - 1) = (v.length : Int) - 1 := i64_in _ (by omega)
 have w1 := Iy (q + 4) p
 have w2 := C4 (q + 4) kd 0 255
 have w3 := C4 (q + 4) id 0 255
 have no : ∀ x : Option (A5 × Bool), x = some ([], false) → x = some ([], false) := fun _ h => h
 unfold F13 Xfo F16 Xfi; (try dsimp only [Az])
 cases b with
 | false => exact ⟨_, (bs n1).trans ((ct rfl).trans rfl), (bs n2).trans ((ct rfl).trans rfl), .inl rfl, by simp⟩
 | true =>
  cases hw : inB w 0 (IntKind.i64.wrap ((v.length : Int) - 1)) with
  | false =>
   rw [hw] at i1 i2
   exact ⟨_, (bs n1).trans ((cf rfl).trans ((bs i1).trans ((ct rfl).trans rfl))), (bs n2).trans ((cf rfl).trans ((bs i2).trans ((ct rfl).trans rfl))), .inl rfl, by simp⟩
  | true =>
   rw [hw] at i1 i2
   rw [wl1] at hw
   have hw := Bh hw
   obtain ⟨a, rfl⟩ : ∃ i : Nat, w = (i : Int) := ⟨w.toNat, by omega⟩
   have ha : a < v.length := by omega
   have d1 : decide ((a : Int) < (v.length : Int)) = true := decide_eq_true (by omega)
   have d0 : decide ((0 : Int) ≤ (a : Int)) = true := decide_eq_true (by omega)
   by_cases hc : ¬ c.length ≤ 48
   ·have c1 : decide ((c.length : Int) > 48) = true := decide_eq_true (by omega)
    refine ⟨([], false), (bs n1).trans ((cf rfl).trans ((bs i1).trans ((cf rfl).trans ((ct c1).trans rfl)))), (bs n2).trans ((cf rfl).trans ((bs i2).trans ((cf rfl).trans ((bs w1).trans ?_)))), .inl rfl, by simp⟩
    cases inB p 0 65535; · rfl
    refine (cf rfl).trans ((bs w2).trans ?_)
    cases inB kd 0 255; · rfl
    refine (cf rfl).trans ((bs w3).trans ?_)
    cases inB id 0 255; · rfl
    exact (cf rfl).trans ((ct c1).trans rfl)
   ·replace hc := Decidable.not_not.1 hc
    have c1 : decide ((c.length : Int) > 48) = false := decide_eq_false (by omega)
    have hg := Aq v a ha
    obtain ⟨h1, h2⟩ := n3 rfl
    have sk := h1 _ (List.getElem_mem ha)
    have hfr := Bh sk.at1
    by_cases hok : inB p 0 65535 = true ∧ inB kd 0 255 = true ∧ inB id 0 255 = true
    ·obtain ⟨o1, o2, o3⟩ := hok
     rw [o1] at w1; rw [o2] at w2; rw [o3] at w3
     obtain ⟨t, t1, t2, t3⟩ := sent q (List.getElem?_eq_getElem ha) h1 h2 (Bh o1) (Bh o2) (Bh o3) hc hb hk n1
     have fin : ∃ r : A5 × Bool, G5 (q + 4) v (a : Int) p kd id c (q + 4) 0 t [] = some r ∧ H7 (q + 4) v (a : Int) p kd id c (q + 4) (t.1.length : Int) 0 t.1 [] = some r ∧ (r = ([], false) ∨ r = (c, true)) := by
      rcases t3 with e | ⟨h, hh, hC⟩
      ·refine ⟨([], false), ?_, ?_, .inl rfl⟩
       ·rw [G5]
        unfold F5; (try dsimp only [Az, B3])
        rw [e]
        exact (cf rfl).trans rfl
       ·rw [e, H7]
        unfold Hz; (try dsimp only [Az])
        exact (cf rfl).trans rfl
      ·have hlen := Ep _ hC
       have G : Gk v[a].1 p kd id h := ⟨hfr, Bh o1, Bh o2, Bh o3, hh⟩
       have := Xmi (q + 4) G v (a : Int) p kd id c t (by omega) hk (q + 4) [] t.1 [] c rfl ⟨rfl, rfl⟩ hC (by simpa using hc) (by omega)
       exact ⟨(c, true), this.1, this.2, .inr rfl⟩
     obtain ⟨r, r1, r2, r3⟩ := fin
     refine ⟨r, (bs n1).trans ((cf rfl).trans ((bs i1).trans ((cf rfl).trans ((cf c1).trans ((ct d0).trans ((ct d1).trans ?_)))))), (bs n2).trans ((cf rfl).trans ((bs i2).trans ((cf rfl).trans ((bs w1).trans ((cf rfl).trans ((bs w2).trans ((cf rfl).trans ((bs w3).trans ((cf rfl).trans ((cf c1).trans ((bs ?_).trans rfl))))))))))), r3, ?_⟩
     ·rw [hg]
      exact (bs t1).trans r1
     ·unfold F66 Xe8; (try dsimp only [Az])
      rw [hg]
      exact (ct d0).trans ((ct d1).trans ((bs t2).trans r2))
     ·rcases r3 with rfl | rfl
      ·simp
      ·exact hc
    ·have po : Kf (v[a].1, p, kd, 64, id, 0, false, false, c) = false := by
      cases ho : Kf (v[a].1, p, kd, 64, id, 0, false, false, c) with
      | false => rfl
      | true =>
       obtain ⟨_, q1, q2, _, q4, _⟩ := Cn ho
       exact absurd ⟨Ce q1, Ce q2, Ce q4⟩ hok
     have p1 := C2 (q + 4) (v[a].1, p, kd, 64, id, 0, false, false, c)
     rw [po] at p1
     have tr : F61 (q + 4) v (a : Int) (v[a].1, p, kd, 64, id, 0, false, false, c) = some ([], [], 0) := by
      unfold F61 Zh; (try dsimp only [Ax])
      exact (bs n1).trans ((cf rfl).trans ((bs p1).trans ((ct rfl).trans rfl)))
     refine ⟨([], false), (bs n1).trans ((cf rfl).trans ((bs i1).trans ((cf rfl).trans ((cf c1).trans ((ct d0).trans ((ct d1).trans ?_)))))), (bs n2).trans ((cf rfl).trans ((bs i2).trans ((cf rfl).trans ((bs w1).trans ?_)))), .inl rfl, by simp⟩
     ·rw [hg]
      refine (bs tr).trans ?_
      rw [G5]
      unfold F5; (try dsimp only [Az, B3])
      exact (cf rfl).trans rfl
     ·cases o1 : inB p 0 65535; · rfl
      refine (cf rfl).trans ((bs w2).trans ?_)
      cases o2 : inB kd 0 255; · rfl
      refine (cf rfl).trans ((bs w3).trans ?_)
      cases o3 : inB id 0 255; · rfl
      exact absurd ⟨o1, o2, o3⟩ hok
end Go.Proofs.YtdmepjjepogddaaGreat.Gn
end

section
namespace Go.Proofs.YtdmepjjepogddaaGreat.Gn
open Go.Rf Go.IntWalk
set_option linter.unusedVariables false
set_option linter.unusedSimpArgs false
theorem Z5 (q : Nat) (v : J6) (w p kd id : Int) (c : A5) (hv : v.length ≤ maxLen) (hvs : ∀ s ∈ v, s.2.length ≤ maxLen) (hb : BOk c) (hk : 1048576 < q + 4) : F3 (q + 4) v w p kd id c = some true := by
 unfold F3 Xs3; (try dsimp only)
 by_cases c0 : (c.length : Int) > 1048576
 ·exact (ct (decide_eq_true c0)).trans rfl
 refine (cf (decide_eq_false c0)).trans ?_
 obtain ⟨b, hb1, hb2⟩ := Xxo (q + 4) v hv hvs hk
 refine (bs hb1).trans ?_
 by_cases c1 : b < 0
 ·exact (ct (decide_eq_true c1)).trans rfl
 refine (cf (decide_eq_false c1)).trans ?_
 obtain ⟨b0, b1, hl, hs⟩ : 0 ≤ b ∧ b ≤ 1048576 ∧ v.length ≤ 1048576 ∧ Gx v ≤ 1048576 := hb2.resolve_left c1
 have hcl : c.length ≤ 1048576 := by omega
 have cv := X2h (q + 4) v hl hs hk
 have cp := X3q (q + 4) c hcl (by omega)
 obtain ⟨r, t1, t2, t3, t4⟩ := Xaz q w p kd id hl hs hb hcl hk
 have et := Zj (q + 4) r.1 (by omega) (by omega)
 have ev := Xo0 (q + 4) v hl hs hk
 have ep := Zj (q + 4) c (by omega) (by omega)
 have sv := sumT v
 have svp := Dp Xan v
 have mv := Xz1 (q + 4) v 1 hl hs hk (by omega) (by omega)
 have mp := Xoo (q + 4) c (1 + Bp wT v) (by omega) (by omega) (by omega)
 have mr := Xoo (q + 4) r.1 1 (by omega) (by omega) (by omega)
 have hr := X04 (q + 4) r.1 1 (by omega) (by omega) (by omega)
 have z0 : (!(r.2 == r.2)) = false := by simp
 have z1 : decide (1 + (r.1.length : Int) < 0) = false := decide_eq_false (by omega)
 have z2 : (1 + (r.1.length : Int) != 1 + (r.1.length : Int)) = false := bne_self_eq_false _
 refine (bs cv).trans ((bs cp).trans ((bs t1).trans ((bs cv).trans ((bs cp).trans ((bs t2).trans ((bs et).trans ((cf rfl).trans ((cf z0).trans ?_))))))))
 refine (bs cv).trans ((bs ev).trans ((cf rfl).trans ((bs cp).trans ((bs ep).trans ((cf rfl).trans ((bs mv).trans ((bs mp).trans ?_)))))))
 refine (cf (decide_eq_false (by show ¬ 1 + Bp wT v + (c.length : Int) < 0; omega))).trans ?_
 refine (bs et).trans ((cf rfl).trans ((cf z0).trans ((bs mr).trans ((bs hr).trans ((cf z1).trans ((cf z2).trans ?_))))))
 exact (bs cv).trans ((bs cp).trans ((bs t2).trans ((bs et).trans ((cf rfl).trans ((cf z0).trans ((bs hr).trans ((cf z1).trans ((cf z2).trans rfl))))))))
theorem X3f (v : J6) (hv : Wf (.sl sta) v) (w : Int) (hw : (Lit.int .i64 w).wf = true) (p : Int) (hp : (Lit.int .i64 p).wf = true) (kd : Int) (hkd : (Lit.int .i64 kd).wf = true) (id : Int) (hid : (Lit.int .i64 id).wf = true) (c : A5) (hc : Wf (.sl (.int .u8)) c) :
  ∃ k, (∀ (v : J6) (w p kd id : Int) (c : A5), Contract Tryz.prog 3 [.one (.l (.s .ro sta v)), .one (.l (.v (.int .i64 w))), .one (.l (.v (.int .i64 p))), .one (.l (.v (.int .i64 kd))), .one (.l (.v (.int .i64 id))), .one (.l (.s .ro (.int .u8) c))] ⟨F3 k v w p kd id c, fun r => (.one (.v (.bool r)), [])⟩) ∧ F3 k v w p kd id c = some true :=
 ⟨1048600 + 4, fun v w p kd id c => (F3_q (1048600 + 4)).con (v, w, p, kd, id, c, ()), Z5 1048600 v w p kd id c hv.1 (fun s hs => (hv.2 s hs).2.1) (BOk.of hc) (by omega)⟩
end Go.Proofs.YtdmepjjepogddaaGreat.Gn
end

section
namespace Go.Proofs.YtdmepjjepogddaaGreat.fnExactCarried
open Go Go.Proofs.YtdmepjjepogddaaGreat
noncomputable abbrev jP : Program := Tryz.pinned.checked.prog
noncomputable abbrev jn : Func := Tryz.f3
noncomputable abbrev js : ChangeSpec := Rows.fnExactCarriedSpec
noncomputable abbrev jc : OpenClaim := Rows.fnExactCarriedRow
theorem Bo {a b : Bool} (h : a = true) (g : b = true) : (a && b) = true := by rw [h, g]; rfl
theorem j0 : (jc.wf (OpenSpec.ofChange js)) = true := by kernel_rfl
theorem j1 : (laidOutB jP) = true := by kernel_rfl
theorem j2 : (mapsRowed jP) = true := by kernel_rfl
theorem j3 : (jn.params.all (jP.readableRec ·)) = true := by kernel_rfl
theorem j4 : (namedTie jP jc.named js.vars) = true := by kernel_rfl
theorem j5 : ((jc.stops == [])) = true := by kernel_rfl
theorem j6 : ((jP.stops == [])) = true := by kernel_rfl
theorem j7 : ((jc.knobs == [])) = true := by kernel_rfl
theorem j8 : ((jP.stopKnobs == [])) = true := by kernel_rfl
theorem j9 : ((jc.inPlace == jP.inPlace 3)) = true := by kernel_rfl
theorem j10 : ((jc.unfollowed == jP.unfollowed 3)) = true := by kernel_rfl
theorem j11 : ((jc.recurses == jP.recurses 3)) = true := by kernel_rfl
theorem j12 : ((jc.named == jP.varsNamed 3)) = true := by kernel_rfl
theorem j13 : ((jc.maps == (jn.params.toList ++ js.plain.varTypes jP).any (jP.mapsRec ·))) = true := by kernel_rfl
theorem j14 : ((jc.ifaces == (jn.params.toList ++ js.plain.varTypes jP).any (jP.ifacesRec ·))) = true := by kernel_rfl
theorem j15 : ((jc.mapsOut == jP.mapsAmong jn.resultTypes.toList)) = true := by kernel_rfl
theorem j16 : ((jc.loops == (jn.params.toList ++ js.plain.varTypes jP).any (jP.loopsFrom ·))) = true := by kernel_rfl
theorem j17 : ((jc.wideKeys == (jn.params.toList ++ js.plain.varTypes jP ++ jn.resultTypes.toList).any (jP.wideKeysFrom ·))) = true := by kernel_rfl
theorem j18 : (js.vars.all (jP.varReadable ·)) = true := by kernel_rfl
theorem j19 : (jn.resultTypes.all (fun t => jP.readableRec t && decide (t < jP.types.size))) = true := by kernel_rfl
theorem j20 : ((jc.ifacesOut == jn.resultTypes.toList.any (jP.ifacesRec ·))) = true := by kernel_rfl
theorem j21 : ((jc.loopsOut == jn.resultTypes.toList.any (jP.loopsFrom ·))) = true := by kernel_rfl
theorem j22 : ((jc.plainKeys == jP.plainKeys)) = true := by kernel_rfl
theorem j23 : (jc.shortTexts.isNone) = true := by kernel_rfl
theorem j24 : (jP.stopsHeard) = true := by kernel_rfl
theorem j25 : (jP.mayEnter) = true := by kernel_rfl
theorem j26 : ((jc.lifted == jP.liftsFinal)) = true := by kernel_rfl
theorem j27 : ((jP.make == some jc.make)) = true := by kernel_rfl
theorem j28 : ((jc.kinds == (if jc.domain.isEmpty then [] else jn.params.toList.map fun t => match jP.underlying t with | some (.int k) => some k | _ => none))) = true := by kernel_rfl
theorem j29 : ((jc.pinned == jc.pinnedBy)) = true := by kernel_rfl
theorem j30 : ((jc.veiled == (jn.params.toList ++ js.plain.varTypes jP ++ jn.resultTypes.toList).any (jP.veiledRec ·))) = true := by kernel_rfl
theorem j31 : (jc.veiledFits jP jn.params.toList (jn.params.toList ++ js.plain.varTypes jP ++ jn.resultTypes.toList)) = true := by kernel_rfl
end Go.Proofs.YtdmepjjepogddaaGreat.fnExactCarried
end
