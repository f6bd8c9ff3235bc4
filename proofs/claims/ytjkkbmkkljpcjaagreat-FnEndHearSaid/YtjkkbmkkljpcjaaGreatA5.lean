/-
  What the proof of this row needs, part 5: the typed evaluator of the translated code, the functions that the law reaches as plain functions, and what they answer.
-/
import Derived.KernelRfl
import Derived.Test.YtjkkbmkkljpcjaaGreatA4
section
set_option linter.unusedVariables false
set_option linter.unusedSimpArgs false
namespace Go.Proofs.YtjkkbmkkljpcjaaGreat.Gn
open Go.Rf IntKind
noncomputable section
abbrev Xt6 (k : Nat) : Env := Bg (Ay [Oc k, Tt k]) Aj .own [] k
abbrev Xh4 : List PA := [.agg Cu]
abbrev F96_2_O : RO := ⟨[.a], [Ji]⟩
def Qv {β : Type} (RET : (den seg) → Option β) (k : Nat) (v : (den seg)) : Option β := A8 v fun v0 v1 v2 v3 v4 v5 v6 v7 v8 v9 v10 => (Sv k v9).bind fun b1 => (Tv k v10).bind fun b2 => RET (v0, v1, v2, v3, v4, v5, v6, v7, v8, b1, b2)
def Wr := Qv (β := (den seg)) some
theorem Xmd {β : Type} (k : Nat) (v : (den seg)) (K : KT β) : Ah (Xt6 k) Tryz.f96 (PsT.put Xh4 (v, ())) K = (Wr k v).bind fun r => K (F96_2_O.put r) :=
 Eq.trans (b := Qv (fun r => K (F96_2_O.put r)) k v) (by kernel_rfl) (by simp only [Wr, Qv, z1, z2, z3, z4, z5, A8])
def Xge (k : Nat) : FD := ⟨96, Xh4, F96_2_O, Wr k⟩
theorem Xuc (k : Nat) : (Xge k).Ok Tryz.prog := ⟨fun x => Ab (Ak (Af (.c (Ud k) (.c (Y2 k) .n))) _ _ _ _) Ai Tryz.func96 rfl rfl (Xmd k _ some), .of (by kernel_rfl)⟩
def Xsw : Nat → Hint
 | 0 => ⟨pl 6 2 (pl 26 3 []), pl 6000 11 (pl 7000 9 ((7009, .own .own Ap []) :: (pl 7010 1 (pl 26000 1 []))))⟩
 | _ => ⟨[], []⟩
abbrev Nc (k : Nat) : Env := Bg (Ay [Ng k, O0 k, Oj k, Xfa k, Xge k]) Xsw .own [] k
abbrev Tp : List PA := [.agg (.pair mI (.pair mI Cp)), .one mI, .one (.sl .ro (.int .u8))]
abbrev F151_2_O : RO := ⟨[.a], [Ji]⟩
noncomputable def Xpw {β : Type} (k : Nat) (v : (den fin)) (w : Int) (p : Ad) (K : KT β) : Ex → St → Option β := Cz (Nc k) Tryz.f151 (PsT.put Tp (v, w, p, ())) K
def Xkl (v : (den fin)) (w : Int) (p : Ad) (x27_0 x28_0 : Int) (m7000_0 : (den seg)) (m26000_0 : Ae) : St := ⟨dz 6 ((.one (.ptr (.cell 6000) 11 0)) :: (.one (.ptr (.cell 7000) 11 0)) :: dz 18 ((.one (.a (.cell 26000) 0 0 none)) :: (.one (vI x27_0)) :: (.one (vI x28_0)) :: dz 18 [])), Bc 6000 (Cb Ji (0, 0, 0, 0, 0, false, false, false, false, [], [])) (Bc 7000 (Cb m_36 m7000_0) [eM 26000 (.s .own Ap m26000_0)])⟩
noncomputable def Jj {β : Type} (k : Nat) (v : (den fin)) (w : Int) (p : Ad) (K : KT β) (n : Nat) (x27_0 x28_0 : Int) (m7000_0 : (den seg)) (m26000_0 : Ae) : Option β := Bu (Nc k) Tryz.f151 [1, 1, 0, 1, 0] 0 (A1 (Nc k) [1, 1, 0, 1, 0] (Aa Tryz.f151) 0 (Xpw k v w p K)) n (Xkl v w p x27_0 x28_0 m7000_0 m26000_0)
def Ed {β : Type} (NX : Int → Int → (den seg) → Ae → Option β) (RET : (den seg) → Option β) (k : Nat) (v : (den fin)) (w : Int) (p : Ad) (x27_0 x28_0 : Int) (m7000_0 : (den seg)) (m26000_0 : Ae) : Option β := cond (decide (x28_0 < x27_0)) (Bi x28_0 m26000_0 ((Qg k (Bd m26000_0 x28_0).1).bind fun b6 => (Qg k (Bd m26000_0 x28_0).2).bind fun b7 => Bp (m7000_0.2.2.2.2.2.2.2.2.2.1.length) ([(b6, b7)].length) 16 (NX x27_0 (i64.wrap (x28_0 + 1)) (m7000_0.1, m7000_0.2.1, m7000_0.2.2.1, m7000_0.2.2.2.1, m7000_0.2.2.2.2.1, m7000_0.2.2.2.2.2.1, m7000_0.2.2.2.2.2.2.1, m7000_0.2.2.2.2.2.2.2.1, m7000_0.2.2.2.2.2.2.2.2.1, m7000_0.2.2.2.2.2.2.2.2.2.1 ++ [(b6, b7)], m7000_0.2.2.2.2.2.2.2.2.2.2) m26000_0))) ((Wr k m7000_0).bind fun b8 => RET b8)
def De (k : Nat) (v : (den fin)) (w : Int) (p : Ad) : Nat → Int → Int → (den seg) → Ae → Option ((den seg))
 | 0, _, _, _, _ => none
 | n + 1, x27_0, x28_0, m7000_0, m26000_0 => Ed (De k v w p n) some k v w p x27_0 x28_0 m7000_0 m26000_0
theorem X8 {β : Type} (k : Nat) (v : (den fin)) (w : Int) (p : Ad) (K : KT β) (n : Nat) : ∀ (x27_0 x28_0 : Int) (m7000_0 : (den seg)) (m26000_0 : Ae), Jj k v w p K n x27_0 x28_0 m7000_0 m26000_0 =
  (De k v w p n x27_0 x28_0 m7000_0 m26000_0).bind fun r => K (F151_2_O.put r) := by
 induction n with
 | zero => intros; rfl
 | succ n ih =>
  intro x27_0 x28_0 m7000_0 m26000_0
  refine Eq.trans (b := Ed (Jj k v w p K n) (fun r => K (F151_2_O.put r)) k v w p x27_0 x28_0 m7000_0 m26000_0) (by kernel_rfl) ?_
  rw [De]
  simp only [Ed, z1, z2, z3, z4, z5, Ao, ih]
def Mi {β : Type} (LP0 : Int → Int → (den seg) → Ae → Option β) (k : Nat) (v : (den fin)) (w : Int) (p : Ad) : Option β := (Qg k w).bind fun b1 => (Mr k v).bind fun b2 => (Qg k b2).bind fun b3 => (Fs k v.2.2.2.2.2.2.2.1).bind fun b4 => (Xkr k v.2.2.2.2.2.2.2.1).bind fun b5 => LP0 (b5.length : Int) 0 (v.2.2.1, v.2.2.2.2.1, b1, b3, b4, false, true, false, false, [], p) b5
def Nt (k : Nat) (v : (den fin)) (w : Int) (p : Ad) : Option ((den seg)) := Mi (De k v w p k) k v w p
theorem Xks {β : Type} (k : Nat) (v : (den fin)) (w : Int) (p : Ad) (K : KT β) : Ah (Nc k) Tryz.f151 (PsT.put Tp (v, w, p, ())) K = (Nt k v w p).bind fun r => K (F151_2_O.put r) :=
 Eq.trans (b := Mi (Jj k v w p K k) k v w p) (by kernel_rfl) (by simp only [Nt, Mi, z1, z2, z3, z4, z5, Ao, X8])
def Xbw (k : Nat) : FD := ⟨151, Tp, F151_2_O, Nt k⟩
theorem Xns (k : Nat) : (Xbw k).Ok Tryz.prog := ⟨fun x => Ab (Ak (Af (.c (Pr k) (.c (Tm k) (.c (Rb k) (.c (Xqs k) (.c (Xuc k) .n)))))) _ _ _ _) Ai Tryz.func151 rfl rfl (Xks k _ _ _ some), .of (by kernel_rfl)⟩
def X5b : Nat → Hint
 | 0 => ⟨pl 0 1 ((3, .own .own seg []) :: []), pl 0 24 []⟩
 | _ => ⟨[], []⟩
abbrev Yv (k : Nat) : Env := Bg (Ay [Xqz k, Xbw k]) X5b .own [(false, 0), (false, 1), (false, 2), (false, 3), (false, 4), (false, 5), (false, 6), (false, 7), (false, 8), (false, 9), (false, 10), (false, 11), (false, 12), (false, 13), (false, 14), (false, 15), (false, 16), (false, 17), (false, 18), (false, 19), (false, 20), (false, 21), (false, 22), (false, 23)] k
abbrev Xd1 : List PA := [.p B8]
abbrev F174_O : RO := ⟨[.v], [.sl .own seg, B8]⟩
noncomputable def X2k {β : Type} (k : Nat) (v : (den fin)) (K : KT β) : Ex → St → Option β := Cz (Yv k) Tryz.f174 (PsT.put Xd1 (v, ())) K
def Xvr (v : (den fin)) (m0_0 : (den fin)) (m3900_0 : Al) : St := ⟨(.one (.ptr (.cell 0) 24 0)) :: (.one .d) :: (.one .d) :: (.one (.a (.cell 3900) 0 0 none)) :: dz 27 [], Bc 0 (Cb B8 m0_0) [eM 3900 (.s .own seg m3900_0)]⟩
noncomputable def Ni {β : Type} (k : Nat) (v : (den fin)) (K : KT β) (n : Nat) (m0_0 : (den fin)) (m3900_0 : Al) : Option β := Bu (Yv k) Tryz.f174 [1, 1, 0, 0] 0 (A1 (Yv k) [1, 1, 0, 0] (Aa Tryz.f174) 0 (X2k k v K)) n (Xvr v m0_0 m3900_0)
def Kp {β : Type} (NX : (den fin) → Al → Option β) (RET : (Al × (den fin)) → Option β) (k : Nat) (v : (den fin)) (m0_0 : (den fin)) (m3900_0 : Al) : Option β := cond (m0_0.1 == 4) ((Xj0 k m0_0.2.2.2.2.2.2 12).bind fun b1 => cond ((b1.2.1.length : Int) == 0) (RET (m3900_0, (m0_0.1, m0_0.2.1, m0_0.2.2.1, m0_0.2.2.2.1, m0_0.2.2.2.2.1, m0_0.2.2.2.2.2.1, b1.2.2))) ((Nt k (m0_0.1, m0_0.2.1, m0_0.2.2.1, m0_0.2.2.2.1, m0_0.2.2.2.2.1, m0_0.2.2.2.2.2.1, b1.2.2) b1.1 b1.2.1).bind fun b2 => Bp (m3900_0.length) ([b2].length) 96 (NX (m0_0.1, m0_0.2.1, m0_0.2.2.1, m0_0.2.2.2.1, m0_0.2.2.2.2.1, m0_0.2.2.2.2.2.1, b1.2.2) (m3900_0 ++ [b2])))) (RET (m3900_0, m0_0))
def Ke (k : Nat) (v : (den fin)) : Nat → (den fin) → Al → Option (Al × (den fin))
 | 0, _, _ => none
 | n + 1, m0_0, m3900_0 => Kp (Ke k v n) some k v m0_0 m3900_0
theorem Xe1 {β : Type} (k : Nat) (v : (den fin)) (K : KT β) (n : Nat) : ∀ (m0_0 : (den fin)) (m3900_0 : Al), Ni k v K n m0_0 m3900_0 =
  (Ke k v n m0_0 m3900_0).bind fun r => K (F174_O.put r) := by
 induction n with
 | zero => intros; rfl
 | succ n ih =>
  intro m0_0 m3900_0
  refine Eq.trans (b := Kp (Ni k v K n) (fun r => K (F174_O.put r)) k v m0_0 m3900_0) (by kernel_rfl) ?_
  rw [Ke]
  simp only [Kp, z1, z2, z3, z4, z5, Ao, ih]
def Xeb {β : Type} (LP0 : (den fin) → Al → Option β) (k : Nat) (v : (den fin)) : Option β := LP0 v []
def Xol (k : Nat) (v : (den fin)) : Option (Al × (den fin)) := Xeb (Ke k v k) k v
theorem Xv2 {β : Type} (k : Nat) (v : (den fin)) (K : KT β) : Ah (Yv k) Tryz.f174 (PsT.put Xd1 (v, ())) K = (Xol k v).bind fun r => K (F174_O.put r) :=
 Eq.trans (b := Xeb (Ni k v K k) k v) (by kernel_rfl) (by simp only [Xol, Xeb, z1, z2, z3, z4, z5, Ao, Xe1])
def Xrs (k : Nat) : FD := ⟨174, Xd1, F174_O, Xol k⟩
theorem X1w (k : Nat) : (Xrs k).Ok Tryz.prog := ⟨fun x => Ab (Ak (Af (.c (X2m k) (.c (Xns k) .n))) _ _ _ _) Ai Tryz.func174 rfl rfl (Xv2 k _ some), .of (by kernel_rfl)⟩
abbrev X5g (k : Nat) : Env := Bg (Ay [Yr k]) Aj .own [] k
abbrev Xme : List PA := [.agg (.pair mI (.pair mI Cp))]
abbrev F175_O : RO := ⟨[.a], [Ji]⟩
def Zj {β : Type} (RET : (den seg) → Option β) (k : Nat) (v : (den fin)) : Option β := (Zu k v (i64.wrap (v.2.2.2.2.2.2.1.1 + (v.2.2.2.2.2.2.1.2.1.length : Int))) []).bind fun b1 => RET (b1.1, b1.2.1, b1.2.2.1, b1.2.2.2.1, b1.2.2.2.2.1, b1.2.2.2.2.2.1, b1.2.2.2.2.2.2.1, true, b1.2.2.2.2.2.2.2.2)
def Xjv := Zj (β := (den seg)) some
theorem Xv5 {β : Type} (k : Nat) (v : (den fin)) (K : KT β) : Ah (X5g k) Tryz.f175 (PsT.put Xme (v, ())) K = (Xjv k v).bind fun r => K (F175_O.put r) :=
 Eq.trans (b := Zj (fun r => K (F175_O.put r)) k v) (by kernel_rfl) (by simp only [Xjv, Zj, z1, z2, z3, z4, z5, Ao])
def Xm4 (k : Nat) : FD := ⟨175, Xme, F175_O, Xjv k⟩
theorem Xzp (k : Nat) : (Xm4 k).Ok Tryz.prog := ⟨fun x => Ab (Ak (Af (.c (Xc7 k) .n)) _ _ _ _) Ai Tryz.func175 rfl rfl (Xv5 k _ some), .of (by kernel_rfl)⟩
abbrev X38 (k : Nat) : Env := Bg (Ay [Xrs k, Xm4 k]) Aj .own [(false, 0), (false, 1), (false, 2), (false, 3), (false, 4), (false, 5), (false, 6), (false, 7), (false, 8), (false, 9), (false, 10), (false, 11), (false, 12), (false, 13), (false, 14), (false, 15), (false, 16), (false, 17), (false, 18), (false, 19), (false, 20), (false, 21), (false, 22), (false, 23)] k
abbrev Xpb : List PA := [.p B8]
abbrev F159_O : RO := ⟨[.v], [.sl .own seg, B8]⟩
def X6 {β : Type} (RET : (Al × (den fin)) → Option β) (k : Nat) (v : (den fin)) : Option β := (Xol k v).bind fun b1 => cond (b1.2.1 == 4) (cond b1.2.2.2.2.2.2.2.2.2.1 (cond (!b1.2.2.2.2.2.2.2.2.2.2.1) (cond (b1.2.2.2.2.2.2.2.1.2.2.1 == (b1.2.2.2.2.2.2.2.1.2.1.length : Int)) ((Xjv k (b1.2.1, b1.2.2.1, b1.2.2.2.1, b1.2.2.2.2.1, b1.2.2.2.2.2.1, b1.2.2.2.2.2.2.1, b1.2.2.2.2.2.2.2.1, b1.2.2.2.2.2.2.2.2.1, b1.2.2.2.2.2.2.2.2.2.1, true, b1.2.2.2.2.2.2.2.2.2.2.2)).bind fun b2 => Bp (b1.1.length) ([b2].length) 96 (RET (b1.1 ++ [b2], (b1.2.1, b1.2.2.1, b1.2.2.2.1, b1.2.2.2.2.1, b1.2.2.2.2.2.1, b1.2.2.2.2.2.2.1, b1.2.2.2.2.2.2.2.1, b1.2.2.2.2.2.2.2.2.1, b1.2.2.2.2.2.2.2.2.2.1, true, b1.2.2.2.2.2.2.2.2.2.2.2)))) (RET b1)) (RET b1)) (RET b1)) (RET b1)
def Xe9 := X6 (β := Al × (den fin)) some
theorem Xv6 {β : Type} (k : Nat) (v : (den fin)) (K : KT β) : Ah (X38 k) Tryz.f159 (PsT.put Xpb (v, ())) K = (Xe9 k v).bind fun r => K (F159_O.put r) :=
 Eq.trans (b := X6 (fun r => K (F159_O.put r)) k v) (by kernel_rfl) (by simp only [Xe9, X6, z1, z2, z3, z4, z5, Ao])
def Xej (k : Nat) : FD := ⟨159, Xpb, F159_O, Xe9 k⟩
theorem Xoi (k : Nat) : (Xej k).Ok Tryz.prog := ⟨fun x => Ab (Ak (Af (.c (X1w k) (.c (Xzp k) .n))) _ _ _ _) Ai Tryz.func159 rfl rfl (Xv6 k _ some), .of (by kernel_rfl)⟩
abbrev X21 (k : Nat) : Env := Bg Ca Aj .own [] k
abbrev Xsj : List PA := [.one mB, .one mI]
abbrev F150_O : RO := ⟨[.v], [mI]⟩
def T5 (k : Nat) (v : Bool) (w : Int) : Option (Int) := cond v (some w) (some 0)
theorem Xty {β : Type} (k : Nat) (v : Bool) (w : Int) (K : KT β) : Ah (X21 k) Tryz.f150 (PsT.put Xsj (v, w, ())) K = (T5 k v w).bind fun r => K (F150_O.put r) :=
 Eq.trans (b := cond v (K (F150_O.put w)) (K (F150_O.put 0))) (by kernel_rfl) (by simp only [T5, z1, z2, z3, z4, z5])
def Zd (k : Nat) : FD := ⟨150, Xsj, F150_O, T5 k⟩
theorem Xdi (k : Nat) : (Zd k).Ok Tryz.prog := ⟨fun x => Ab (Ak .none _ _ _ _) Ai Tryz.func150 rfl rfl (Xty k _ _ some), .of (by kernel_rfl)⟩
abbrev Xz5 (k : Nat) : Env := Bg (Ay [Zd k]) Aj .own [] k
abbrev Xlg : List PA := [.agg (.pair mI (.pair mI Cp))]
abbrev F152_O : RO := ⟨[.v], [mI]⟩
def Xje (k : Nat) (v : (den fin)) : Option (Int) := (T5 k v.2.2.2.2.2.2.2.2.2.1 1).bind fun b1 => some (i64.wrap ((i64.wrap (v.2.2.2.2.2.2.1.1 + v.2.2.2.2.2.2.1.2.2.1)) + b1))
theorem Xs7 {β : Type} (k : Nat) (v : (den fin)) (K : KT β) : Ah (Xz5 k) Tryz.f152 (PsT.put Xlg (v, ())) K = (Xje k v).bind fun r => K (F152_O.put r) :=
 Eq.trans (b := (T5 k v.2.2.2.2.2.2.2.2.2.1 1).bind fun b1 => K (F152_O.put (i64.wrap ((i64.wrap (v.2.2.2.2.2.2.1.1 + v.2.2.2.2.2.2.1.2.2.1)) + b1)))) (by kernel_rfl) (by simp only [Xje, z1, z2, z3, z4, z5, Ao])
def Xsm (k : Nat) : FD := ⟨152, Xlg, F152_O, Xje k⟩
theorem X1i (k : Nat) : (Xsm k).Ok Tryz.prog := ⟨fun x => Ab (Ak (Af (.c (Xdi k) .n)) _ _ _ _) Ai Tryz.func152 rfl rfl (Xs7 k _ some), .of (by kernel_rfl)⟩
abbrev X17 (k : Nat) : Env := Bg (Ay [Xsm k, Yr k]) Aj .own [] k
abbrev Xlb : List PA := [.agg (.pair mI (.pair mI Cp))]
abbrev F105_O : RO := ⟨[.a], [Ji]⟩
def Qe (k : Nat) (v : (den fin)) : Option ((den seg)) := (Xje k v).bind fun b1 => (Zu k v b1 []).bind fun b2 => some b2
theorem Xt5 {β : Type} (k : Nat) (v : (den fin)) (K : KT β) : Ah (X17 k) Tryz.f105 (PsT.put Xlb (v, ())) K = (Qe k v).bind fun r => K (F105_O.put r) :=
 Eq.trans (b := (Xje k v).bind fun b1 => (Zu k v b1 []).bind fun b2 => K (F105_O.put b2)) (by kernel_rfl) (by simp only [Qe, z1, z2, z3, z4, z5, Ao])
def Xdk (k : Nat) : FD := ⟨105, Xlb, F105_O, Qe k⟩
theorem Xmn (k : Nat) : (Xdk k).Ok Tryz.prog := ⟨fun x => Ab (Ak (Af (.c (X1i k) (.c (Xc7 k) .n))) _ _ _ _) Ai Tryz.func105 rfl rfl (Xt5 k _ some), .of (by kernel_rfl)⟩
abbrev X3t (k : Nat) : Env := Bg (Ay [Xdn k, Xej k, S5 k, Xdk k]) Aj .own [(false, 0), (false, 1), (false, 2), (false, 3), (false, 4), (false, 5), (false, 6), (false, 7), (false, 8), (false, 9), (false, 10), (false, 11), (false, 12), (false, 13), (false, 14), (false, 15), (false, 16), (false, 17), (false, 18), (false, 19), (false, 20), (false, 21), (false, 22), (false, 23)] k
abbrev Xn2 : List PA := [.p B8, .agg Cu, .one mI]
abbrev F126_O : RO := ⟨[.v], [.sl .own seg, B8]⟩
def Y0 {β : Type} (RET : (Al × (den fin)) → Option β) (k : Nat) (v : (den fin)) (w : (den seg)) (p : Int) : Option β := (Xcx k (4, v.2.1, v.2.2.1, v.2.2.2.1, v.2.2.2.2.1, v.2.2.2.2.2.1, (v.2.2.2.2.2.2.1.1, v.2.2.2.2.2.2.1.2.1, v.2.2.2.2.2.2.1.2.2.1, w.2.2.2.2.1, v.2.2.2.2.2.2.1.2.2.2.2), v.2.2.2.2.2.2.2) w).bind fun b1 => (Xe9 k b1).bind fun b2 => (Q9 k b2.2 p).bind fun b3 => cond ((b2.1.length : Int) == 0) ((Qe k b3).bind fun b4 => RET ([b4], b3)) (RET (b2.1, b3))
def Xc4 := Y0 (β := Al × (den fin)) some
theorem Xtb {β : Type} (k : Nat) (v : (den fin)) (w : (den seg)) (p : Int) (K : KT β) : Ah (X3t k) Tryz.f126 (PsT.put Xn2 (v, w, p, ())) K = (Xc4 k v w p).bind fun r => K (F126_O.put r) :=
 Eq.trans (b := Y0 (fun r => K (F126_O.put r)) k v w p) (by kernel_rfl) (by simp only [Xc4, Y0, z1, z2, z3, z4, z5, Ao, A8])
def Xpj (k : Nat) : FD := ⟨126, Xn2, F126_O, Xc4 k⟩
theorem X1b (k : Nat) : (Xpj k).Ok Tryz.prog := ⟨fun x => Ab (Ak (Af (.c (Xl0 k) (.c (Xoi k) (.c (Xd k) (.c (Xmn k) .n))))) _ _ _ _) Ai Tryz.func126 rfl rfl (Xtb k _ _ _ some), .of (by kernel_rfl)⟩
abbrev X1m (k : Nat) : Env := Bg (Ay [Ng k]) Aj .own [] k
abbrev Xq6 : List PA := [.one mI, .one mI]
abbrev F176_O : RO := ⟨[.v], [mI]⟩
def X4 {β : Type} (RET : Int → Option β) (k : Nat) (v w : Int) : Option β := (Qg k (i64.wrap ((i64.wrap (w - v)) + 32768))).bind fun b1 => RET (i64.wrap ((i64.wrap (v - 32768)) + b1))
def Zt := X4 (β := Int) some
theorem Xvj {β : Type} (k : Nat) (v w : Int) (K : KT β) : Ah (X1m k) Tryz.f176 (PsT.put Xq6 (v, w, ())) K = (Zt k v w).bind fun r => K (F176_O.put r) :=
 Eq.trans (b := X4 (fun r => K (F176_O.put r)) k v w) (by kernel_rfl) (by simp only [Zt, X4, z1, z2, z3, z4, z5])
def Xcl (k : Nat) : FD := ⟨176, Xq6, F176_O, Zt k⟩
theorem Xod (k : Nat) : (Xcl k).Ok Tryz.prog := ⟨fun x => Ab (Ak (Af (.c (Pr k) .n)) _ _ _ _) Ai Tryz.func176 rfl rfl (Xvj k _ _ some), .of (by kernel_rfl)⟩
abbrev X01 (k : Nat) : Env := Bg (Ay [Xnf k, Fk k, Xee k, Xda k]) Aj .own [] k
abbrev Xpr : List PA := [.agg (.pair mI m_3), .one mI, .one mI, .one (.sl .ro Ap)]
abbrev F177_O : RO := ⟨[.a, .v], [.pair mI Zz, mI]⟩
def Zw {β : Type} (RET : (den Co) × Int → Option β) (k : Nat) (v : (den Co)) (w p : Int) (q : Ae) : Option β := Bn v fun v0 _ v2 _ _ => (F87 k v).bind fun b1 => cond (!b1) (RET ((0, [], 0, 0, []), 0)) ((Iy k p 0 255).bind fun b2 => cond (!b2) (RET ((0, [], 0, 0, []), 0)) ((W9 k v).bind fun b3 => (Iy k w v0 (i64.wrap (v0 + v2))).bind fun b4 => cond (!b4) (RET (b3, 0)) (cond (decide (w > 1000000)) (RET ((0, [], 0, 0, []), 0)) (cond (decide (0 ≤ (i64.wrap (w - v0))) && decide ((i64.wrap (w - v0)) ≤ (b3.2.1.length : Int))) ((Xet k q w (i64.wrap (w + (i64.wrap (v2 - (i64.wrap (w - v0))))))).bind fun b5 => (W9 k (w, (b3.2.1.take (((b3.2.1.length : Int)).toNat)).drop ((i64.wrap (w - v0)).toNat), i64.wrap (v2 - (i64.wrap (w - v0))), p, b5)).bind fun b6 => RET (b6, i64.wrap (w - v0))) none))))
def Xjs := Zw (β := (den Co) × Int) some
theorem Xwy {β : Type} (k : Nat) (v : (den Co)) (w p : Int) (q : Ae) (K : KT β) : Ah (X01 k) Tryz.f177 (PsT.put Xpr (v, w, p, q, ())) K = (Xjs k v w p q).bind fun r => K (F177_O.put r) :=
 Eq.trans (b := Zw (fun r => K (F177_O.put r)) k v w p q) (by kernel_rfl) (by simp only [Xjs, Zw, z1, z2, z3, z4, z5, Bn])
def Xo6 (k : Nat) : FD := ⟨177, Xpr, F177_O, Xjs k⟩
theorem X0c (k : Nat) : (Xo6 k).Ok Tryz.prog := ⟨fun x => Ab (Ak (Af (.c (Xy1 k) (.c (Gc k) (.c (Xnh k) (.c (Xpl k) .n))))) _ _ _ _) Ai Tryz.func177 rfl rfl (Xwy k _ _ _ _ some), .of (by kernel_rfl)⟩
def X4f : Nat → Hint
 | 0 => ⟨pl 0 1 (pl 3 1 (pl 5 1 (pl 7 1 ((8, .own .own Ap []) :: (pl 57 3 []))))), pl 0 24 (pl 3000 11 [])⟩
 | _ => ⟨[], []⟩
abbrev Z0 (k : Nat) : Env := Bg (Ay [Xcl k, Xo6 k]) X4f .own [(false, 0), (false, 1), (false, 2), (false, 3), (false, 4), (false, 5), (false, 6), (false, 7), (false, 8), (false, 9), (false, 10), (false, 11), (false, 12), (false, 13), (false, 14), (false, 15), (false, 16), (false, 17), (false, 18), (false, 19), (false, 20), (false, 21), (false, 22), (false, 23)] k
abbrev Xfn : List PA := [.p B8, .agg Cu]
abbrev F160_O : RO := ⟨[.v], [mB, B8]⟩
noncomputable def Xz1 {β : Type} (k : Nat) (v : (den fin)) (w : (den seg)) (K : KT β) : Ex → St → Option β := Cz (Z0 k) Tryz.f160 (PsT.put Xfn (v, w, ())) K
def Xu4 (v : (den fin)) (w : (den seg)) (x5_0 : Int) (x7_0 : Bool) (x59_0 : Int) (m0_0 : (den fin)) (m8900_0 : Ae) : St := ⟨(.one (.ptr (.cell 0) 24 0)) :: (.one .d) :: (.one .d) :: (.one (.ptr (.cell 3000) 11 0)) :: (.one .d) :: (.one (vI x5_0)) :: (.one .d) :: (.one (vB x7_0)) :: (.one (.a (.cell 8900) 0 0 none)) :: dz 48 ((.one (.s .ro Ap w.2.2.2.2.2.2.2.2.2.1)) :: (.one (vI (w.2.2.2.2.2.2.2.2.2.1.length : Int))) :: (.one (vI x59_0)) :: dz 89 []), Bc 0 (Cb B8 m0_0) (Bc 3000 (Cb Cu w) [eM 8900 (.s .own Ap m8900_0)])⟩
noncomputable def Nj {β : Type} (k : Nat) (v : (den fin)) (w : (den seg)) (K : KT β) (n : Nat) (x5_0 : Int) (x7_0 : Bool) (x59_0 : Int) (m0_0 : (den fin)) (m8900_0 : Ae) : Option β := Bu (Z0 k) Tryz.f160 [1, 1, 1, 1, 1, 1, 1, 0, 1, 0] 0 (A1 (Z0 k) [1, 1, 1, 1, 1, 1, 1, 0, 1, 0] (Aa Tryz.f160) 0 (Xz1 k v w K)) n (Xu4 v w x5_0 x7_0 x59_0 m0_0 m8900_0)
def Fq {β : Type} (k : Nat) (v : (den fin)) (w : (den seg)) (NX : Int → Bool → Int → (den fin) → Ae → Option β) (RET : (Bool × (den fin)) → Option β) (m0_0 : (den fin)) (x5_0 : Int) (m8900_0 : Ae) (x7_0 : Bool) : Option β := (Xjs k m0_0.2.2.2.2.2.2.1 x5_0 w.2.2.2.2.1 m8900_0).bind fun b4 => cond x7_0 (RET (true, (m0_0.1, m0_0.2.1, m0_0.2.2.1, m0_0.2.2.2.1, m0_0.2.2.2.2.1, m0_0.2.2.2.2.2.1, b4.1, m0_0.2.2.2.2.2.2.2))) (cond (decide (b4.2 > 0)) (RET (true, (m0_0.1, m0_0.2.1, m0_0.2.2.1, m0_0.2.2.2.1, m0_0.2.2.2.2.1, m0_0.2.2.2.2.2.1, b4.1, m0_0.2.2.2.2.2.2.2))) (cond (m0_0.2.2.2.2.2.2.1.2.2.2.1 == 0) (RET (decide (b4.1.2.2.2.1 > 0), (m0_0.1, m0_0.2.1, m0_0.2.2.1, m0_0.2.2.2.1, m0_0.2.2.2.2.1, m0_0.2.2.2.2.2.1, b4.1, m0_0.2.2.2.2.2.2.2))) (RET (false, (m0_0.1, m0_0.2.1, m0_0.2.2.1, m0_0.2.2.2.1, m0_0.2.2.2.2.1, m0_0.2.2.2.2.2.1, b4.1, m0_0.2.2.2.2.2.2.2)))))
def G1 {β : Type} (NX : Int → Bool → Int → (den fin) → Ae → Option β) (RET : (Bool × (den fin)) → Option β) (k : Nat) (v : (den fin)) (w : (den seg)) (x5_0 : Int) (x7_0 : Bool) (x59_0 : Int) (m0_0 : (den fin)) (m8900_0 : Ae) : Option β := cond (decide (x59_0 < (w.2.2.2.2.2.2.2.2.2.1.length : Int))) (Bi x59_0 w.2.2.2.2.2.2.2.2.2.1 ((Zt k m0_0.2.2.2.2.2.2.1.1 (Bd w.2.2.2.2.2.2.2.2.2.1 x59_0).1).bind fun b2 => (Zt k m0_0.2.2.2.2.2.2.1.1 (Bd w.2.2.2.2.2.2.2.2.2.1 x59_0).2).bind fun b3 => Bp (m8900_0.length) ([(b2, b3)].length) 16 (NX x5_0 x7_0 (i64.wrap (x59_0 + 1)) m0_0 (m8900_0 ++ [(b2, b3)])))) (cond (decide (x5_0 > 1000000)) (cond (decide (x5_0 ≥ m0_0.2.2.2.2.2.2.1.1)) (cond (decide (x5_0 ≤ (i64.wrap (m0_0.2.2.2.2.2.2.1.1 + m0_0.2.2.2.2.2.2.1.2.2.1)))) (RET (x7_0, m0_0)) (Fq k v w NX RET m0_0 x5_0 m8900_0 x7_0)) (Fq k v w NX RET m0_0 x5_0 m8900_0 x7_0)) (Fq k v w NX RET m0_0 x5_0 m8900_0 x7_0))
def D8 (k : Nat) (v : (den fin)) (w : (den seg)) : Nat → Int → Bool → Int → (den fin) → Ae → Option (Bool × (den fin))
 | 0, _, _, _, _, _ => none
 | n + 1, x5_0, x7_0, x59_0, m0_0, m8900_0 => G1 (D8 k v w n) some k v w x5_0 x7_0 x59_0 m0_0 m8900_0
theorem Xdx {β : Type} (k : Nat) (v : (den fin)) (w : (den seg)) (K : KT β) (n : Nat) : ∀ (x5_0 : Int) (x7_0 : Bool) (x59_0 : Int) (m0_0 : (den fin)) (m8900_0 : Ae), Nj k v w K n x5_0 x7_0 x59_0 m0_0 m8900_0 =
  (D8 k v w n x5_0 x7_0 x59_0 m0_0 m8900_0).bind fun r => K (F160_O.put r) := by
 induction n with
 | zero => intros; rfl
 | succ n ih =>
  intro x5_0 x7_0 x59_0 m0_0 m8900_0
  refine Eq.trans (b := G1 (Nj k v w K n) (fun r => K (F160_O.put r)) k v w x5_0 x7_0 x59_0 m0_0 m8900_0) (by kernel_rfl) ?_
  rw [D8]
  simp only [G1, Fq, z1, z2, z3, z4, z5, Ao, A8, ih]
def To {β : Type} (LP0 : Int → Bool → Int → (den fin) → Ae → Option β) (RET : (Bool × (den fin)) → Option β) (k : Nat) (v : (den fin)) (w : (den seg)) : Option β := Ao v fun v0 v1 v2 v3 v4 v5 v6 v7 _ _ _ _ _ _ _ v15 v16 v17 _ _ _ _ _ _ => cond (!w.2.2.2.2.2.2.1) (RET (false, v)) ((Zt k v6 w.2.2.2.1).bind fun b1 => cond v16 (cond (b1 == (i64.wrap ((i64.wrap (v6 + (v7.length : Int))) + 1))) (LP0 (i64.wrap (v6 + (v7.length : Int))) (!v17) 0 (v0, v1, v2, v3, v4, v5, v.2.2.2.2.2.2.1, v.2.2.2.2.2.2.2.1, v15, v16, true, v.2.2.2.2.2.2.2.2.2.2.2) []) (LP0 b1 false 0 v [])) (LP0 b1 false 0 v []))
def U3 (k : Nat) (v : (den fin)) (w : (den seg)) : Option (Bool × (den fin)) := To (D8 k v w k) some k v w
theorem Xvb {β : Type} (k : Nat) (v : (den fin)) (w : (den seg)) (K : KT β) : Ah (Z0 k) Tryz.f160 (PsT.put Xfn (v, w, ())) K = (U3 k v w).bind fun r => K (F160_O.put r) :=
 Eq.trans (b := To (Nj k v w K k) (fun r => K (F160_O.put r)) k v w) (by kernel_rfl) (by simp only [U3, To, z1, z2, z3, z4, z5, Ao, A8, Xdx])
def Xp6 (k : Nat) : FD := ⟨160, Xfn, F160_O, U3 k⟩
theorem X4c (k : Nat) : (Xp6 k).Ok Tryz.prog := ⟨fun x => Ab (Ak (Af (.c (Xod k) (.c (X0c k) .n))) _ _ _ _) Ai Tryz.func160 rfl rfl (Xvb k _ _ some), .of (by kernel_rfl)⟩
abbrev X3w (k : Nat) : Env := Bg Ca Aj .own [] k
abbrev Xrm : List PA := [.agg (.pair mI (.int .u8)), .one mI]
abbrev F182_O : RO := ⟨[.v], [mI]⟩
def Xj2 (k : Nat) (v : (den Av)) (w : Int) : Option (Int) := some (i64.wrap (v.1 - w))
theorem Xww {β : Type} (k : Nat) (v : (den Av)) (w : Int) (K : KT β) : Ah (X3w k) Tryz.f182 (PsT.put Xrm (v, w, ())) K = (Xj2 k v w).bind fun r => K (F182_O.put r) :=
 Eq.trans (b := K (F182_O.put (i64.wrap (v.1 - w)))) (by kernel_rfl) (by simp only [Xj2, z1, z2, z3, z4, z5, Sg])
def Xlz (k : Nat) : FD := ⟨182, Xrm, F182_O, Xj2 k⟩
theorem Xzo (k : Nat) : (Xlz k).Ok Tryz.prog := ⟨fun x => Ab (Ak .none _ _ _ _) Ai Tryz.func182 rfl rfl (Xww k _ _ some), .of (by kernel_rfl)⟩
def X5e : Nat → Hint
 | 0 => ⟨pl 0 3 (pl 8 3 []), []⟩
 | _ => ⟨[], []⟩
abbrev Ya (k : Nat) : Env := Bg (Ay [Xlz k]) X5e .own [] k
abbrev Xe0 : List PA := [.one (.sl .ro Av), .one mI, .fn 182]
abbrev F181_O : RO := ⟨[.v, .v], [mI, mB]⟩
noncomputable def X55 {β : Type} (k : Nat) (v : Aw) (w : Int) (K : KT β) : Ex → St → Option β := Cz (Ya k) Tryz.f181 (PsT.put Xe0 (v, w, (), ())) K
def Xtm (v : Aw) (w : Int) (x9_0 x10_0 : Int) : St := ⟨(.one (.s .ro Av v)) :: (.one (vI w)) :: (.one (.fn 182 [])) :: dz 5 ((.one (vI (v.length : Int))) :: (.one (vI x9_0)) :: (.one (vI x10_0)) :: dz 38 []), []⟩
noncomputable def Pb {β : Type} (k : Nat) (v : Aw) (w : Int) (K : KT β) (n : Nat) (x9_0 x10_0 : Int) : Option β := Bu (Ya k) Tryz.f181 [1, 1, 1, 0, 0] 0 (A1 (Ya k) [1, 1, 1, 0, 0] (Aa Tryz.f181) 0 (X55 k v w K)) n (Xtm v w x9_0 x10_0)
def Ki {β : Type} (NX : Int → Int → Option β) (RET : (Int × Bool) → Option β) (k : Nat) (v : Aw) (w : Int) (x9_0 x10_0 : Int) : Option β := cond (decide (x9_0 < x10_0)) (Bi (i64.wrap ((u64.wrap (i64.wrap (x9_0 + x10_0))).fdiv (2 ^ (1)))) v ((Xj2 k (Bd v (i64.wrap ((u64.wrap (i64.wrap (x9_0 + x10_0))).fdiv (2 ^ (1))))) w).bind fun b1 => cond (decide (b1 < 0)) (NX (i64.wrap ((i64.wrap ((u64.wrap (i64.wrap (x9_0 + x10_0))).fdiv (2 ^ (1)))) + 1)) x10_0) (NX x9_0 (i64.wrap ((u64.wrap (i64.wrap (x9_0 + x10_0))).fdiv (2 ^ (1))))))) (cond (decide (x9_0 < (v.length : Int))) (Bi x9_0 v ((Xj2 k (Bd v x9_0) w).bind fun b2 => RET (x9_0, (b2 == 0)))) (RET (x9_0, false)))
def Kl (k : Nat) (v : Aw) (w : Int) : Nat → Int → Int → Option (Int × Bool)
 | 0, _, _ => none
 | n + 1, x9_0, x10_0 => Ki (Kl k v w n) some k v w x9_0 x10_0
theorem Xd8 {β : Type} (k : Nat) (v : Aw) (w : Int) (K : KT β) (n : Nat) : ∀ (x9_0 x10_0 : Int), Pb k v w K n x9_0 x10_0 =
  (Kl k v w n x9_0 x10_0).bind fun r => K (F181_O.put r) := by
 induction n with
 | zero => intros; rfl
 | succ n ih =>
  intro x9_0 x10_0
  refine Eq.trans (b := Ki (Pb k v w K n) (fun r => K (F181_O.put r)) k v w x9_0 x10_0) (by kernel_rfl) ?_
  rw [Kl]
  simp only [Ki, z1, z2, z3, z4, z5, ih]
def Xdu {β : Type} (LP0 : Int → Int → Option β) (k : Nat) (v : Aw) (w : Int) : Option β := LP0 0 (v.length : Int)
def Xo0 (k : Nat) (v : Aw) (w : Int) : Option (Int × Bool) := Xdu (Kl k v w k) k v w
theorem Xs8 {β : Type} (k : Nat) (v : Aw) (w : Int) (K : KT β) : Ah (Ya k) Tryz.f181 (PsT.put Xe0 (v, w, (), ())) K = (Xo0 k v w).bind fun r => K (F181_O.put r) :=
 Eq.trans (b := Xdu (Pb k v w K k) k v w) (by kernel_rfl) (by simp only [Xo0, Xdu, z1, z2, z3, z4, z5, Xd8])
def Xm0 (k : Nat) : FD := ⟨181, Xe0, F181_O, Xo0 k⟩
theorem Xz0 (k : Nat) : (Xm0 k).Ok Tryz.prog := ⟨fun x => Ab (Ak (Af (.c (Xzo k) .n)) _ _ _ _) Ai Tryz.func181 rfl rfl (Xs8 k _ _ some), .of (by kernel_rfl)⟩
abbrev X3u : List PA := [.one (.sl .own Av), .one mI, .one (.sl .own Av)]
abbrev X05 : RO := ⟨[.v], [.sl .own Av]⟩
def X30 (k : Nat) (v : Aw) (w : Int) (p : Aw) : Option (Aw) := In.ins v w p
def Xn5 (k : Nat) : FD := ⟨183, X3u, X05, X30 k⟩
theorem X04 (k : Nat) : (Xn5 k).Ok Tryz.prog := ⟨fun x => In.con x.1 x.2.1 x.2.2.1, .of (by kernel_rfl)⟩
end
end Go.Proofs.YtjkkbmkkljpcjaaGreat.Gn
end

section
set_option linter.unusedVariables false
set_option linter.unusedSimpArgs false
namespace Go.Proofs.YtjkkbmkkljpcjaaGreat.Gn
open Go.Rf IntKind
noncomputable section
def X5s : Nat → Hint
 | 0 => ⟨pl 1 1 (pl 3 1 (pl 6 2 (pl 15 3 []))), pl 3000 4 (pl 6000 4 (pl 7000 2 ((7002, .own .own (.int .u8) []) :: (7003, .own .own Av []) :: (pl 14002 2 []))))⟩
 | 2 => ⟨pl 6 2 [], pl 6000 4 (pl 7000 2 ((7002, .own .own (.int .u8) []) :: (pl 7003 1 [])))⟩
 | _ => ⟨[], []⟩
abbrev Ol (k : Nat) : Env := Bg (Ay [Xc0 k, Oj k, Xm0 k, Xn5 k]) X5s .own [] k
abbrev Xcu : List PA := [.agg (.pair mI (.pair mI U7)), .one mI, .one (.sl .ro (.int .u8))]
abbrev F180_O : RO := ⟨[.a], [.pair mI (.pair mI N2)]⟩
noncomputable def Xrc {β : Type} (k : Nat) (v : (den A9)) (w : Int) (p : Ad) (K : KT β) : Ex → St → Option β := Cz (Ol k) Tryz.f180 (PsT.put Xcu (v, w, p, ())) K
def Xvo (v : (den A9)) (w : Int) (p : Ad) (m7000_2 : (den A9)) : St := ⟨dz 6 ((.one (.ptr (.cell 6000) 4 0)) :: (.one (.ptr (.cell 7000) 4 0)) :: dz 83 []), Bc 6000 (Cb (.pair mI (.pair mI N2)) (0, 0, [], [])) (Bc 7000 (Cb (.pair mI (.pair mI N2)) m7000_2) [])⟩
noncomputable def O4 {β : Type} (k : Nat) (v : (den A9)) (w : Int) (p : Ad) (K : KT β) (n : Nat) (m7000_2 : (den A9)) : Option β := Bu (Ol k) Tryz.f180 [1, 1, 1, 0, 0] 2 (A1 (Ol k) [1, 1, 1, 0, 0] (Aa Tryz.f180) 0 (Xrc k v w p K)) n (Xvo v w p m7000_2)
def Km {β : Type} (NX : (den A9) → Option β) (RET : (den A9) → Option β) (k : Nat) (v : (den A9)) (w : Int) (p : Ad) (m7000_2 : (den A9)) : Option β := cond (decide ((m7000_2.2.2.2.length : Int) > 0)) (cond (decide (0 < (m7000_2.2.2.2.length : Int))) (cond ((Bd m7000_2.2.2.2 0).1 == m7000_2.1) (cond (decide (0 < (m7000_2.2.2.2.length : Int))) (Bp (m7000_2.2.2.1.length) ([(Bd m7000_2.2.2.2 0).2].length) 1 (cond (decide (0 ≤ 1) && decide (1 ≤ (m7000_2.2.2.2.length : Int))) (NX (i64.wrap (m7000_2.1 + 1), m7000_2.2.1, m7000_2.2.2.1 ++ [(Bd m7000_2.2.2.2 0).2], (m7000_2.2.2.2.take (((m7000_2.2.2.2.length : Int)).toNat)).drop 1)) none)) none) ((Qh k m7000_2).bind fun b5 => RET b5)) none) ((Qh k m7000_2).bind fun b6 => RET b6)
def Fz (k : Nat) (v : (den A9)) (w : Int) (p : Ad) : Nat → (den A9) → Option ((den A9))
 | 0, _ => none
 | n + 1, m7000_2 => Km (Fz k v w p n) some k v w p m7000_2
theorem Xdl {β : Type} (k : Nat) (v : (den A9)) (w : Int) (p : Ad) (K : KT β) (n : Nat) : ∀ (m7000_2 : (den A9)), O4 k v w p K n m7000_2 =
  (Fz k v w p n m7000_2).bind fun r => K (F180_O.put r) := by
 induction n with
 | zero => intros; rfl
 | succ n ih =>
  intro m7000_2
  refine Eq.trans (b := Km (O4 k v w p K n) (fun r => K (F180_O.put r)) k v w p m7000_2) (by kernel_rfl) ?_
  rw [Fz]
  simp only [Km, z1, z2, z3, z4, z5, Bs, ih]
def Xu9 (v : (den A9)) (w : Int) (p : Ad) (x17_0 : Int) (m7000_0 : (den A9)) : St := ⟨(.one .d) :: (.one (vI w)) :: (.one .d) :: (.one (.ptr (.cell 3000) 4 0)) :: (.one .d) :: (.one .d) :: (.one (.ptr (.cell 6000) 4 0)) :: (.one (.ptr (.cell 7000) 4 0)) :: dz 7 ((.one (.s .ro (.int .u8) p)) :: (.one (vI (p.length : Int))) :: (.one (vI x17_0)) :: dz 73 []), Bc 3000 (Cb (.pair mI (.pair mI U7)) v) (Bc 6000 (Cb (.pair mI (.pair mI N2)) (0, 0, [], [])) (Bc 7000 (Cb (.pair mI (.pair mI N2)) m7000_0) [eM 14002 .d, eM 14003 .d]))⟩
noncomputable def Np {β : Type} (k : Nat) (v : (den A9)) (w : Int) (p : Ad) (K : KT β) (n : Nat) (x17_0 : Int) (m7000_0 : (den A9)) : Option β := Bu (Ol k) Tryz.f180 [1, 1, 0, 1, 0] 0 (A1 (Ol k) [1, 1, 0, 1, 0] (Aa Tryz.f180) 0 (Xrc k v w p K)) n (Xu9 v w p x17_0 m7000_0)
def Ku {β : Type} (NX : Int → (den A9) → Option β) (LP2 : (den A9) → Option β) (k : Nat) (v : (den A9)) (w : Int) (p : Ad) (x17_0 : Int) (m7000_0 : (den A9)) : Option β := cond (decide (x17_0 < (p.length : Int))) (Bi x17_0 p (cond (decide ((i64.wrap (w + x17_0)) < v.1)) (NX (i64.wrap (x17_0 + 1)) m7000_0) ((Fs k v).bind fun b2 => cond (decide ((i64.wrap (w + x17_0)) ≥ (i64.wrap (v.1 + b2)))) (NX (i64.wrap (x17_0 + 1)) m7000_0) ((Xo0 k m7000_0.2.2.2 (i64.wrap (w + x17_0))).bind fun b3 => cond (!b3.2) ((X30 k m7000_0.2.2.2 b3.1 [(i64.wrap (w + x17_0), Bd p x17_0)]).bind fun b4 => NX (i64.wrap (x17_0 + 1)) (m7000_0.1, m7000_0.2.1, m7000_0.2.2.1, b4)) (NX (i64.wrap (x17_0 + 1)) m7000_0))))) (LP2 m7000_0)
def Kg (k : Nat) (v : (den A9)) (w : Int) (p : Ad) : Nat → Int → (den A9) → Option ((den A9))
 | 0, _, _ => none
 | n + 1, x17_0, m7000_0 => Ku (Kg k v w p n) (Fz k v w p k) k v w p x17_0 m7000_0
theorem Xcw {β : Type} (k : Nat) (v : (den A9)) (w : Int) (p : Ad) (K : KT β) (n : Nat) : ∀ (x17_0 : Int) (m7000_0 : (den A9)), Np k v w p K n x17_0 m7000_0 =
  (Kg k v w p n x17_0 m7000_0).bind fun r => K (F180_O.put r) := by
 induction n with
 | zero => intros; rfl
 | succ n ih =>
  intro x17_0 m7000_0
  refine Eq.trans (b := Ku (Np k v w p K n) (O4 k v w p K k) k v w p x17_0 m7000_0) (by kernel_rfl) ?_
  rw [Kg]
  simp only [Ku, z1, z2, z3, z4, z5, Bs, Xdl, ih]
def Ww {β : Type} (LP0 : Int → (den A9) → Option β) (k : Nat) (v : (den A9)) (w : Int) (p : Ad) : Option β := (Qh k v).bind fun b1 => LP0 0 b1
def Xql (k : Nat) (v : (den A9)) (w : Int) (p : Ad) : Option ((den A9)) := Ww (Kg k v w p k) k v w p
theorem Xs0 {β : Type} (k : Nat) (v : (den A9)) (w : Int) (p : Ad) (K : KT β) : Ah (Ol k) Tryz.f180 (PsT.put Xcu (v, w, p, ())) K = (Xql k v w p).bind fun r => K (F180_O.put r) :=
 Eq.trans (b := Ww (Np k v w p K k) k v w p) (by kernel_rfl) (by simp only [Xql, Ww, z1, z2, z3, z4, z5, Bs, Xcw])
def Xn7 (k : Nat) : FD := ⟨180, Xcu, F180_O, Xql k⟩
theorem Xzr (k : Nat) : (Xn7 k).Ok Tryz.prog := ⟨fun x => Ab (Ak (Af (.c (Xnc k) (.c (Rb k) (.c (Xz0 k) (.c (X04 k) .n))))) _ _ _ _) Ai Tryz.func180 rfl rfl (Xs0 k _ _ _ some), .of (by kernel_rfl)⟩
abbrev X3z (k : Nat) : Env := Bg (Ay [Xih k, Fk k, Xn7 k]) Aj .own [] k
abbrev Xmi : List PA := [.agg (.pair mI (.pair mI U7)), .one mI, .one (.sl .ro (.int .u8))]
abbrev F178_O : RO := ⟨[.a], [.pair mI (.pair mI N2)]⟩
def Zx {β : Type} (RET : (den A9) → Option β) (k : Nat) (v : (den A9)) (w : Int) (p : Ad) : Option β := (F88 k v).bind fun b1 => cond (!b1) (RET (0, 0, [], [])) ((Iy k w 0 1000000).bind fun b2 => cond (!b2) (RET (0, 0, [], [])) ((Xql k v w p).bind fun b3 => cond (decide (b3.1 > 1000000)) (RET (0, 0, [], [])) (RET b3)))
def Xcj := Zx (β := (den A9)) some
theorem Xte {β : Type} (k : Nat) (v : (den A9)) (w : Int) (p : Ad) (K : KT β) : Ah (X3z k) Tryz.f178 (PsT.put Xmi (v, w, p, ())) K = (Xcj k v w p).bind fun r => K (F178_O.put r) :=
 Eq.trans (b := Zx (fun r => K (F178_O.put r)) k v w p) (by kernel_rfl) (by simp only [Xcj, Zx, z1, z2, z3, z4, z5, Bs])
def Xlw (k : Nat) : FD := ⟨178, Xmi, F178_O, Xcj k⟩
theorem X13 (k : Nat) : (Xlw k).Ok Tryz.prog := ⟨fun x => Ab (Ak (Af (.c (Xlv k) (.c (Gc k) (.c (Xzr k) .n)))) _ _ _ _) Ai Tryz.func178 rfl rfl (Xte k _ _ _ some), .of (by kernel_rfl)⟩
def X5q : Nat → Hint
 | 0 => ⟨pl 0 1 (pl 5 1 (pl 98 3 [])), pl 0 24 (pl 54002 2 [])⟩
 | _ => ⟨[], []⟩
abbrev Nw (k : Nat) : Env := Bg (Ay [O0 k, Xcl k, Zd k, Fk k, Xlw k, Xih k, Oj k]) X5q .own [(false, 0), (false, 1), (false, 2), (false, 3), (false, 4), (false, 5), (false, 6), (false, 7), (false, 8), (false, 9), (false, 10), (false, 11), (false, 12), (false, 13), (false, 14), (false, 15), (false, 16), (false, 17), (false, 18), (false, 19), (false, 20), (false, 21), (false, 22), (false, 23)] k
abbrev Xf2 : List PA := [.p B8, .agg Cu]
abbrev F161_O : RO := ⟨[], [B8]⟩
noncomputable def Xnb {β : Type} (k : Nat) (v : (den fin)) (w : (den seg)) (K : KT β) : Ex → St → Option β := Cz (Nw k) Tryz.f161 (PsT.put Xf2 (v, w, ())) K
def Xwn (v : (den fin)) (w : (den seg)) (x5_0 x99_0 x100_0 : Int) (m0_0 : (den fin)) : St := ⟨(.one (.ptr (.cell 0) 24 0)) :: dz 4 ((.one (vI x5_0)) :: dz 92 ((.one (.a (.cell 54003) 0 0 none)) :: (.one (vI x99_0)) :: (.one (vI x100_0)) :: dz 12 [])), [iM 0 m0_0.1, iM 1 m0_0.2.1, iM 2 m0_0.2.2.1, iM 3 m0_0.2.2.2.1, iM 4 m0_0.2.2.2.2.1, iM 5 m0_0.2.2.2.2.2.1, iM 6 m0_0.2.2.2.2.2.2.1.1, eM 7 (.s .own (.int .u8) m0_0.2.2.2.2.2.2.1.2.1), iM 8 m0_0.2.2.2.2.2.2.1.2.2.1, iM 9 m0_0.2.2.2.2.2.2.1.2.2.2.1, eM 10 (.s .own Ap m0_0.2.2.2.2.2.2.1.2.2.2.2), iM 11 m0_0.2.2.2.2.2.2.2.1.1, iM 12 m0_0.2.2.2.2.2.2.2.1.2.1, eM 13 (.a (.cell 54002) 0 0 none), eM 14 (.a (.cell 54003) 0 0 none), eM 15 (vB m0_0.2.2.2.2.2.2.2.2.1), eM 16 (vB m0_0.2.2.2.2.2.2.2.2.2.1), eM 17 (vB m0_0.2.2.2.2.2.2.2.2.2.2.1), iM 18 m0_0.2.2.2.2.2.2.2.2.2.2.2.1, iM 19 m0_0.2.2.2.2.2.2.2.2.2.2.2.2.1, iM 20 m0_0.2.2.2.2.2.2.2.2.2.2.2.2.2.1, iM 21 m0_0.2.2.2.2.2.2.2.2.2.2.2.2.2.2.1, iM 22 m0_0.2.2.2.2.2.2.2.2.2.2.2.2.2.2.2.1, iM 23 m0_0.2.2.2.2.2.2.2.2.2.2.2.2.2.2.2.2, eM 54002 (.s .own (.int .u8) m0_0.2.2.2.2.2.2.2.1.2.2.1), eM 54003 (.s .own Av m0_0.2.2.2.2.2.2.2.1.2.2.2)]⟩
noncomputable def Ob {β : Type} (k : Nat) (v : (den fin)) (w : (den seg)) (K : KT β) (n : Nat) (x5_0 x99_0 x100_0 : Int) (m0_0 : (den fin)) : Option β := Bu (Nw k) Tryz.f161 [1, 1, 1, 1, 1, 1, 0, 1, 0] 0 (A1 (Nw k) [1, 1, 1, 1, 1, 1, 0, 1, 0] (Aa Tryz.f161) 0 (Xnb k v w K)) n (Xwn v w x5_0 x99_0 x100_0 m0_0)
def Kw {β : Type} (NX : Int → Int → Int → (den fin) → Option β) (RET : (den fin) → Option β) (k : Nat) (v : (den fin)) (w : (den seg)) (x5_0 x99_0 x100_0 : Int) (m0_0 : (den fin)) : Option β := cond (decide (x100_0 < x99_0)) (Bi x100_0 m0_0.2.2.2.2.2.2.2.1.2.2.2 (cond (decide ((Bd m0_0.2.2.2.2.2.2.2.1.2.2.2 x100_0).1 ≥ x5_0)) (RET m0_0) (NX x5_0 x99_0 (i64.wrap (x100_0 + 1)) m0_0))) (RET (m0_0.1, m0_0.2.1, m0_0.2.2.1, m0_0.2.2.2.1, m0_0.2.2.2.2.1, m0_0.2.2.2.2.2.1, m0_0.2.2.2.2.2.2.1, m0_0.2.2.2.2.2.2.2.1, m0_0.2.2.2.2.2.2.2.2.1, m0_0.2.2.2.2.2.2.2.2.2.1, m0_0.2.2.2.2.2.2.2.2.2.2.1, x5_0, m0_0.2.2.2.2.2.2.2.2.2.2.2.2))
def Hq (k : Nat) (v : (den fin)) (w : (den seg)) : Nat → Int → Int → Int → (den fin) → Option ((den fin))
 | 0, _, _, _, _ => none
 | n + 1, x5_0, x99_0, x100_0, m0_0 => Kw (Hq k v w n) some k v w x5_0 x99_0 x100_0 m0_0
theorem Xdr {β : Type} (k : Nat) (v : (den fin)) (w : (den seg)) (K : KT β) (n : Nat) : ∀ (x5_0 x99_0 x100_0 : Int) (m0_0 : (den fin)), Ob k v w K n x5_0 x99_0 x100_0 m0_0 =
  (Hq k v w n x5_0 x99_0 x100_0 m0_0).bind fun r => K (F161_O.put r) := by
 induction n with
 | zero => intros; rfl
 | succ n ih =>
  intro x5_0 x99_0 x100_0 m0_0
  refine Eq.trans (b := Kw (Ob k v w K n) (fun r => K (F161_O.put r)) k v w x5_0 x99_0 x100_0 m0_0) (by kernel_rfl) ?_
  rw [Hq]
  simp only [Kw, z1, z2, z3, z4, z5, Ao, A8, ih]
def Xq0 (v : (den fin)) (w : (den seg)) (x5_0 x100_0 : Int) : St := ⟨(.one (.ptr (.cell 0) 24 0)) :: dz 4 ((.one (vI x5_0)) :: dz 92 ((.one (.a (.cell 14) 0 0 none)) :: (.one (vI (v.2.2.2.2.2.2.2.1.2.2.2.length : Int))) :: (.one (vI x100_0)) :: dz 12 [])), Bc 0 (Cb B8 v) []⟩
noncomputable def Lt {β : Type} (k : Nat) (v : (den fin)) (w : (den seg)) (K : KT β) (n : Nat) (x5_0 x100_0 : Int) : Option β := Bu (Nw k) Tryz.f161 [1, 1, 1, 1, 1, 1, 0, 1, 0] 0 (A1 (Nw k) [1, 1, 1, 1, 1, 1, 0, 1, 0] (Aa Tryz.f161) 0 (Xnb k v w K)) n (Xq0 v w x5_0 x100_0)
def Ig {β : Type} (NX : Int → Int → Option β) (RET : (den fin) → Option β) (k : Nat) (v : (den fin)) (w : (den seg)) (x5_0 x100_0 : Int) : Option β := cond (decide (x100_0 < (v.2.2.2.2.2.2.2.1.2.2.2.length : Int))) (Bi x100_0 v.2.2.2.2.2.2.2.1.2.2.2 (cond (decide ((Bd v.2.2.2.2.2.2.2.1.2.2.2 x100_0).1 ≥ x5_0)) (RET v) (NX x5_0 (i64.wrap (x100_0 + 1))))) (RET (v.1, v.2.1, v.2.2.1, v.2.2.2.1, v.2.2.2.2.1, v.2.2.2.2.2.1, v.2.2.2.2.2.2.1, v.2.2.2.2.2.2.2.1, v.2.2.2.2.2.2.2.2.1, v.2.2.2.2.2.2.2.2.2.1, v.2.2.2.2.2.2.2.2.2.2.1, x5_0, v.2.2.2.2.2.2.2.2.2.2.2.2))
def Fh (k : Nat) (v : (den fin)) (w : (den seg)) : Nat → Int → Int → Option ((den fin))
 | 0, _, _ => none
 | n + 1, x5_0, x100_0 => Ig (Fh k v w n) some k v w x5_0 x100_0
theorem Xbz {β : Type} (k : Nat) (v : (den fin)) (w : (den seg)) (K : KT β) (n : Nat) : ∀ (x5_0 x100_0 : Int), Lt k v w K n x5_0 x100_0 =
  (Fh k v w n x5_0 x100_0).bind fun r => K (F161_O.put r) := by
 induction n with
 | zero => intros; rfl
 | succ n ih =>
  intro x5_0 x100_0
  refine Eq.trans (b := Ig (Lt k v w K n) (fun r => K (F161_O.put r)) k v w x5_0 x100_0) (by kernel_rfl) ?_
  rw [Fh]
  simp only [Ig, z1, z2, z3, z4, z5, Ao, A8, ih]
def Qq {β : Type} (k : Nat) (v : (den fin)) (w : (den seg)) (LP0 : Int → Int → Int → (den fin) → Option β) (LP0b : Int → Int → Option β) (RET : (den fin) → Option β) (b2 b3 : Int) : Option β := Ao v fun v0 v1 v2 v3 v4 v5 _ _ _ _ _ _ _ _ _ _ _ _ v18 _ _ _ _ _ => (Xcj k v.2.2.2.2.2.2.2.1 (i64.wrap (b2 + b3)) w.2.2.2.2.2.2.2.2.2.2).bind fun b5 => (F88 k b5).bind fun b6 => cond (!b6) (RET v) (cond (!w.2.2.2.2.2.2.2.1) (RET (v0, v1, v2, v3, v4, v5, v.2.2.2.2.2.2.1, b5, v.2.2.2.2.2.2.2.2)) (cond (decide (v18 ≥ 0)) (RET (v0, v1, v2, v3, v4, v5, v.2.2.2.2.2.2.1, b5, v.2.2.2.2.2.2.2.2)) ((Fs k b5).bind fun b7 => (Iy k (i64.wrap ((i64.wrap (b2 + b3)) + (w.2.2.2.2.2.2.2.2.2.2.length : Int))) b5.1 (if 1000000 < (i64.wrap (b5.1 + b7)) then 1000000 else i64.wrap (b5.1 + b7))).bind fun b8 => cond (!b8) (RET (v0, v1, v2, v3, v4, v5, v.2.2.2.2.2.2.1, b5, v.2.2.2.2.2.2.2.2)) (LP0 (i64.wrap ((i64.wrap (b2 + b3)) + (w.2.2.2.2.2.2.2.2.2.2.length : Int))) (b5.2.2.2.length : Int) 0 (v0, v1, v2, v3, v4, v5, v.2.2.2.2.2.2.1, b5, v.2.2.2.2.2.2.2.2)))))
def Qt {β : Type} (k : Nat) (v : (den fin)) (w : (den seg)) (LP0 : Int → Int → Int → (den fin) → Option β) (LP0b : Int → Int → Option β) (RET : (den fin) → Option β) (b2 b3 : Int) : Option β := cond (!w.2.2.2.2.2.2.2.1) (RET v) (cond (decide (v.2.2.2.2.2.2.2.2.2.2.2.1 ≥ 0)) (RET v) ((Fs k v.2.2.2.2.2.2.2.1).bind fun b13 => (Iy k (i64.wrap ((i64.wrap (b2 + b3)) + (w.2.2.2.2.2.2.2.2.2.2.length : Int))) v.2.2.2.2.2.2.2.1.1 (if 1000000 < (i64.wrap (v.2.2.2.2.2.2.2.1.1 + b13)) then 1000000 else i64.wrap (v.2.2.2.2.2.2.2.1.1 + b13))).bind fun b14 => cond (!b14) (RET v) (LP0b (i64.wrap ((i64.wrap (b2 + b3)) + (w.2.2.2.2.2.2.2.2.2.2.length : Int))) 0)))
def X5 {β : Type} (LP0 : Int → Int → Int → (den fin) → Option β) (LP0b : Int → Int → Option β) (RET : (den fin) → Option β) (k : Nat) (v : (den fin)) (w : (den seg)) : Option β := (Mr k v).bind fun b1 => (Zt k b1 w.2.2.1).bind fun b2 => (T5 k w.2.2.2.2.2.1 1).bind fun b3 => (Iy k (i64.wrap (b2 + b3)) 0 1000000).bind fun b4 => cond (!b4) (RET v) (cond (decide ((w.2.2.2.2.2.2.2.2.2.2.length : Int) > 0)) (cond (decide (v.2.2.2.2.2.2.2.2.2.2.2.1 < 0)) (Qq k v w LP0 LP0b RET b2 b3) (cond (decide ((i64.wrap ((i64.wrap (b2 + b3)) + (w.2.2.2.2.2.2.2.2.2.2.length : Int))) ≤ v.2.2.2.2.2.2.2.2.2.2.2.1)) (Qq k v w LP0 LP0b RET b2 b3) (Qt k v w LP0 LP0b RET b2 b3))) (Qt k v w LP0 LP0b RET b2 b3))
def Xf4 (k : Nat) (v : (den fin)) (w : (den seg)) : Option ((den fin)) := X5 (Hq k v w k) (Fh k v w k) some k v w
theorem Xtl {β : Type} (k : Nat) (v : (den fin)) (w : (den seg)) (K : KT β) : Ah (Nw k) Tryz.f161 (PsT.put Xf2 (v, w, ())) K = (Xf4 k v w).bind fun r => K (F161_O.put r) :=
 Eq.trans (b := X5 (Ob k v w K k) (Lt k v w K k) (fun r => K (F161_O.put r)) k v w) (by kernel_rfl) (by simp only [Xf4, X5, Qq, Qt, z1, z2, z3, z4, z5, Ao, A8, Xdr, Xbz])
def Xmb (k : Nat) : FD := ⟨161, Xf2, F161_O, Xf4 k⟩
theorem X4v (k : Nat) : (Xmb k).Ok Tryz.prog := ⟨fun x => Ab (Ak (Af (.c (Tm k) (.c (Xod k) (.c (Xdi k) (.c (Gc k) (.c (X13 k) (.c (Xlv k) (.c (Rb k) .n)))))))) _ _ _ _) Ai Tryz.func161 rfl rfl (Xtl k _ _ some), .of (by kernel_rfl)⟩
abbrev X60 (k : Nat) : Env := Bg (Ay [Zd k]) Aj .own [] k
abbrev Xyc : List PA := [.agg Cu]
abbrev F98_O : RO := ⟨[.v], [mI]⟩
def Xhz {β : Type} (RET : Int → Option β) (k : Nat) (v : (den seg)) : Option β := (T5 k v.2.2.2.2.2.1 1).bind fun b1 => (T5 k v.2.2.2.2.2.2.2.1 1).bind fun b2 => RET (i64.wrap ((i64.wrap ((v.2.2.2.2.2.2.2.2.2.2.length : Int) + b1)) + b2))
def F98 := Xhz (β := Int) some
theorem X0n {β : Type} (k : Nat) (v : (den seg)) (K : KT β) : Ah (X60 k) Tryz.f98 (PsT.put Xyc (v, ())) K = (F98 k v).bind fun r => K (F98_O.put r) :=
 Eq.trans (b := Xhz (fun r => K (F98_O.put r)) k v) (by kernel_rfl) (by simp only [F98, Xhz, z1, z2, z3, z4, z5, A8])
def Xyu (k : Nat) : FD := ⟨98, Xyc, F98_O, F98 k⟩
theorem X82 (k : Nat) : (Xyu k).Ok Tryz.prog := ⟨fun x => Ab (Ak (Af (.c (Xdi k) .n)) _ _ _ _) Ai Tryz.func98 rfl rfl (X0n k _ some), .of (by kernel_rfl)⟩
abbrev X2w (k : Nat) : Env := Bg (Ay [Ng k, Fk k]) Aj .own [] k
abbrev Xo3 : List PA := [.one mI, .one mI]
abbrev F162_O : RO := ⟨[.v], [mB]⟩
def Ye {β : Type} (RET : Bool → Option β) (k : Nat) (v w : Int) : Option β := (Qg k w).bind fun b1 => (Qg k v).bind fun b2 => (Qg k (i64.wrap (b1 - b2))).bind fun b3 => (Iy k b3 1 32767).bind fun b4 => RET b4
def Xbi := Ye (β := Bool) some
theorem Xvl {β : Type} (k : Nat) (v w : Int) (K : KT β) : Ah (X2w k) Tryz.f162 (PsT.put Xo3 (v, w, ())) K = (Xbi k v w).bind fun r => K (F162_O.put r) :=
 Eq.trans (b := Ye (fun r => K (F162_O.put r)) k v w) (by kernel_rfl) (by simp only [Xbi, Ye, z1, z2, z3, z4, z5])
def Xrh (k : Nat) : FD := ⟨162, Xo3, F162_O, Xbi k⟩
theorem X2l (k : Nat) : (Xrh k).Ok Tryz.prog := ⟨fun x => Ab (Ak (Af (.c (Pr k) (.c (Gc k) .n))) _ _ _ _) Ai Tryz.func162 rfl rfl (Xvl k _ _ some), .of (by kernel_rfl)⟩
abbrev X3m (k : Nat) : Env := Bg (Ay [O0 k, Xp6 k, Xmb k, Xej k, S5 k, Xyu k, Xdk k, Ng k, Xrh k]) Aj .own [(false, 0), (false, 1), (false, 2), (false, 3), (false, 4), (false, 5), (false, 6), (false, 7), (false, 8), (false, 9), (false, 10), (false, 11), (false, 12), (false, 13), (false, 14), (false, 15), (false, 16), (false, 17), (false, 18), (false, 19), (false, 20), (false, 21), (false, 22), (false, 23)] k
abbrev Xmx : List PA := [.p B8, .agg Cu, .one mI]
abbrev F127_O : RO := ⟨[.v], [.sl .own seg, B8]⟩
def Xa {β : Type} (RET : (Al × (den fin)) → Option β) (k : Nat) (v : (den fin)) (w : (den seg)) (p : Int) : Option β := (Mr k v).bind fun b1 => (U3 k v w).bind fun b2 => (Xf4 k b2.2 w).bind fun b3 => (Xe9 k b3).bind fun b4 => cond b2.1 ((Q9 k b4.2 p).bind fun b5 => cond ((b4.1.length : Int) == 0) ((F98 k w).bind fun b6 => cond (decide (b6 > 0)) ((Qe k b5).bind fun b7 => RET ([b7], b5)) ((Qg k b1).bind fun b8 => (Xbi k w.2.2.1 b8).bind fun b9 => cond b9 ((Qe k b5).bind fun b10 => RET ([b10], b5)) (RET (b4.1, b5)))) (RET (b4.1, b5))) (cond ((b4.1.length : Int) == 0) ((F98 k w).bind fun b11 => cond (decide (b11 > 0)) ((Qe k b4.2).bind fun b12 => RET ([b12], b4.2)) ((Qg k b1).bind fun b13 => (Xbi k w.2.2.1 b13).bind fun b14 => cond b14 ((Qe k b4.2).bind fun b15 => RET ([b15], b4.2)) (RET b4))) (RET b4))
def Xs := Xa (β := Al × (den fin)) some
theorem Xwl {β : Type} (k : Nat) (v : (den fin)) (w : (den seg)) (p : Int) (K : KT β) : Ah (X3m k) Tryz.f127 (PsT.put Xmx (v, w, p, ())) K = (Xs k v w p).bind fun r => K (F127_O.put r) :=
 Eq.trans (b := Xa (fun r => K (F127_O.put r)) k v w p) (by kernel_rfl) (by simp only [Xs, Xa, z1, z2, z3, z4, z5, Ao, A8])
def Xrf (k : Nat) : FD := ⟨127, Xmx, F127_O, Xs k⟩
theorem X33 (k : Nat) : (Xrf k).Ok Tryz.prog := ⟨fun x => Ab (Ak (Af (.c (Tm k) (.c (X4c k) (.c (X4v k) (.c (Xoi k) (.c (Xd k) (.c (X82 k) (.c (Xmn k) (.c (Pr k) (.c (X2l k) .n)))))))))) _ _ _ _) Ai Tryz.func127 rfl rfl (Xwl k _ _ _ some), .of (by kernel_rfl)⟩
abbrev X8h (k : Nat) : Env := Bg (Ay [Xnl k, Xmq k, Xcm k, Xpj k, Xrf k, S5 k, Ng k, Xct k]) Aj .own [(false, 0), (false, 1), (false, 2), (false, 3), (false, 4), (false, 5), (false, 6), (false, 7), (false, 8), (false, 9), (false, 10), (false, 11), (false, 12), (false, 13), (false, 14), (false, 15), (false, 16), (false, 17), (false, 18), (false, 19), (false, 20), (false, 21), (false, 22), (false, 23)] k
abbrev Xw6 : List PA := [.p B8, .one mI, .agg Cu, .one mI]
abbrev F65_O : RO := ⟨[.v], [.sl .own seg, B8]⟩
def Ps {β : Type} (RET : (Al × (den fin)) → Option β) (k : Nat) (v : (den fin)) (w : Int) (p : (den seg)) (q : Int) : Option β := A8 p fun _ _ p2 _ _ p5 p6 _ p8 _ _ => cond p8 ((Zg k v p).bind fun b1 => RET ([], b1)) (cond (v.1 == 1) (cond p5 (cond (!p6) ((Xdm k v w p q).bind fun b2 => RET b2) (RET ([], v))) (RET ([], v))) (cond (v.1 == 2) (cond p5 (cond (!p6) ((Xdm k v w p q).bind fun b3 => RET b3) (cond p5 ((X1 k v p).bind fun b4 => cond b4 ((Xc4 k v p q).bind fun b5 => RET b5) (RET ([], v))) (RET ([], v)))) (cond p5 ((X1 k v p).bind fun b6 => cond b6 ((Xc4 k v p q).bind fun b7 => RET b7) (RET ([], v))) (RET ([], v)))) (cond (v.1 == 3) ((X1 k v p).bind fun b8 => cond b8 ((Xs k (4, v.2) p q).bind fun b9 => (Q9 k b9.2 q).bind fun b10 => RET (b9.1, b10)) (cond p5 ((Qg k (i64.wrap (p2 + 1))).bind fun b11 => (Qg k v.2.2.2.2.2.2.2.1.1).bind fun b12 => cond (b11 == b12) ((Xd5 k v).bind fun b13 => RET ([b13], v)) (RET ([], v))) (RET ([], v)))) (cond (v.1 == 4) ((Xs k v p q).bind fun b14 => RET b14) (RET ([], v))))))
def Yt := Ps (β := Al × (den fin)) some
theorem X47 {β : Type} (k : Nat) (v : (den fin)) (w : Int) (p : (den seg)) (q : Int) (K : KT β) : Ah (X8h k) Tryz.f65 (PsT.put Xw6 (v, w, p, q, ())) K = (Yt k v w p q).bind fun r => K (F65_O.put r) :=
 Eq.trans (b := Ps (fun r => K (F65_O.put r)) k v w p q) (by kernel_rfl) (by simp only [Yt, Ps, z1, z2, z3, z4, z5, Ao, A8])
def Xw9 (k : Nat) : FD := ⟨65, Xw6, F65_O, Yt k⟩
theorem X6d (k : Nat) : (Xw9 k).Ok Tryz.prog := ⟨fun x => Ab (Ak (Af (.c (X2v k) (.c (X42 k) (.c (Xl2 k) (.c (X1b k) (.c (X33 k) (.c (Xd k) (.c (Pr k) (.c (Xl7 k) .n))))))))) _ _ _ _) Ai Tryz.func65 rfl rfl (X47 k _ _ _ _ some), .of (by kernel_rfl)⟩
abbrev X84 (k : Nat) : Env := Bg Ca Aj .own [] k
abbrev Xw3 : List PA := [.one (.sl .sown seg)]
abbrev F99_O : RO := ⟨[.v], [.sl .sown seg]⟩
def Xgf {β : Type} (RET : Al → Option β) (k : Nat) (v : Al) : Option β := cond (decide (0 ≤ (v.length : Int)) && decide ((v.length : Int) ≤ (v.length : Int))) (cond (decide ((v.length : Int) = (v.length : Int))) (RET ((v.take ((v.length : Int).toNat)).drop 0)) none) none
def F99 := Xgf (β := Al) some
theorem Xzn {β : Type} (k : Nat) (v : Al) (K : KT β) : Ah (X84 k) Tryz.f99 (PsT.put Xw3 (v, ())) K = (F99 k v).bind fun r => K (F99_O.put r) :=
 Eq.trans (b := Xgf (fun r => K (F99_O.put r)) k v) (by kernel_rfl) (by simp only [F99, Xgf, z1, z2, z3, z4, z5])
def Xxu (k : Nat) : FD := ⟨99, Xw3, F99_O, F99 k⟩
theorem X66 (k : Nat) : (Xxu k).Ok Tryz.prog := ⟨fun x => Ab (Ak .none _ _ _ _) Ai Tryz.func99 rfl rfl (Xzn k _ some), .of (by kernel_rfl)⟩
abbrev X6c (k : Nat) : Env := Bg (Ay [Xxu k]) Aj .ro [] k
abbrev Xyb : List PA := [.one (.sl .ro seg)]
abbrev F66_O : RO := ⟨[.v], [.sl .ro seg]⟩
def Xh5 {β : Type} (RET : Al → Option β) (k : Nat) (v : Al) : Option β := cond ((v.length : Int) == 0) (RET []) (Bp (([] : Al).length) (v.length) 96 ((F99 k ([] ++ v)).bind fun b1 => RET b1))
def F66 := Xh5 (β := Al) some
theorem X4n {β : Type} (k : Nat) (v : Al) (K : KT β) : Ah (X6c k) Tryz.f66 (PsT.put Xyb (v, ())) K = (F66 k v).bind fun r => K (F66_O.put r) :=
 Eq.trans (b := Xh5 (fun r => K (F66_O.put r)) k v) (by kernel_rfl) (by simp only [F66, Xh5, z1, z2, z3, z4, z5])
def Xy2 (k : Nat) : FD := ⟨66, Xyb, F66_O, F66 k⟩
theorem X8g (k : Nat) : (Xy2 k).Ok Tryz.prog := ⟨fun x => Ab (Ak (Af (.c (X66 k) .n)) _ _ _ _) Ai Tryz.func66 rfl rfl (X4n k _ some), .of (by kernel_rfl)⟩
abbrev X6k (k : Nat) : Env := Bg (Ay [Xx2 k, Xa9 k, Xg3 k, Xxv k, Xw9 k, Xy2 k]) Aj .ro [] k
abbrev Xyr : List PA := [.agg (.pair mI (.pair mI Cp)), .one mI, .agg Cu, .one mI]
abbrev F12_O : RO := ⟨[.a, .v], [.pair mI (.pair mI Cp), .sl .ro seg]⟩
def Xf9 {β : Type} (RET : (den fin) × Al → Option β) (k : Nat) (v : (den fin)) (w : Int) (p : (den seg)) (q : Int) : Option β := (F62 k v q).bind fun b1 => cond (!b1) (RET ((0, 0, 0, 0, 0, 0, (0, [], 0, 0, []), (0, 0, [], []), false, false, false, 0, 0, 0, 0, 0, 0), [])) ((F63 k w).bind fun b2 => cond (!b2) (RET ((0, 0, 0, 0, 0, 0, (0, [], 0, 0, []), (0, 0, [], []), false, false, false, 0, 0, 0, 0, 0, 0), [])) ((F25 k p).bind fun b3 => cond (!b3) (RET ((0, 0, 0, 0, 0, 0, (0, [], 0, 0, []), (0, 0, [], []), false, false, false, 0, 0, 0, 0, 0, 0), [])) ((F64 k v).bind fun b4 => cond (p.2.1 != v.2.2.1) (RET (b4, [])) (cond (v.2.2.2.2.1 != 0) (cond (w != v.2.2.2.1) (RET (b4, [])) (cond (p.1 != v.2.2.2.2.1) (RET (b4, [])) ((Yt k b4 w p q).bind fun b5 => (F64 k b5.2).bind fun b6 => (F66 k b5.1).bind fun b7 => RET (b6, b7)))) ((Yt k b4 w p q).bind fun b8 => (F64 k b8.2).bind fun b9 => (F66 k b8.1).bind fun b10 => RET (b9, b10))))))
def F12 := Xf9 (β := (den fin) × Al) some
theorem X5v {β : Type} (k : Nat) (v : (den fin)) (w : Int) (p : (den seg)) (q : Int) (K : KT β) : Ah (X6k k) Tryz.f12 (PsT.put Xyr (v, w, p, q, ())) K = (F12 k v w p q).bind fun r => K (F12_O.put r) :=
 Eq.trans (b := Xf9 (fun r => K (F12_O.put r)) k v w p q) (by kernel_rfl) (by simp only [F12, Xf9, z1, z2, z3, z4, z5, Ao, A8])
def Xyn (k : Nat) : FD := ⟨12, Xyr, F12_O, F12 k⟩
theorem X6t (k : Nat) : (Xyn k).Ok Tryz.prog := ⟨fun x => Ab (Ak (Af (.c (X73 k) (.c (Xig k) (.c (Xrq k) (.c (X7q k) (.c (X6d k) (.c (X8g k) .n))))))) _ _ _ _) Ai Tryz.func12 rfl rfl (X5v k _ _ _ _ some), .of (by kernel_rfl)⟩
def X0d : Nat → Hint
 | 0 => ⟨pl 0 1 (pl 5 2 []), pl 8000 1 []⟩
 | _ => ⟨[], []⟩
abbrev X2 (k : Nat) : Env := Bg Ca X0d .own [] k
abbrev Xe4 : List PA := [.one mI, .one mI]
abbrev F146_O : RO := ⟨[.v], [.sl .own (.int .u8)]⟩
noncomputable def Xzv {β : Type} (k : Nat) (v w : Int) (K : KT β) : Ex → St → Option β := Cz (X2 k) Tryz.f146 (PsT.put Xe4 (v, w, ())) K
def Xvf (v w : Int) (x0_0 x6_0 : Int) (m8000_0 : Ad) : St := ⟨(.one (vI x0_0)) :: dz 4 ((.one (.a (.cell 8000) 0 0 none)) :: (.one (vI x6_0)) :: dz 16 []), [eM 8000 (.s .own (.int .u8) m8000_0)]⟩
noncomputable def Pf {β : Type} (k : Nat) (v w : Int) (K : KT β) (n : Nat) (x0_0 x6_0 : Int) (m8000_0 : Ad) : Option β := Bu (X2 k) Tryz.f146 [1, 1, 0, 1, 0] 0 (A1 (X2 k) [1, 1, 0, 1, 0] (Aa Tryz.f146) 0 (Xzv k v w K)) n (Xvf v w x0_0 x6_0 m8000_0)
def N0 {β : Type} (NX : Int → Int → Ad → Option β) (RET : Ad → Option β) (k : Nat) (v w : Int) (x0_0 x6_0 : Int) (m8000_0 : Ad) : Option β := cond (decide (x6_0 ≥ 0)) (Bi x6_0 m8000_0 (NX (x0_0.fdiv (2 ^ (8))) (i64.wrap (x6_0 - 1)) (m8000_0.set x6_0.toNat (u8.wrap x0_0)))) (RET m8000_0)
def Qr (k : Nat) (v w : Int) : Nat → Int → Int → Ad → Option (Ad)
 | 0, _, _, _ => none
 | n + 1, x0_0, x6_0, m8000_0 => N0 (Qr k v w n) some k v w x0_0 x6_0 m8000_0
theorem Xc8 {β : Type} (k : Nat) (v w : Int) (K : KT β) (n : Nat) : ∀ (x0_0 x6_0 : Int) (m8000_0 : Ad), Pf k v w K n x0_0 x6_0 m8000_0 =
  (Qr k v w n x0_0 x6_0 m8000_0).bind fun r => K (F146_O.put r) := by
 induction n with
 | zero => intros; rfl
 | succ n ih =>
  intro x0_0 x6_0 m8000_0
  refine Eq.trans (b := N0 (Pf k v w K n) (fun r => K (F146_O.put r)) k v w x0_0 x6_0 m8000_0) (by kernel_rfl) ?_
  rw [Qr]
  simp only [N0, z1, z2, z3, z4, z5, ih]
def Xcs {β : Type} (LP0 : Int → Int → Ad → Option β) (k : Nat) (v w : Int) : Option β := cond (decide (0 ≤ w) && decide (w = w) && decide (w * (1 : Nat) ≤ 140737488355328)) (LP0 v (i64.wrap (w - 1)) (List.replicate w.toNat (Bz (.int .u8)))) none
def Xt3 (k : Nat) (v w : Int) : Option (Ad) := Xcs (Qr k v w k) k v w
theorem Xwp {β : Type} (k : Nat) (v w : Int) (K : KT β) : Ah (X2 k) Tryz.f146 (PsT.put Xe4 (v, w, ())) K = (Xt3 k v w).bind fun r => K (F146_O.put r) :=
 Eq.trans (b := Xcs (Pf k v w K k) k v w) (by kernel_rfl) (by simp only [Xt3, Xcs, z1, z2, z3, z4, z5, Xc8])
def Xqx (k : Nat) : FD := ⟨146, Xe4, F146_O, Xt3 k⟩
theorem Xz6 (k : Nat) : (Xqx k).Ok Tryz.prog := ⟨fun x => Ab (Ak .none _ _ _ _) Ai Tryz.func146 rfl rfl (Xwp k _ _ some), .of (by kernel_rfl)⟩
abbrev X8u (k : Nat) : Env := Bg (Ay [Fk k, Xqx k]) Aj .own [] k
abbrev Xy9 : List PA := [.one mI, .one mI]
abbrev F94_O : RO := ⟨[.v], [.sl .own (.int .u8)]⟩
def Xgt {β : Type} (RET : Ad → Option β) (k : Nat) (v w : Int) : Option β := (Iy k w 1 4).bind fun b1 => cond (!b1) (RET []) (cond (decide ((i64.wrap (8 * w)) < 0)) none ((Iy k v 0 (i64.wrap ((i64.wrap (1 * 2 ^ (min (i64.wrap (8 * w)).toNat 64))) - 1))).bind fun b2 => cond (!b2) (RET []) ((Xt3 k v w).bind fun b3 => RET b3)))
def F94 := Xgt (β := Ad) some
theorem X15 {β : Type} (k : Nat) (v w : Int) (K : KT β) : Ah (X8u k) Tryz.f94 (PsT.put Xy9 (v, w, ())) K = (F94 k v w).bind fun r => K (F94_O.put r) :=
 Eq.trans (b := Xgt (fun r => K (F94_O.put r)) k v w) (by kernel_rfl) (by simp only [F94, Xgt, z1, z2, z3, z4, z5])
def Xxi (k : Nat) : FD := ⟨94, Xy9, F94_O, F94 k⟩
theorem X79 (k : Nat) : (Xxi k).Ok Tryz.prog := ⟨fun x => Ab (Ak (Af (.c (Gc k) (.c (Xz6 k) .n))) _ _ _ _) Ai Tryz.func94 rfl rfl (X15 k _ _ some), .of (by kernel_rfl)⟩
end
end Go.Proofs.YtjkkbmkkljpcjaaGreat.Gn
end

section
set_option linter.unusedVariables false
set_option linter.unusedSimpArgs false
namespace Go.Proofs.YtjkkbmkkljpcjaaGreat.Gn
open Go.Rf IntKind
noncomputable section
abbrev X6e (k : Nat) : Env := Bg Ca Aj .own [] k
abbrev Xzc : List PA := [.one (.sl .ro (.int .u8)), .one (.sl .ro (.int .u8))]
abbrev F27_O : RO := ⟨[.v], [mB]⟩
def F27 (k : Nat) (v w : Ad) : Option (Bool) := some ((La v).toList == (La w).toList)
theorem X07 {β : Type} (k : Nat) (v w : Ad) (K : KT β) : Ah (X6e k) Tryz.f27 (PsT.put Xzc (v, w, ())) K = (F27 k v w).bind fun r => K (F27_O.put r) :=
 Eq.trans (b := K (F27_O.put ((La v).toList == (La w).toList))) (by kernel_rfl) (by simp only [F27, z1, z2, z3, z4, z5])
def Xbt (k : Nat) : FD := ⟨27, Xzc, F27_O, F27 k⟩
theorem Xgp (k : Nat) : (Xbt k).Ok Tryz.prog := ⟨fun x => Ab (Ak .none _ _ _ _) Ai Tryz.func27 rfl rfl (X07 k _ _ some), .of (by kernel_rfl)⟩
def X11 : Nat → Hint
 | 0 => ⟨pl 0 2 (pl 5 1 []), []⟩
 | _ => ⟨[], []⟩
abbrev X7 (k : Nat) : Env := Bg Ca X11 .own [] k
abbrev Xen : List PA := [.one (.sl .ro Ap), .one (.sl .ro Ap)]
abbrev F100_O : RO := ⟨[.v], [mB]⟩
noncomputable def X48 {β : Type} (k : Nat) (v w : Ae) (K : KT β) : Ex → St → Option β := Cz (X7 k) Tryz.f100 (PsT.put Xen (v, w, ())) K
def Xva (v w : Ae) (x5_0 : Int) : St := ⟨(.one (.s .ro Ap v)) :: (.one (.s .ro Ap w)) :: dz 3 ((.one (vI x5_0)) :: dz 20 []), []⟩
noncomputable def Oa {β : Type} (k : Nat) (v w : Ae) (K : KT β) (n : Nat) (x5_0 : Int) : Option β := Bu (X7 k) Tryz.f100 [1, 1, 0, 1, 0] 0 (A1 (X7 k) [1, 1, 0, 1, 0] (Aa Tryz.f100) 0 (X48 k v w K)) n (Xva v w x5_0)
def G6 {β : Type} (NX : Int → Option β) (RET : Bool → Option β) (k : Nat) (v w : Ae) (x5_0 : Int) : Option β := cond (decide (x5_0 < (v.length : Int))) (Bi x5_0 v (Bi x5_0 w (cond (!(eqD Ap (Bd v x5_0) (Bd w x5_0))) (RET false) (NX (i64.wrap (x5_0 + 1)))))) (RET true)
def Id (k : Nat) (v w : Ae) : Nat → Int → Option (Bool)
 | 0, _ => none
 | n + 1, x5_0 => G6 (Id k v w n) some k v w x5_0
theorem Xd0 {β : Type} (k : Nat) (v w : Ae) (K : KT β) (n : Nat) : ∀ (x5_0 : Int), Oa k v w K n x5_0 =
  (Id k v w n x5_0).bind fun r => K (F100_O.put r) := by
 induction n with
 | zero => intros; rfl
 | succ n ih =>
  intro x5_0
  refine Eq.trans (b := G6 (Oa k v w K n) (fun r => K (F100_O.put r)) k v w x5_0) (by kernel_rfl) ?_
  rw [Id]
  simp only [G6, z1, z2, z3, z4, z5, ih]
def Xl {β : Type} (LP0 : Int → Option β) (RET : Bool → Option β) (k : Nat) (v w : Ae) : Option β := cond ((v.length : Int) != (w.length : Int)) (RET false) (LP0 0)
def Xfr (k : Nat) (v w : Ae) : Option (Bool) := Xl (Id k v w k) some k v w
theorem Xvn {β : Type} (k : Nat) (v w : Ae) (K : KT β) : Ah (X7 k) Tryz.f100 (PsT.put Xen (v, w, ())) K = (Xfr k v w).bind fun r => K (F100_O.put r) :=
 Eq.trans (b := Xl (Oa k v w K k) (fun r => K (F100_O.put r)) k v w) (by kernel_rfl) (by simp only [Xfr, Xl, z1, z2, z3, z4, z5, Xd0])
def Xcq (k : Nat) : FD := ⟨100, Xen, F100_O, Xfr k⟩
theorem Xpn (k : Nat) : (Xcq k).Ok Tryz.prog := ⟨fun x => Ab (Ak .none _ _ _ _) Ai Tryz.func100 rfl rfl (Xvn k _ _ some), .of (by kernel_rfl)⟩
abbrev X7r (k : Nat) : Env := Bg (Ay [Xbt k, Xcq k]) Aj .own [] k
abbrev Xxr : List PA := [.agg (.pair mI m_3), .agg (.pair mI m_3)]
abbrev F31_O : RO := ⟨[.v], [mB]⟩
def Xic {β : Type} (RET : Bool → Option β) (k : Nat) (v w : (den Co)) : Option β := Bn v fun v0 v1 v2 v3 v4 => Bn w fun w0 w1 w2 w3 w4 => cond (v0 == w0) (cond (v2 == w2) (cond (v3 == w3) ((F27 k v1 w1).bind fun b1 => cond b1 ((Xfr k v4 w4).bind fun b2 => RET b2) (RET false)) (RET false)) (RET false)) (RET false)
def F31 := Xic (β := Bool) some
theorem Xzq {β : Type} (k : Nat) (v w : (den Co)) (K : KT β) : Ah (X7r k) Tryz.f31 (PsT.put Xxr (v, w, ())) K = (F31 k v w).bind fun r => K (F31_O.put r) :=
 Eq.trans (b := Xic (fun r => K (F31_O.put r)) k v w) (by kernel_rfl) (by simp only [F31, Xic, z1, z2, z3, z4, z5, Bn])
def Xxp (k : Nat) : FD := ⟨31, Xxr, F31_O, F31 k⟩
theorem X8b (k : Nat) : (Xxp k).Ok Tryz.prog := ⟨fun x => Ab (Ak (Af (.c (Xgp k) (.c (Xpn k) .n))) _ _ _ _) Ai Tryz.func31 rfl rfl (Xzq k _ _ some), .of (by kernel_rfl)⟩
def X7t : Nat → Hint
 | 0 => ⟨pl 2 2 (pl 5 1 []), pl 2000 4 (pl 3000 4 [])⟩
 | _ => ⟨[], []⟩
abbrev Xhl (k : Nat) : Env := Bg (Ay [Xbt k]) X7t .own [] k
abbrev Xr8 : List PA := [.agg (.pair mI (.pair mI U7)), .agg (.pair mI (.pair mI U7))]
abbrev F32_O : RO := ⟨[.v], [mB]⟩
noncomputable def X7v {β : Type} (k : Nat) (v w : (den A9)) (K : KT β) : Ex → St → Option β := Cz (Xhl k) Tryz.f32 (PsT.put Xr8 (v, w, ())) K
def X5z (v w : (den A9)) (x5_0 : Int) : St := ⟨(.one .d) :: (.one .d) :: (.one (.ptr (.cell 2000) 4 0)) :: (.one (.ptr (.cell 3000) 4 0)) :: (.one .d) :: (.one (vI x5_0)) :: dz 47 [], Bc 2000 (Cb (.pair mI (.pair mI U7)) v) (Bc 3000 (Cb (.pair mI (.pair mI U7)) w) [])⟩
noncomputable def T0 {β : Type} (k : Nat) (v w : (den A9)) (K : KT β) (n : Nat) (x5_0 : Int) : Option β := Bu (Xhl k) Tryz.f32 [1, 1, 0, 1, 0] 0 (A1 (Xhl k) [1, 1, 0, 1, 0] (Aa Tryz.f32) 0 (X7v k v w K)) n (X5z v w x5_0)
def Jp {β : Type} (NX : Int → Option β) (RET : Bool → Option β) (k : Nat) (v w : (den A9)) (x5_0 : Int) : Option β := cond (decide (x5_0 < (v.2.2.2.length : Int))) (Bi x5_0 v.2.2.2 (Bi x5_0 w.2.2.2 (cond (!(eqD Av (Bd v.2.2.2 x5_0) (Bd w.2.2.2 x5_0))) (RET false) (NX (i64.wrap (x5_0 + 1)))))) (RET true)
def Lz (k : Nat) (v w : (den A9)) : Nat → Int → Option (Bool)
 | 0, _ => none
 | n + 1, x5_0 => Jp (Lz k v w n) some k v w x5_0
theorem Xiv {β : Type} (k : Nat) (v w : (den A9)) (K : KT β) (n : Nat) : ∀ (x5_0 : Int), T0 k v w K n x5_0 =
  (Lz k v w n x5_0).bind fun r => K (F32_O.put r) := by
 induction n with
 | zero => intros; rfl
 | succ n ih =>
  intro x5_0
  refine Eq.trans (b := Jp (T0 k v w K n) (fun r => K (F32_O.put r)) k v w x5_0) (by kernel_rfl) ?_
  rw [Lz]
  simp only [Jp, z1, z2, z3, z4, z5, Bs, ih]
def Xgv {β : Type} (LP0 : Int → Option β) (RET : Bool → Option β) (k : Nat) (v w : (den A9)) : Option β := cond (v.1 != w.1) (RET false) (cond (v.2.1 != w.2.1) (RET false) ((F27 k v.2.2.1 w.2.2.1).bind fun b1 => cond (!b1) (RET false) (cond ((v.2.2.2.length : Int) != (w.2.2.2.length : Int)) (RET false) (LP0 0))))
def F32 (k : Nat) (v w : (den A9)) : Option (Bool) := Xgv (Lz k v w k) some k v w
theorem X3k {β : Type} (k : Nat) (v w : (den A9)) (K : KT β) : Ah (Xhl k) Tryz.f32 (PsT.put Xr8 (v, w, ())) K = (F32 k v w).bind fun r => K (F32_O.put r) :=
 Eq.trans (b := Xgv (T0 k v w K k) (fun r => K (F32_O.put r)) k v w) (by kernel_rfl) (by simp only [F32, Xgv, z1, z2, z3, z4, z5, Bs, Xiv])
def Xxs (k : Nat) : FD := ⟨32, Xr8, F32_O, F32 k⟩
theorem X67 (k : Nat) : (Xxs k).Ok Tryz.prog := ⟨fun x => Ab (Ak (Af (.c (Xgp k) .n)) _ _ _ _) Ai Tryz.func32 rfl rfl (X3k k _ _ some), .of (by kernel_rfl)⟩
abbrev X7a (k : Nat) : Env := Bg (Ay [Xxp k, Xxs k]) Aj .own [] k
abbrev Xy7 : List PA := [.agg (.pair mI (.pair mI Cp)), .agg (.pair mI (.pair mI Cp))]
abbrev F22_O : RO := ⟨[.v], [mB]⟩
def Xgw {β : Type} (RET : Bool → Option β) (k : Nat) (v w : (den fin)) : Option β := Ao v fun v0 v1 v2 v3 v4 v5 _ _ _ _ _ _ _ _ _ v15 v16 v17 v18 v19 v20 v21 v22 v23 => Ao w fun w0 w1 w2 w3 w4 w5 _ _ _ _ _ _ _ _ _ w15 w16 w17 w18 w19 w20 w21 w22 w23 => (F31 k v.2.2.2.2.2.2.1 w.2.2.2.2.2.2.1).bind fun b1 => cond (!b1) (RET false) ((F32 k v.2.2.2.2.2.2.2.1 w.2.2.2.2.2.2.2.1).bind fun b2 => cond (!b2) (RET false) (cond (!(eqD Uw (v21, v22, v23) (w21, w22, w23))) (RET false) (cond (v0 != w0) (RET false) (cond (v1 != w1) (RET false) (cond (v2 != w2) (RET false) (cond (v3 != w3) (RET false) (cond (v4 != w4) (RET false) (cond (v5 != w5) (RET false) (cond (v15 == w15) (cond (v16 == w16) (cond (v17 == w17) (cond (v18 == w18) (cond (v19 == w19) (RET (v20 == w20)) (RET false)) (RET false)) (RET false)) (RET false)) (RET false))))))))))
def F22 := Xgw (β := Bool) some
theorem X03 {β : Type} (k : Nat) (v w : (den fin)) (K : KT β) : Ah (X7a k) Tryz.f22 (PsT.put Xy7 (v, w, ())) K = (F22 k v w).bind fun r => K (F22_O.put r) :=
 Eq.trans (b := Xgw (fun r => K (F22_O.put r)) k v w) (by kernel_rfl) (by simp only [F22, Xgw, z1, z2, z3, z4, z5, Ao])
def Xxo (k : Nat) : FD := ⟨22, Xy7, F22_O, F22 k⟩
theorem X6i (k : Nat) : (Xxo k).Ok Tryz.prog := ⟨fun x => Ab (Ak (Af (.c (X8b k) (.c (X67 k) .n))) _ _ _ _) Ai Tryz.func22 rfl rfl (X03 k _ _ some), .of (by kernel_rfl)⟩
abbrev X83 (k : Nat) : Env := Bg (Ay [Xcq k, Xbt k]) Aj .own [] k
abbrev Xw4 : List PA := [.agg Cu, .agg Cu]
abbrev F84_O : RO := ⟨[.v], [mB]⟩
def Xif {β : Type} (RET : Bool → Option β) (k : Nat) (v w : (den seg)) : Option β := A8 v fun v0 v1 v2 v3 v4 v5 v6 v7 v8 v9 v10 => A8 w fun w0 w1 w2 w3 w4 w5 w6 w7 w8 w9 w10 => cond (v0 == w0) (cond (v1 == w1) (cond (v2 == w2) (cond (v3 == w3) (cond (v4 == w4) (cond (v5 == w5) (cond (v6 == w6) (cond (v7 == w7) (cond (v8 == w8) ((Xfr k v9 w9).bind fun b1 => cond b1 ((F27 k v10 w10).bind fun b2 => RET b2) (RET false)) (RET false)) (RET false)) (RET false)) (RET false)) (RET false)) (RET false)) (RET false)) (RET false)) (RET false)
def F84 := Xif (β := Bool) some
theorem X49 {β : Type} (k : Nat) (v w : (den seg)) (K : KT β) : Ah (X83 k) Tryz.f84 (PsT.put Xw4 (v, w, ())) K = (F84 k v w).bind fun r => K (F84_O.put r) :=
 Eq.trans (b := Xif (fun r => K (F84_O.put r)) k v w) (by kernel_rfl) (by simp only [F84, Xif, z1, z2, z3, z4, z5, A8])
def Xyy (k : Nat) : FD := ⟨84, Xw4, F84_O, F84 k⟩
theorem X6b (k : Nat) : (Xyy k).Ok Tryz.prog := ⟨fun x => Ab (Ak (Af (.c (Xpn k) (.c (Xgp k) .n))) _ _ _ _) Ai Tryz.func84 rfl rfl (X49 k _ _ some), .of (by kernel_rfl)⟩
def X7h : Nat → Hint
 | 0 => ⟨pl 0 2 (pl 5 1 []), []⟩
 | _ => ⟨[], []⟩
abbrev Xh8 (k : Nat) : Env := Bg (Ay [Xyy k]) X7h .own [] k
abbrev Xrb : List PA := [.one (.sl .ro seg), .one (.sl .ro seg)]
abbrev F23_O : RO := ⟨[.v], [mB]⟩
noncomputable def X7x {β : Type} (k : Nat) (v w : Al) (K : KT β) : Ex → St → Option β := Cz (Xh8 k) Tryz.f23 (PsT.put Xrb (v, w, ())) K
def X0l (v w : Al) (x5_0 : Int) : St := ⟨(.one (.s .ro seg v)) :: (.one (.s .ro seg w)) :: dz 3 ((.one (vI x5_0)) :: dz 21 []), []⟩
noncomputable def Sl {β : Type} (k : Nat) (v w : Al) (K : KT β) (n : Nat) (x5_0 : Int) : Option β := Bu (Xh8 k) Tryz.f23 [1, 1, 0, 1, 0] 0 (A1 (Xh8 k) [1, 1, 0, 1, 0] (Aa Tryz.f23) 0 (X7x k v w K)) n (X0l v w x5_0)
def I2 {β : Type} (NX : Int → Option β) (RET : Bool → Option β) (k : Nat) (v w : Al) (x5_0 : Int) : Option β := cond (decide (x5_0 < (v.length : Int))) (Bi x5_0 v (Bi x5_0 w ((F84 k (Bd v x5_0) (Bd w x5_0)).bind fun b1 => cond (!b1) (RET false) (NX (i64.wrap (x5_0 + 1)))))) (RET true)
def Lk (k : Nat) (v w : Al) : Nat → Int → Option (Bool)
 | 0, _ => none
 | n + 1, x5_0 => I2 (Lk k v w n) some k v w x5_0
theorem Xku {β : Type} (k : Nat) (v w : Al) (K : KT β) (n : Nat) : ∀ (x5_0 : Int), Sl k v w K n x5_0 =
  (Lk k v w n x5_0).bind fun r => K (F23_O.put r) := by
 induction n with
 | zero => intros; rfl
 | succ n ih =>
  intro x5_0
  refine Eq.trans (b := I2 (Sl k v w K n) (fun r => K (F23_O.put r)) k v w x5_0) (by kernel_rfl) ?_
  rw [Lk]
  simp only [I2, z1, z2, z3, z4, z5, ih]
def Xiq {β : Type} (LP0 : Int → Option β) (RET : Bool → Option β) (k : Nat) (v w : Al) : Option β := cond ((v.length : Int) != (w.length : Int)) (RET false) (LP0 0)
def F23 (k : Nat) (v w : Al) : Option (Bool) := Xiq (Lk k v w k) some k v w
theorem X3a {β : Type} (k : Nat) (v w : Al) (K : KT β) : Ah (Xh8 k) Tryz.f23 (PsT.put Xrb (v, w, ())) K = (F23 k v w).bind fun r => K (F23_O.put r) :=
 Eq.trans (b := Xiq (Sl k v w K k) (fun r => K (F23_O.put r)) k v w) (by kernel_rfl) (by simp only [F23, Xiq, z1, z2, z3, z4, z5, Xku])
def Xyz (k : Nat) : FD := ⟨23, Xrb, F23_O, F23 k⟩
theorem X77 (k : Nat) : (Xyz k).Ok Tryz.prog := ⟨fun x => Ab (Ak (Af (.c (X6b k) .n)) _ _ _ _) Ai Tryz.func23 rfl rfl (X3a k _ _ some), .of (by kernel_rfl)⟩
abbrev X59 (k : Nat) : Env := Bg (Ay [Xxi k]) Aj .own [] k
abbrev Xw7 : List PA := []
abbrev F26_O : RO := ⟨[.v], [mB]⟩
def Xh9 {β : Type} (RET : Bool → Option β) (k : Nat) : Option β := (F94 k 5 1).bind fun b1 => cond ((b1.length : Int) == 1) ((F94 k 256 1).bind fun b2 => RET ((b2.length : Int) == 0)) (RET false)
def F26 := Xh9 (β := Bool) some
theorem X24 {β : Type} (k : Nat) (K : KT β) : Ah (X59 k) Tryz.f26 (PsT.put Xw7 (())) K = (F26 k).bind fun r => K (F26_O.put r) :=
 Eq.trans (b := Xh9 (fun r => K (F26_O.put r)) k) (by kernel_rfl) (by simp only [F26, Xh9, z1, z2, z3, z4, z5])
def Xxb (k : Nat) : FD := ⟨26, Xw7, F26_O, F26 k⟩
theorem X68 (k : Nat) : (Xxb k).Ok Tryz.prog := ⟨fun x => Ab (Ak (Af (.c (X79 k) .n)) _ _ _ _) Ai Tryz.func26 rfl rfl (X24 k some), .of (by kernel_rfl)⟩
def X6f : Nat → Hint
 | 0 => ⟨pl 0 1 (pl 3 1 []), []⟩
 | _ => ⟨[], []⟩
abbrev Xhw (k : Nat) : Env := Bg (Ay [Xg3 k]) X6f .own [] k
abbrev Xr2 : List PA := [.one (.sl .ro seg)]
abbrev F28_O : RO := ⟨[.v], [mB]⟩
noncomputable def X8z {β : Type} (k : Nat) (v : Al) (K : KT β) : Ex → St → Option β := Cz (Xhw k) Tryz.f28 (PsT.put Xr2 (v, ())) K
def X3e (v : Al) (x3_0 : Int) : St := ⟨(.one (.s .ro seg v)) :: (.one .d) :: (.one .d) :: (.one (vI x3_0)) :: dz 12 [], []⟩
noncomputable def Rx {β : Type} (k : Nat) (v : Al) (K : KT β) (n : Nat) (x3_0 : Int) : Option β := Bu (Xhw k) Tryz.f28 [1, 0, 1, 0] 0 (A1 (Xhw k) [1, 0, 1, 0] (Aa Tryz.f28) 0 (X8z k v K)) n (X3e v x3_0)
def Ju {β : Type} (NX : Int → Option β) (RET : Bool → Option β) (k : Nat) (v : Al) (x3_0 : Int) : Option β := cond (decide (x3_0 < (v.length : Int))) (Bi x3_0 v ((F25 k (Bd v x3_0)).bind fun b1 => cond (!b1) (RET false) (NX (i64.wrap (x3_0 + 1))))) (RET true)
def Lu (k : Nat) (v : Al) : Nat → Int → Option (Bool)
 | 0, _ => none
 | n + 1, x3_0 => Ju (Lu k v n) some k v x3_0
theorem Xjx {β : Type} (k : Nat) (v : Al) (K : KT β) (n : Nat) : ∀ (x3_0 : Int), Rx k v K n x3_0 =
  (Lu k v n x3_0).bind fun r => K (F28_O.put r) := by
 induction n with
 | zero => intros; rfl
 | succ n ih =>
  intro x3_0
  refine Eq.trans (b := Ju (Rx k v K n) (fun r => K (F28_O.put r)) k v x3_0) (by kernel_rfl) ?_
  rw [Lu]
  simp only [Ju, z1, z2, z3, z4, z5, ih]
def Xoy {β : Type} (LP0 : Int → Option β) (k : Nat) (v : Al) : Option β := LP0 0
def F28 (k : Nat) (v : Al) : Option (Bool) := Xoy (Lu k v k) k v
theorem X3x {β : Type} (k : Nat) (v : Al) (K : KT β) : Ah (Xhw k) Tryz.f28 (PsT.put Xr2 (v, ())) K = (F28 k v).bind fun r => K (F28_O.put r) :=
 Eq.trans (b := Xoy (Rx k v K k) k v) (by kernel_rfl) (by simp only [F28, Xoy, z1, z2, z3, z4, z5, Xjx])
def Xyf (k : Nat) : FD := ⟨28, Xr2, F28_O, F28 k⟩
theorem X6q (k : Nat) : (Xyf k).Ok Tryz.prog := ⟨fun x => Ab (Ak (Af (.c (Xrq k) .n)) _ _ _ _) Ai Tryz.func28 rfl rfl (X3x k _ some), .of (by kernel_rfl)⟩
def F4_h : Nat → Hint
 | 0 => ⟨pl 3 1 (pl 7 2 (pl 11 1 [])), pl 3000 24 (pl 7000 24 [])⟩
 | _ => ⟨[], []⟩
abbrev Xws (k : Nat) : Env := Bg (Ay [Xx0 k, Xyn k, X5y k, Xxo k, Xyz k, Xna k, Xxb k, Xg3 k, Xbt k, Xyf k]) F4_h .own [] k
abbrev X2p : List PA := [.one (.sl .ro (.int .u8))]
abbrev F4_O : RO := ⟨[.v], [mB]⟩
noncomputable def F4_z {β : Type} (k : Nat) (v : Ad) (K : KT β) : Ex → St → Option β := Cz (Xws k) Tryz.f4 (PsT.put X2p (v, ())) K
def X8m (v : Ad) (x8_0 : Al) (x11_0 : Int) (m3000_0 m7000_0 : (den fin)) : St := ⟨dz 3 ((.one (.ptr (.cell 3000) 24 0)) :: dz 3 ((.one (.ptr (.cell 7000) 24 0)) :: (.one (.s .ro seg x8_0)) :: (.one .d) :: (.one .d) :: (.one (vI x11_0)) :: dz 152 [])), Bc 3000 (Cb (.pair mI (.pair mI Cp)) m3000_0) (Bc 7000 (Cb (.pair mI (.pair mI Cp)) m7000_0) [])⟩
noncomputable def Y1 {β : Type} (k : Nat) (v : Ad) (K : KT β) (n : Nat) (x8_0 : Al) (x11_0 : Int) (m3000_0 m7000_0 : (den fin)) : Option β := Bu (Xws k) Tryz.f4 [1, 1, 1, 1, 1, 1, 1, 0, 1, 0] 0 (A1 (Xws k) [1, 1, 1, 1, 1, 1, 1, 0, 1, 0] (Aa Tryz.f4) 0 (F4_z k v K)) n (X8m v x8_0 x11_0 m3000_0 m7000_0)
def Qy {β : Type} (NX : Al → Int → (den fin) → (den fin) → Option β) (RET : Bool → Option β) (k : Nat) (v : Ad) (x8_0 : Al) (x11_0 : Int) (m3000_0 m7000_0 : (den fin)) : Option β := cond (decide (x11_0 < (x8_0.length : Int))) (Bi x11_0 x8_0 (cond ((Bd x8_0 x11_0).1 != m7000_0.2.2.1) (RET false) (Bi x11_0 x8_0 (cond ((Bd x8_0 x11_0).2.1 != m7000_0.2.2.2.2.1) (RET false) (NX x8_0 (i64.wrap (x11_0 + 1)) m3000_0 m7000_0))))) (cond (decide ((i64.wrap (m7000_0.2.2.2.2.2.2.1.1 - m3000_0.2.2.2.2.2.2.1.1)) < 0)) (RET false) (cond (decide ((i64.wrap (m7000_0.2.2.2.2.2.2.1.1 - m3000_0.2.2.2.2.2.2.1.1)) > (m3000_0.2.2.2.2.2.2.1.2.1.length : Int))) (RET false) (cond (decide (0 ≤ (i64.wrap (m7000_0.2.2.2.2.2.2.1.1 - m3000_0.2.2.2.2.2.2.1.1))) && decide ((i64.wrap (m7000_0.2.2.2.2.2.2.1.1 - m3000_0.2.2.2.2.2.2.1.1)) ≤ (m3000_0.2.2.2.2.2.2.1.2.1.length : Int))) ((F27 k m7000_0.2.2.2.2.2.2.1.2.1 (m3000_0.2.2.2.2.2.2.1.2.1.drop ((i64.wrap (m7000_0.2.2.2.2.2.2.1.1 - m3000_0.2.2.2.2.2.2.1.1)).toNat))).bind fun b10 => cond (!b10) (RET false) ((F24 k m7000_0).bind fun b11 => cond b11 ((F28 k x8_0).bind fun b12 => cond b12 (cond (decide ((m7000_0.2.2.2.2.2.2.2.1.2.2.1.length : Int) ≥ (m3000_0.2.2.2.2.2.2.2.1.2.2.1.length : Int))) (cond (decide (0 ≤ (m3000_0.2.2.2.2.2.2.2.1.2.2.1.length : Int)) && decide ((m3000_0.2.2.2.2.2.2.2.1.2.2.1.length : Int) ≤ (m7000_0.2.2.2.2.2.2.2.1.2.2.1.length : Int))) ((F27 k (m7000_0.2.2.2.2.2.2.2.1.2.2.1.take ((m3000_0.2.2.2.2.2.2.2.1.2.2.1.length : Int).toNat)) m3000_0.2.2.2.2.2.2.2.1.2.2.1).bind fun b13 => cond b13 (cond (m3000_0.1 != 4) ((F26 k).bind fun b14 => RET b14) (cond (decide (m7000_0.2.2.2.2.2.2.2.1.1 ≥ m3000_0.2.2.2.2.2.2.2.1.1)) ((F26 k).bind fun b15 => RET b15) (RET false))) (RET false)) none) (RET false)) (RET false)) (RET false))) none)))
def Wg (k : Nat) (v : Ad) : Nat → Al → Int → (den fin) → (den fin) → Option (Bool)
 | 0, _, _, _, _ => none
 | n + 1, x8_0, x11_0, m3000_0, m7000_0 => Qy (Wg k v n) some k v x8_0 x11_0 m3000_0 m7000_0
theorem Xk4 {β : Type} (k : Nat) (v : Ad) (K : KT β) (n : Nat) : ∀ (x8_0 : Al) (x11_0 : Int) (m3000_0 m7000_0 : (den fin)), Y1 k v K n x8_0 x11_0 m3000_0 m7000_0 =
  (Wg k v n x8_0 x11_0 m3000_0 m7000_0).bind fun r => K (F4_O.put r) := by
 induction n with
 | zero => intros; rfl
 | succ n ih =>
  intro x8_0 x11_0 m3000_0 m7000_0
  refine Eq.trans (b := Qy (Y1 k v K n) (fun r => K (F4_O.put r)) k v x8_0 x11_0 m3000_0 m7000_0) (by kernel_rfl) ?_
  rw [Wg]
  simp only [Qy, z1, z2, z3, z4, z5, ih]
def Xuh {β : Type} (LP0 : Al → Int → (den fin) → (den fin) → Option β) (RET : Bool → Option β) (k : Nat) (v : Ad) : Option β := cond (decide ((v.length : Int) > 1048576)) (RET true) ((F21 k v).bind fun b1 => (F12 k b1.1 b1.2.1 b1.2.2.1 b1.2.2.2).bind fun b2 => (F9 k b1.1 b1.2.1 b1.2.2.1 b1.2.2.2).bind fun b3 => (F22 k b2.1 b3.1).bind fun b4 => cond (!b4) (RET false) ((F23 k b2.2 b3.2).bind fun b5 => cond (!b5) (RET false) ((F24 k b1.1).bind fun b6 => cond (!b6) (cond ((b2.2.length : Int) == 0) ((F26 k).bind fun b7 => RET b7) (RET false)) ((F25 k b1.2.2.1).bind fun b8 => cond (!b8) (cond ((b2.2.length : Int) == 0) ((F26 k).bind fun b9 => RET b9) (RET false)) (LP0 b2.2 0 b1.1 b2.1)))))
def F4 (k : Nat) (v : Ad) : Option (Bool) := Xuh (Wg k v k) some k v
theorem X7d {β : Type} (k : Nat) (v : Ad) (K : KT β) : Ah (Xws k) Tryz.f4 (PsT.put X2p (v, ())) K = (F4 k v).bind fun r => K (F4_O.put r) :=
 Eq.trans (b := Xuh (Y1 k v K k) (fun r => K (F4_O.put r)) k v) (by kernel_rfl) (by simp only [F4, Xuh, z1, z2, z3, z4, z5, Xk4])
def F4_d (k : Nat) : FD := ⟨4, X2p, F4_O, F4 k⟩
theorem F4_q (k : Nat) : (F4_d k).Ok Tryz.prog := ⟨fun x => Ab (Ak (Af (.c (X6j k) (.c (X6t k) (.c (F9_q k) (.c (X6i k) (.c (X77 k) (.c (Xx1 k) (.c (X68 k) (.c (Xrq k) (.c (Xgp k) (.c (X6q k) .n))))))))))) _ _ _ _) Ai Tryz.func4 rfl rfl (X7d k _ some), .of (by kernel_rfl)⟩
end
end Go.Proofs.YtjkkbmkkljpcjaaGreat.Gn
end

section
namespace Go.Proofs.YtjkkbmkkljpcjaaGreat.Gn
open Go.Rf Go.IntWalk
set_option linter.unusedVariables false
set_option linter.unusedSimpArgs false
def Bq (a b c : Int) : Bool := decide (b ≤ a) && decide (a ≤ c)
theorem Bf (k : Nat) (a b c : Int) : Gf k a b c = some (Bq a b c) := by
 unfold Gf Bq; (try dsimp only)
 have : decide (a ≥ b) = decide (b ≤ a) := rfl
 rw [this]
 cases decide (b ≤ a) <;> rfl
theorem Cg (k : Nat) (a b c : Int) : Iy k a b c = some (Bq a b c) := Bf k a b c
theorem Xqw (k : Nat) (a : Int) : F86 k a = some (Bq a 1 255) := by unfold F86; (try dsimp only); rw [Cg]; rfl
theorem R7 (k : Nat) (a : Int) : F63 k a = some (Bq a 0 65535) := by unfold F63; (try dsimp only); rw [Cg]; rfl
abbrev Br : Type := List (den (.int .u8))
abbrev Ek : Type := List (den Ap)
theorem A5 {α : Type} (c : Bool) (a b : α) : cond c (some a) (some b) = some (cond c a b) := by cases c <;> rfl
def A3 (a : Int) : Int := cond (decide (a.tmod 65536 < 0)) (IntKind.i64.wrap (a.tmod 65536 + 65536)) (a.tmod 65536)
theorem Bt (k : Nat) (a : Int) : Up k a = some (A3 a) := by unfold Up A3 Xaf; (try dsimp only); rw [A5]
theorem Xwq (k : Nat) (l : Ek) : Xjg k l = some l := by
 simp only [Xjg, Zf]
 rw [decide_eq_true (by omega : (0 : Int) ≤ ((l.length : Nat) : Int))]
 simp
theorem Xtu (k : Nat) (l : Br) : Xkk k l = some l := by
 simp only [Xkk, Yk]
 rw [decide_eq_true (by omega : (0 : Int) ≤ ((l.length : Nat) : Int))]
 simp
theorem Hu (k : Nat) (l : Ek) (h : l.length ≤ 4194304) : Sv k l = some l := by
 simp only [Sv, X9, Xwq, List.nil_append, List.length_nil, Nat.zero_add, Bp]
 rw [decide_eq_true (by omega : l.length * 16 ≤ 140737488355328)]
 cases l with
 | nil => rfl
 | cons a r => rw [show ((((a :: r).length : Nat) : Int) == 0) = false by rw [beq_eq_false_iff_ne]; simp only [List.length_cons]; omega]; rfl
theorem Ib (k : Nat) (l : Br) (h : l.length ≤ 4194304) : Tv k l = some l := by
 simp only [Tv, Ys, Xtu, List.nil_append, List.length_nil, Nat.zero_add, Bp]
 rw [decide_eq_true (by omega : l.length * 1 ≤ 140737488355328)]
 cases l with
 | nil => rfl
 | cons a r => rw [show ((((a :: r).length : Nat) : Int) == 0) = false by rw [beq_eq_false_iff_ne]; simp only [List.length_cons]; omega]; rfl
theorem Xg5 (a b : den Ap) : eqD Ap a b = decide (a = b) := by
 obtain ⟨a1, a2⟩ := a
 obtain ⟨b1, b2⟩ := b
 simp only [eqD]
 have e : ((a1, a2) = (b1, b2)) ↔ (a1 = b1 ∧ a2 = b2) := Prod.mk.injEq .. ▸ Iff.rfl
 by_cases h1 : a1 = b1 <;> by_cases h2 : a2 = b2 <;> simp [h1, h2, e]
theorem X1z (k : Nat) (a b : Ek) (hlen : a.length = b.length) (h9 : a.length ≤ 4194304) (k9 : a.length < k) : Gb k a b k 0 = some (decide (a = b)) :=
 Xsi a b (fun n j => Gb k a b n j) hlen
  (fun n j h h' => by
   simp only [Gb, Hm, Bi]
   rw [Ax a j h, Ax b j h', Xg5, Iv j (by omega)]
   rw [decide_eq_true (by omega : ((j : Nat) : Int) < (a.length : Nat)), decide_eq_true (by omega : ((j : Nat) : Int) < (b.length : Nat)), decide_eq_true (by omega : (0 : Int) ≤ (j : Nat))]
   by_cases hc : a[j] = b[j]
   ·rw [decide_eq_true hc, if_pos hc]; rfl
   ·rw [decide_eq_false hc, if_neg hc]; rfl)
  (fun n => by
   simp only [Gb, Hm, Bi]
   rw [decide_eq_false (by omega : ¬ ((a.length : Nat) : Int) < (a.length : Nat))]; rfl) k 0 (Nat.zero_le _) (by omega)
theorem Xvx (k : Nat) (a b : Ek) (h9 : a.length ≤ 4194304) (k9 : a.length < k) : Xju k a b = some (decide (a = b)) := by
 simp only [Xju, Wv]
 by_cases hlen : a.length = b.length
 ·rw [X1z k a b hlen h9 k9, hlen]; simp
 ·rw [show (((a.length : Nat) : Int) != ((b.length : Nat) : Int)) = true by rw [bne_iff_ne]; omega, cond_true, decide_eq_false (fun h => hlen (by rw [h]))]
def gR (x : Int) (a : den Ap) : den Ap := (x, x + 1)
def gB (x : Int) (a : den (.int .u8)) : den (.int .u8) := IntKind.u8.wrap x
theorem bs {α β : Type} {o : Option α} {f : α → Option β} {x : α} (h : o = some x) : o.bind f = f x := by rw [h]; rfl
theorem cf {α : Type} {c : Bool} {a b : α} (h : c = false) : cond c a b = b := by rw [h]; rfl
theorem ct {α : Type} {c : Bool} {a b : α} (h : c = true) : cond c a b = a := by rw [h]; rfl
def U9 (a : den Ap) : Bool := Bq a.1 0 65535 && Bq a.2 0 65535
def okT (a3 a4 : Int) (a5 a6 a7 a8 : Bool) (a9 : Ek) (a10 : Br) : Bool :=
 cond (!a6) (cond (a3 != 0) false (cond (a4 != 0) false (cond (decide (((a9.length : Nat) : Int) > 0)) false (cond (!a8) true (cond (!a5) (cond (!a7) (((a10.length : Nat) : Int) == 0) false) false)))))
  (cond (!a8) true (cond (!a5) (cond (!a7) (((a10.length : Nat) : Int) == 0) false) false))
def Gq (a0 a1 a2 a3 a4 : Int) (a5 a6 a7 a8 : Bool) (a9 : List (den Ap)) (a10 : List (den (.int .u8))) : Bool :=
 Bq a0 1 255 && Bq a1 1 255 && Bq a2 0 65535 && Bq a3 0 65535 && Bq a4 0 255 && !(decide (((a9.length : Nat) : Int) > 2)) && !(decide (((a10.length : Nat) : Int) > 12)) && (a9.all U9 && okT a3 a4 a5 a6 a7 a8 a9 a10)
theorem X8t (k : Nat) (a0 a1 a2 a3 a4 : Int) (a5 a6 a7 a8 : Bool) (a9 : List (den Ap)) (a10 : List (den (.int .u8))) (h9 : a9.length ≤ 1048576) (k9 : a9.length < k) : Jr k (a0, a1, a2, a3, a4, a5, a6, a7, a8, a9, a10) k 0 = some (a9.all U9 && okT a3 a4 a5 a6 a7 a8 a9 a10) := by
 have := L6 a9 (fun n (_ : Unit) j => Jr k (a0, a1, a2, a3, a4, a5, a6, a7, a8, a9, a10) n j) (fun _ _ a => cond (U9 a) (.inl ()) (.inr false)) (fun _ => okT a3 a4 a5 a6 a7 a8 a9 a10)
  (fun n s j h => by
   simp only [Jr, Jl, Bi, A8]
   rw [Ax a9 j h, Bf, Bf, Iv j (by omega)]
   simp only [Option.bind_some]
   rw [decide_eq_true (by omega : ((j : Nat) : Int) < (a9.length : Nat)), decide_eq_true (by omega : (0 : Int) ≤ (j : Nat))]
   unfold U9
   cases Bq a9[j].1 0 65535 <;> cases Bq a9[j].2 0 65535 <;> rfl)
  (fun n s => by
   simp only [Jr, Jl, Bi, A8]
   rw [decide_eq_false (by omega : ¬ ((a9.length : Nat) : Int) < (a9.length : Nat))]
   simp only [cond_false, A5, okT]) k () 0 (Nat.zero_le _) (by omega)
 rw [Td, List.drop_zero] at this
 exact this
theorem Xma (k : Nat) (a0 a1 a2 a3 a4 : Int) (a5 a6 a7 a8 : Bool) (a9 : List (den Ap)) (a10 : List (den (.int .u8))) (h9 : a9.length ≤ 1048576) (k9 : a9.length < k) : F43 k (a0, a1, a2, a3, a4, a5, a6, a7, a8, a9, a10) = some (Gq a0 a1 a2 a3 a4 a5 a6 a7 a8 a9 a10) := by
 simp only [F43, Xg6]
 rw [X8t k a0 a1 a2 a3 a4 a5 a6 a7 a8 a9 a10 h9 k9]
 simp only [Bf, Option.bind_some, Gq]
 cases Bq a0 1 255 <;> try rfl
 cases Bq a1 1 255 <;> try rfl
 cases Bq a2 0 65535 <;> try rfl
 cases Bq a3 0 65535 <;> try rfl
 cases Bq a4 0 255 <;> try rfl
 cases decide (((a9.length : Nat) : Int) > 2) <;> try rfl
 cases decide (((a10.length : Nat) : Int) > 12) <;> rfl
theorem X5a (k : Nat) (a b : Int) : F93 k (a, b) = some (!(U9 (a, b))) := by
 unfold F93 U9; (try dsimp only)
 rw [R7, R7]
 simp only [Option.bind_some]
 cases Bq a 0 65535 <;> cases Bq b 0 65535 <;> rfl
theorem X3n (k : Nat) (l : Ek) (h9 : l.length ≤ 1048576) (k9 : l.length < k) : F92 k l = some (!(l.all U9)) := by
 have := L6 l (fun n (_ : Unit) j => F8 k l n j) (fun _ j a => cond (U9 a) (.inl ()) (.inr (j : Int))) (fun _ => -1)
  (fun n s j h => by
   simp only [F8, Hl, Bi]
   rw [Ax l j h, X5a, Iv j (by omega)]
   simp only [Option.bind_some]
   rw [decide_eq_true (by omega : ((j : Nat) : Int) < (l.length : Nat)), decide_eq_true (by omega : (0 : Int) ≤ (j : Nat))]
   show cond true (cond true (cond true (cond (!U9 l[j]) _ _) _) _) _ = _
   cases U9 l[j] <;> rfl)
  (fun n s => by
   simp only [F8, Hl, Bi]
   rw [decide_eq_false (by omega : ¬ ((l.length : Nat) : Int) < (l.length : Nat))]; rfl) k () 0 (Nat.zero_le _) (by omega)
 rw [List.drop_zero] at this
 have hs : ∀ (r : Ek) (j : Nat), (decide (Xa7 (fun (_ : Unit) j a => cond (U9 a) (.inl ()) (.inr (j : Int))) (fun _ => (-1 : Int)) () j r ≥ 0)) = !(r.all U9) := by
  intro r
  induction r with
  | nil => intro j; rfl
  | cons a r ih =>
   intro j
   rw [Xa7, List.all_cons]
   cases U9 a with
   | true => simpa using ih (j + 1)
   | false => simp
 simp only [F92, Xiz, Xz]
 have this2 : F8 k l k 0 = _ := this
 rw [this2, Option.bind_some, hs l 0]
theorem Xf1 (k : Nat) (a0 a1 a2 a3 a4 : Int) (a5 a6 a7 a8 : Bool) (a9 : List (den Ap)) (a10 : List (den (.int .u8))) (h9 : a9.length ≤ 1048576) (k9 : a9.length < k) : F25 k (a0, a1, a2, a3, a4, a5, a6, a7, a8, a9, a10) = some (Gq a0 a1 a2 a3 a4 a5 a6 a7 a8 a9 a10) := by
 simp only [F25, Xgx, A8]
 rw [X3n k a9 h9 k9]
 simp only [Xqw, R7, Cg, Option.bind_some, A5, Gq]
 cases Bq a0 1 255 <;> try rfl
 cases Bq a1 1 255 <;> try rfl
 cases Bq a2 0 65535 <;> try rfl
 cases Bq a3 0 65535 <;> try rfl
 cases Bq a4 0 255 <;> try rfl
 cases decide (((a9.length : Nat) : Int) > 2) <;> try rfl
 cases decide (((a10.length : Nat) : Int) > 12) <;> try rfl
 cases a9.all U9 <;> rfl
def K7 (a5 a7 : Bool) (a10 : Br) : Int := (a10.length : Int) + (if a5 then 1 else 0) + (if a7 then 1 else 0)
theorem X1q (k : Nat) (a0 a1 a2 a3 a4 : Int) (a5 a6 a7 a8 : Bool) (a9 : List (den Ap)) (a10 : List (den (.int .u8))) (h : a10.length ≤ 1048576) : F55 k (a0, a1, a2, a3, a4, a5, a6, a7, a8, a9, a10) = some (K7 a5 a7 a10) := by
 simp only [F55, Xb2, K7]
 rw [i64_in ((a10.length : Nat) + 1 : Int) (by omega), i64_in _ (by omega)]
 cases a5 <;> cases a7 <;> simp
theorem X4h (k : Nat) (a0 a1 a2 a3 a4 : Int) (a5 a6 a7 a8 : Bool) (a9 : List (den Ap)) (a10 : List (den (.int .u8))) (h : a10.length ≤ 1048576) : F98 k (a0, a1, a2, a3, a4, a5, a6, a7, a8, a9, a10) = some (K7 a5 a7 a10) := by
 simp only [F98, Xhz, K7, T5, A5, Option.bind_some]
 have e : ∀ c : Int, 0 ≤ c → c ≤ 10 → IntKind.i64.wrap ((a10.length : Int) + c) = (a10.length : Int) + c := fun c h1 h2 => i64_in _ (by omega)
 have e2 : ∀ c d : Int, 0 ≤ c → c ≤ 10 → 0 ≤ d → d ≤ 10 → IntKind.i64.wrap ((a10.length : Int) + c + d) = (a10.length : Int) + c + d := fun c d h1 h2 h3 h4 => i64_in _ (by omega)
 cases a5 <;> cases a7 <;> simp only [cond_true, cond_false, e 0 (by omega) (by omega), e 1 (by omega) (by omega), e2 0 0 (by omega) (by omega) (by omega) (by omega), e2 0 1 (by omega) (by omega) (by omega) (by omega), e2 1 0 (by omega) (by omega) (by omega) (by omega), e2 1 1 (by omega) (by omega) (by omega) (by omega)] <;> rfl
abbrev sgL : Type := List (den seg)
def wS (s : den seg) : Int := 9 + 2 * (s.2.2.2.2.2.2.2.2.2.1.length : Int) + (s.2.2.2.2.2.2.2.2.2.2.length : Int)
def gS (y : Int) (s : den seg) : den seg :=
 (y, y + 1, y + 2, y + 3, y + 4, (y + 5).tmod 3 == 0, (y + 6).tmod 3 == 0, (y + 7).tmod 3 == 0, (y + 8).tmod 3 == 0, Xq1 gR (fun _ => 2) (y + 9) s.2.2.2.2.2.2.2.2.2.1,
  Xq1 gB (fun _ => 1) (y + 9 + 2 * (s.2.2.2.2.2.2.2.2.2.1.length : Int)) s.2.2.2.2.2.2.2.2.2.2)
def Bv (n : Nat) (s : den seg) : Prop := s.2.2.2.2.2.2.2.2.2.1.length ≤ n ∧ s.2.2.2.2.2.2.2.2.2.2.length ≤ n
def X8d (a0 a1 a2 a3 a4 : Int) (a5 a6 a7 a8 : Bool) (a9 : List (den Ap)) (a10 : List (den (.int .u8))) (b0 b1 b2 b3 b4 : Int) (b5 b6 b7 b8 : Bool) (b9 : List (den Ap)) (b10 : List (den (.int .u8))) : Int × Int × Int × Int × Int × Bool × Bool × Bool × Bool × List (den Ap) × List (den (.int .u8)) × Bool :=
 cond (!(Gq a0 a1 a2 a3 a4 a5 a6 a7 a8 a9 a10)) (0, 0, 0, 0, 0, false, false, false, false, [], [], false) (cond (!(Gq b0 b1 b2 b3 b4 b5 b6 b7 b8 b9 b10)) (0, 0, 0, 0, 0, false, false, false, false, [], [], false)
 (cond (a0 != b0) (0, 0, 0, 0, 0, false, false, false, false, [], [], false) (cond (a1 != b1) (0, 0, 0, 0, 0, false, false, false, false, [], [], false)
 (cond (!(a6 == b6)) (0, 0, 0, 0, 0, false, false, false, false, [], [], false) (cond (a3 != b3) (0, 0, 0, 0, 0, false, false, false, false, [], [], false)
 (cond (a4 != b4) (0, 0, 0, 0, 0, false, false, false, false, [], [], false) (cond (!(decide (a9 = b9))) (0, 0, 0, 0, 0, false, false, false, false, [], [], false)
 (cond a8 (0, 0, 0, 0, 0, false, false, false, false, [], [], false) (cond b8 (0, 0, 0, 0, 0, false, false, false, false, [], [], false)
 (cond (((a10.length : Nat) : Int) == 0) (0, 0, 0, 0, 0, false, false, false, false, [], [], false) (cond (((b10.length : Nat) : Int) == 0) (0, 0, 0, 0, 0, false, false, false, false, [], [], false)
 (cond a7 (0, 0, 0, 0, 0, false, false, false, false, [], [], false) (cond b5 (0, 0, 0, 0, 0, false, false, false, false, [], [], false)
 (cond (b2 != A3 (IntKind.i64.wrap (a2 + K7 a5 a7 a10))) (0, 0, 0, 0, 0, false, false, false, false, [], [], false)
 (cond (decide ((IntKind.i64.wrap (((a10.length : Nat) : Int) + ((b10.length : Nat) : Int))) > 12)) (0, 0, 0, 0, 0, false, false, false, false, [], [], false)
 (a0, a1, a2, a3, a4, a5, a6, b7, a8, a9, a10 ++ b10, true))))))))))))))))
def jn (a b : den seg) : Option (den seg) :=
 cond (X8d a.1 a.2.1 a.2.2.1 a.2.2.2.1 a.2.2.2.2.1 a.2.2.2.2.2.1 a.2.2.2.2.2.2.1 a.2.2.2.2.2.2.2.1 a.2.2.2.2.2.2.2.2.1 a.2.2.2.2.2.2.2.2.2.1 a.2.2.2.2.2.2.2.2.2.2 b.1 b.2.1 b.2.2.1 b.2.2.2.1 b.2.2.2.2.1 b.2.2.2.2.2.1 b.2.2.2.2.2.2.1 b.2.2.2.2.2.2.2.1 b.2.2.2.2.2.2.2.2.1 b.2.2.2.2.2.2.2.2.2.1 b.2.2.2.2.2.2.2.2.2.2).2.2.2.2.2.2.2.2.2.2.2
  (some (a.1, a.2.1, a.2.2.1, a.2.2.2.1, a.2.2.2.2.1, a.2.2.2.2.2.1, a.2.2.2.2.2.2.1, b.2.2.2.2.2.2.2.1, a.2.2.2.2.2.2.2.2.1, a.2.2.2.2.2.2.2.2.2.1, a.2.2.2.2.2.2.2.2.2.2 ++ b.2.2.2.2.2.2.2.2.2.2)) none
abbrev Kb : Type := List (den Av)
def Uu {α : Type} (A : α → Bool) (B : α → α → Bool) : α → List α → Bool
 | _, [] => true
 | p, a :: r => A a && B p a && Uu A B a r
def Fr {α : Type} (A : α → Bool) (B : α → α → Bool) : List α → Bool
 | [] => true
 | a :: r => A a && Uu A B a r
theorem Rm {α : Type} (l : List α) (A : α → Bool) (B : α → α → Bool) (L : Nat → Int → Option Bool)
  (h0 : ∀ (n : Nat) (h : 0 < l.length), L (n + 1) ((0 : Nat) : Int) = cond (A l[0]) (L n ((1 : Nat) : Int)) (some false))
  (hs : ∀ (n j : Nat) (h : j + 1 < l.length), L (n + 1) ((j + 1 : Nat) : Int) = cond (A l[j + 1] && B l[j] l[j + 1]) (L n ((j + 1 + 1 : Nat) : Int)) (some false))
  (he : ∀ n : Nat, L (n + 1) (l.length : Nat) = some true) (n : Nat) (hn : l.length < n) : L n ((0 : Nat) : Int) = some (Fr A B l) := by
 have main : ∀ (n j : Nat) (h : j < l.length), l.length - (j + 1) < n → L n ((j + 1 : Nat) : Int) = some (Uu A B l[j] (l.drop (j + 1))) := by
  intro n
  induction n with
  | zero => intro j _ h; omega
  | succ n ih =>
   intro j h hn
   rcases Nat.lt_or_ge (j + 1) l.length with hlt | hge
   ·rw [hs n j hlt, List.drop_eq_getElem_cons hlt, Uu]
    cases A l[j + 1] && B l[j] l[j + 1] with
    | true => rw [cond_true, ih (j + 1) hlt (by omega), Bool.true_and]
    | false => rfl
   ·have e : j + 1 = l.length := by omega
    rw [e, he, List.drop_length]; rfl
 cases n with
 | zero => omega
 | succ n =>
  rcases Nat.eq_zero_or_pos l.length with hz | hp
  ·have := he n
   rw [hz] at this
   rw [this, List.length_eq_zero_iff.1 hz]; rfl
  ·rw [h0 n hp]
   have hm := main n 0 hp (by omega)
   have e : l = l[0] :: l.drop 1 := by rw [← List.drop_eq_getElem_cons hp, List.drop_zero]
   rw [show some (Fr A B l) = some (Fr A B (l[0] :: l.drop 1)) by rw [← e], Fr]
   cases A l[0] with
   | true => rw [cond_true, hm, Bool.true_and]
   | false => rfl
theorem dle (a b : Int) : decide (a ≤ b) = !decide (b < a) := by by_cases h : a ≤ b <;> simp [h] <;> omega
theorem dge (a b : Int) : decide (a ≥ b) = !decide (a < b) := dle b a
theorem dgt (a b : Int) : decide (a > b) = decide (b < a) := rfl
theorem Xnk (j : Nat) (h : j < 2 ^ 62) : IntKind.i64.wrap (((j + 1 : Nat) : Int) - 1) = (j : Int) := by rw [i64_in _ (by omega)]; omega
def Na (c0 c1 c2 : Int) : Bool := Bq c0 0 80000 && Bq c1 0 80000 && Bq c2 4 200
theorem Xr (k : Nat) (a b c : Int) : Xfm k (a, b, c) = some (Na a b c) := by
 simp only [Xfm, Z5, Bf, Option.bind_some, Na]
 cases Bq a 0 80000 <;> cases Bq b 0 80000 <;> rfl
theorem X0x (k : Nat) (a b c : Int) : F89 k (a, b, c) = some (Na a b c) := by
 simp only [F89, Xgs, Cg, Option.bind_some, Na]
 cases Bq a 0 80000 <;> cases Bq b 0 80000 <;> rfl
def mA (m0 m2 : Int) (r : Int × Int) : Bool := decide (m0 < r.1) && (decide (r.1 < r.2) && decide (r.2 ≤ m0 + m2))
def mB (p r : Int × Int) : Bool := decide (p.2 < r.1)
theorem Xlp (m0 m2 : Int) : ∀ (l : List (Int × Int)) (p : Int × Int), m0 < p.2 → Uu (mA m0 m2) mB p l = Gl (m0 + m2) p.2 l
 | [], _, _ => rfl
 | (x, y) :: l, (u, v), h => by
  have h : m0 < v := h
  have ih := fun hh => Xlp m0 m2 l (x, y) hh
  simp only [Uu, Gl, mA, mB] at ih ⊢
  by_cases hc : v < x ∧ x < y ∧ y ≤ m0 + m2
  ·rw [ih (by omega), decide_eq_true (by omega : m0 < x), decide_eq_true hc.1, decide_eq_true hc.2.1, decide_eq_true hc.2.2]; rfl
  ·by_cases c1 : v < x <;> by_cases c2 : x < y <;> by_cases c3 : y ≤ m0 + m2 <;> simp [c1, c2, c3] <;> exact absurd ⟨c1, c2, c3⟩ hc
theorem X3i (m0 m2 : Int) (l : List (Int × Int)) : Fr (mA m0 m2) mB l = Gl (m0 + m2) m0 l := by
 cases l with
 | nil => rfl
 | cons r l =>
  obtain ⟨x, y⟩ := r
  have h := Xlp m0 m2 l (x, y)
  simp only [Fr, Gl, mA] at h ⊢
  by_cases hc : m0 < x ∧ x < y
  ·rw [h (by omega), decide_eq_true hc.1, decide_eq_true hc.2]; simp
  ·by_cases c1 : m0 < x <;> by_cases c2 : x < y <;> simp [c1, c2] <;> exact absurd ⟨c1, c2⟩ hc
def Bw (m0 : Int) (m1 : List (den (.int .u8))) (m2 m3 : Int) (m4 : List (den Ap)) : Bool :=
 Bq m0 0 1000000 && (decide (((m1.length : Nat) : Int) ≤ 32) && (Bq m2 0 ((m1.length : Nat) : Int) && (Bq m3 0 255 && (decide (((m4.length : Nat) : Int) ≤ 2) && Gl (m0 + m2) m0 m4))))
theorem Am {a b c : Int} : Bq a b c = true ↔ b ≤ a ∧ a ≤ c := by unfold Bq; simp
theorem X12 (k : Nat) (m0 : Int) (m1 : List (den (.int .u8))) (m2 m3 : Int) (m4 : List (den Ap)) (h0 : 0 ≤ m0 ∧ m0 ≤ 1000000) (h2 : 0 ≤ m2 ∧ m2 ≤ 32) (hl : m4.length ≤ 2) (hk : 4 ≤ k) : E0 k (m0, m1, m2, m3, m4) k 0 = some (Gl (m0 + m2) m0 m4) := by
 rw [← X3i]
 have w : IntKind.i64.wrap (m0 + m2) = m0 + m2 := i64_in _ (by omega)
 refine Rm m4 (mA m0 m2) mB (fun n j => E0 k (m0, m1, m2, m3, m4) n j) (fun n h => ?_) (fun n j h => ?_) (fun n => ?_) k (by omega)
 ·rw [E0]
  unfold E2 mA; (try dsimp only [Bi, Bn])
  rw [Ax m4 0 h, Iv 0 (by omega), w]
  rw [decide_eq_true (by omega : ((0 : Nat) : Int) < (m4.length : Nat)), decide_eq_true (by omega : (0 : Int) ≤ ((0 : Nat) : Int)), decide_eq_false (by omega : ¬ ((0 : Nat) : Int) > 0),
   dle m4[0].1 m0, dle m4[0].2 m4[0].1, dgt m4[0].2, dle m4[0].2 (m0 + m2)]
  cases decide (m0 < m4[0].1) <;> cases decide (m4[0].1 < m4[0].2) <;> cases decide (m0 + m2 < m4[0].2) <;> rfl
 ·rw [E0]
  unfold E2 mA mB; (try dsimp only [Bi, Bn])
  rw [Ax m4 (j + 1) h, Iv (j + 1) (by omega), Xnk j (by omega), w, Ax m4 j (by omega)]
  rw [decide_eq_true (by omega : ((j + 1 : Nat) : Int) < (m4.length : Nat)), decide_eq_true (by omega : (0 : Int) ≤ ((j + 1 : Nat) : Int)), decide_eq_true (by omega : ((j + 1 : Nat) : Int) > 0),
   decide_eq_true (by omega : (0 : Int) ≤ ((j : Nat) : Int)), decide_eq_true (by omega : ((j : Nat) : Int) < (m4.length : Nat)), dle m4[j + 1].1 m0, dle m4[j + 1].2 m4[j + 1].1, dgt m4[j + 1].2, dge m4[j].2, dle m4[j + 1].2 (m0 + m2)]
  cases decide (m0 < m4[j + 1].1) <;> cases decide (m4[j + 1].1 < m4[j + 1].2) <;> cases decide (m0 + m2 < m4[j + 1].2) <;> cases decide (m4[j].2 < m4[j + 1].1) <;> rfl
 ·rw [E0]
  unfold E2; (try dsimp only [Bi, Bn])
  rw [decide_eq_false (by omega : ¬ ((m4.length : Nat) : Int) < (m4.length : Nat))]; rfl
theorem D6 (k : Nat) (m0 : Int) (m1 : List (den (.int .u8))) (m2 m3 : Int) (m4 : List (den Ap)) (hk : 4 ≤ k) : Un k (m0, m1, m2, m3, m4) = some (Bw m0 m1 m2 m3 m4) := by
 simp only [Un, Xh, Bf, Option.bind_some, Bw, dgt, Bn]
 cases h0 : Bq m0 0 1000000 with
 | false => rfl
 | true =>
  by_cases h1 : ((m1.length : Nat) : Int) ≤ 32
  ·rw [decide_eq_false (by omega : ¬ 32 < ((m1.length : Nat) : Int)), decide_eq_true h1]
   cases h2 : Bq m2 0 ((m1.length : Nat) : Int) with
   | false => rfl
   | true =>
    cases h3 : Bq m3 0 255 with
    | false => rfl
    | true =>
     by_cases h4 : ((m4.length : Nat) : Int) ≤ 2
     ·rw [decide_eq_false (by omega : ¬ 2 < ((m4.length : Nat) : Int)), decide_eq_true h4]
      rw [Am] at h0 h2
      rw [X12 k m0 m1 m2 m3 m4 h0 (by omega) (by omega) hk]; rfl
     ·rw [decide_eq_true (by omega : 2 < ((m4.length : Nat) : Int)), decide_eq_false h4]; rfl
  ·rw [decide_eq_true (by omega : 32 < ((m1.length : Nat) : Int)), decide_eq_false h1]; rfl
theorem Xuo (k : Nat) (l : Ek) (a b : Int) (hl : l.length ≤ 1048576) (hk : l.length < k) : Xet k l a b = some (l.foldl (roF 2 b) ([], a)).1 := by
 have := D5 l (fun j (s : List (Int × Int) × Int) => s.1.length ≤ j) (fun n s j => Ey k l a b n s.2 j s.1) (roF 2 b) (fun s => s.1)
  (fun n s j h hp => by
   rw [Ey]
   unfold E6 roF; (try dsimp only [Bi, Bp])
   rw [Ax l j h, Iv j (by omega)]
   rw [decide_eq_true (by omega : ((j : Nat) : Int) < (l.length : Nat)), decide_eq_true (by omega : (0 : Int) ≤ (j : Nat)), dgt, dgt]
   have hsz : decide ((s.1.length + [l[j]].length) * 16 ≤ 140737488355328) = true := decide_eq_true (by simp; omega)
   rw [hsz]
   by_cases c1 : s.2 < l[j].1
   ·by_cases c2 : l[j].1 < l[j].2
    ·by_cases c3 : l[j].2 ≤ b
     ·by_cases c4 : ((s.1.length : Nat) : Int) < 2
      ·rw [if_pos ⟨⟨c1, c2, c3⟩, by omega⟩, decide_eq_true c1, decide_eq_true c2, decide_eq_true c3, decide_eq_true c4]; rfl
      ·rw [if_neg (fun h => c4 (by omega)), decide_eq_true c1, decide_eq_true c2, decide_eq_true c3, decide_eq_false c4]; rfl
     ·rw [if_neg (fun h => c3 h.1.2.2), decide_eq_true c1, decide_eq_true c2, decide_eq_false c3]; rfl
    ·rw [if_neg (fun h => c2 h.1.2.1), decide_eq_true c1, decide_eq_false c2]; rfl
   ·rw [if_neg (fun h => c1 h.1.1), decide_eq_false c1]; rfl)
  (fun s j h hp => by unfold roF; split <;> (try simp only [List.length_append, List.length_singleton]) <;> omega)
  (fun n s hp => by
   rw [Ey]
   unfold E6; (try dsimp only [Bi, Bp])
   rw [decide_eq_false (by omega : ¬ ((l.length : Nat) : Int) < (l.length : Nat)), cond_false, Hu k s.1 (by omega)]; rfl) k ([], a) 0 (Nat.zero_le _) (by omega) (by simp)
 exact this
theorem Xpv (k : Nat) (m0 : Int) (m1 : List (den (.int .u8))) (m2 m3 : Int) (m4 : List (den Ap)) (hk : 4 ≤ k) : F87 k (m0, m1, m2, m3, m4) = some (Bw m0 m1 m2 m3 m4) := by
 simp only [F87, Xid, Cg, Option.bind_some, Bw, Bn]
 cases h0 : Bq m0 0 1000000 with
 | false => rfl
 | true =>
  by_cases h1 : ((m1.length : Nat) : Int) ≤ 32
  ·rw [decide_eq_true h1]
   cases h2 : Bq m2 0 ((m1.length : Nat) : Int) with
   | false => rfl
   | true =>
    cases Bq m3 0 255 with
    | false => rfl
    | true =>
     by_cases h4 : ((m4.length : Nat) : Int) ≤ 2
     ·rw [decide_eq_true h4]
      rw [Am] at h0 h2
      have hr := Xw8 2 (m0 + m2) m4 ([], m0) (by simp; omega)
      rw [i64_in (m0 + m2) (by omega), Xuo k m4 m0 (m0 + m2) (by omega) (by omega)]
      have hlen := Xfg 2 (m0 + m2) m4 ([], m0)
      simp only [List.nil_append, List.length_nil, Nat.zero_add] at hr hlen
      simp only [cond_true, Option.bind_some]
      rw [Xvx k _ m4 (by omega) (by omega)]
      simp only [Option.bind_some, Bool.true_and]
      congr 1
      cases hc : Gl (m0 + m2) m0 m4 with
      | true => rw [hc] at hr; exact decide_eq_true (hr.2 rfl)
      | false => rw [hc] at hr; exact decide_eq_false fun h => by cases hr.1 h
     ·rw [decide_eq_false h4]; rfl
  ·rw [decide_eq_false h1]; rfl
def eA (e0 e1 n : Int) (x : Int × Int) : Bool := decide (e0 < x.1) && decide (x.1 < e0 + e1 - n)
def eB (p x : Int × Int) : Bool := decide (p.1 < x.1)
def Ba (e0 e1 : Int) (e2 : List (den (.int .u8))) (e3 : List (den Av)) : Bool := Bq e0 0 1000000 && (Bq e1 1 32 && (decide (((e2.length : Nat) : Int) ≤ e1) && Fr (eA e0 e1 ((e2.length : Nat) : Int)) eB e3))
theorem X5h (k : Nat) (e0 e1 : Int) (e2 : List (den (.int .u8))) (e3 : List (den Av)) (h0 : 0 ≤ e0 ∧ e0 ≤ 1000000) (h1 : 1 ≤ e1 ∧ e1 ≤ 32) (h2 : ((e2.length : Nat) : Int) ≤ e1) (hl : e3.length ≤ 1048576) (hk : e3.length < k) : Ew k (e0, e1, e2, e3) k 0 = some (Fr (eA e0 e1 ((e2.length : Nat) : Int)) eB e3) := by
 have w1 : IntKind.i64.wrap (e0 + e1) = e0 + e1 := i64_in _ (by omega)
 have w : IntKind.i64.wrap (e0 + e1 - ((e2.length : Nat) : Int)) = e0 + e1 - ((e2.length : Nat) : Int) := i64_in _ (by omega)
 refine Rm e3 (eA e0 e1 ((e2.length : Nat) : Int)) eB (fun n j => Ew k (e0, e1, e2, e3) n j) (fun n h => ?_) (fun n j h => ?_) (fun n => ?_) k (by omega)
 ·rw [Ew]
  unfold E1 eA; (try dsimp only [Bi, Bs])
  rw [Ax e3 0 h, Iv 0 (by omega), w1, w]
  rw [decide_eq_true (by omega : ((0 : Nat) : Int) < (e3.length : Nat)), decide_eq_true (by omega : (0 : Int) ≤ ((0 : Nat) : Int)), decide_eq_false (by omega : ¬ ((0 : Nat) : Int) > 0), dle e3[0].1 e0, dge e3[0].1]
  cases decide (e0 < e3[0].1) <;> cases decide (e3[0].1 < e0 + e1 - ((e2.length : Nat) : Int)) <;> rfl
 ·rw [Ew]
  unfold E1 eA eB; (try dsimp only [Bi, Bs])
  rw [Ax e3 (j + 1) h, Iv (j + 1) (by omega), Xnk j (by omega), w1, w, Ax e3 j (by omega)]
  rw [decide_eq_true (by omega : ((j + 1 : Nat) : Int) < (e3.length : Nat)), decide_eq_true (by omega : (0 : Int) ≤ ((j + 1 : Nat) : Int)), decide_eq_true (by omega : ((j + 1 : Nat) : Int) > 0),
   decide_eq_true (by omega : (0 : Int) ≤ ((j : Nat) : Int)), decide_eq_true (by omega : ((j : Nat) : Int) < (e3.length : Nat)), dle e3[j + 1].1 e0, dge e3[j + 1].1, dge e3[j].1]
  cases decide (e0 < e3[j + 1].1) <;> cases decide (e3[j + 1].1 < e0 + e1 - ((e2.length : Nat) : Int)) <;> cases decide (e3[j].1 < e3[j + 1].1) <;> rfl
 ·rw [Ew]
  unfold E1; (try dsimp only [Bi, Bs])
  rw [decide_eq_false (by omega : ¬ ((e3.length : Nat) : Int) < (e3.length : Nat))]; rfl
theorem Ch (k : Nat) (e0 e1 : Int) (e2 : List (den (.int .u8))) (e3 : List (den Av)) (hl : e3.length ≤ 1048576) (hk : e3.length < k) : Qj k (e0, e1, e2, e3) = some (Ba e0 e1 e2 e3) := by
 simp only [Qj, Xx, Bf, Option.bind_some, Ba, dgt]
 cases h0 : Bq e0 0 1000000 with
 | false => rfl
 | true =>
  cases h1 : Bq e1 1 32 with
  | false => rfl
  | true =>
   rw [Am] at h0 h1
   by_cases h2 : ((e2.length : Nat) : Int) ≤ e1
   ·rw [decide_eq_false (by omega : ¬ e1 < ((e2.length : Nat) : Int)), decide_eq_true h2, X5h k e0 e1 e2 e3 h0 h1 h2 hl hk]; rfl
   ·rw [decide_eq_true (by omega : e1 < ((e2.length : Nat) : Int)), decide_eq_false h2]; rfl
theorem X86 (k : Nat) (e0 e1 : Int) (e2 : List (den (.int .u8))) (e3 : List (den Av)) (h0 : 0 ≤ e0 ∧ e0 ≤ 1000000) (h1 : 1 ≤ e1 ∧ e1 ≤ 32) (h2 : ((e2.length : Nat) : Int) ≤ e1) (hl : e3.length ≤ 1048576) (hk : e3.length < k) : Hx k (e0, e1, e2, e3) k 0 = some (Fr (eA e0 e1 ((e2.length : Nat) : Int)) eB e3) := by
 have w0 : IntKind.i64.wrap (e1 - ((e2.length : Nat) : Int)) = e1 - ((e2.length : Nat) : Int) := i64_in _ (by omega)
 have w1 : IntKind.i64.wrap (e0 + (e1 - ((e2.length : Nat) : Int))) = e0 + (e1 - ((e2.length : Nat) : Int)) := i64_in _ (by omega)
 have w2 : IntKind.i64.wrap (e0 + (e1 - ((e2.length : Nat) : Int)) - 1) = e0 + (e1 - ((e2.length : Nat) : Int)) - 1 := i64_in _ (by omega)
 have w3 : IntKind.i64.wrap (e0 + 1) = e0 + 1 := i64_in _ (by omega)
 have hA : ∀ x : Int × Int, Bq x.1 (e0 + 1) (e0 + (e1 - ((e2.length : Nat) : Int)) - 1) = eA e0 e1 ((e2.length : Nat) : Int) x := fun x => by
  unfold Bq eA
  exact congr (congrArg and (decide_eq_decide.2 (by omega))) (decide_eq_decide.2 (by omega))
 refine Rm e3 (eA e0 e1 ((e2.length : Nat) : Int)) eB (fun n j => Hx k (e0, e1, e2, e3) n j) (fun n h => ?_) (fun n j h => ?_) (fun n => ?_) k (by omega)
 ·rw [Hx]
  unfold Gz Fs; (try dsimp only [Bi, Bs])
  simp only [Option.bind_some, w0, w1, w2, w3, Cg]
  rw [Ax e3 0 h, Iv 0 (by omega), hA]
  rw [decide_eq_true (by omega : ((0 : Nat) : Int) < (e3.length : Nat)), decide_eq_true (by omega : (0 : Int) ≤ ((0 : Nat) : Int)), decide_eq_false (by omega : ¬ ((0 : Nat) : Int) > 0)]
  cases eA e0 e1 ((e2.length : Nat) : Int) e3[0] <;> rfl
 ·rw [Hx]
  unfold Gz Fs; (try dsimp only [Bi, Bs])
  simp only [Option.bind_some, w0, w1, w2, w3, Cg]
  rw [Ax e3 (j + 1) h, Iv (j + 1) (by omega), Xnk j (by omega), hA, Ax e3 j (by omega)]
  rw [decide_eq_true (by omega : ((j + 1 : Nat) : Int) < (e3.length : Nat)), decide_eq_true (by omega : (0 : Int) ≤ ((j + 1 : Nat) : Int)), decide_eq_true (by omega : ((j + 1 : Nat) : Int) > 0),
   decide_eq_true (by omega : (0 : Int) ≤ ((j : Nat) : Int)), decide_eq_true (by omega : ((j : Nat) : Int) < (e3.length : Nat)), dge e3[j].1]
  unfold eB
  cases eA e0 e1 ((e2.length : Nat) : Int) e3[j + 1] <;> cases decide (e3[j].1 < e3[j + 1].1) <;> rfl
 ·rw [Hx]
  unfold Gz; (try dsimp only [Bi, Bs])
  rw [decide_eq_false (by omega : ¬ ((e3.length : Nat) : Int) < (e3.length : Nat))]; rfl
theorem Xea (k : Nat) (e0 e1 : Int) (e2 : List (den (.int .u8))) (e3 : List (den Av)) (h2 : e2.length ≤ 1048576) (hl : e3.length ≤ 1048576) (hk : e3.length < k) : F88 k (e0, e1, e2, e3) = some (Ba e0 e1 e2 e3) := by
 simp only [F88, Xg9, Cg, Fs, Option.bind_some, Ba]
 cases h0 : Bq e0 0 1000000 with
 | false => rfl
 | true =>
  cases h1 : Bq e1 1 32 with
  | false => rfl
  | true =>
   rw [Am] at h0 h1
   rw [i64_in (e1 - ((e2.length : Nat) : Int)) (by omega)]
   by_cases h3 : ((e2.length : Nat) : Int) ≤ e1
   ·rw [decide_eq_false (by omega : ¬ e1 - ((e2.length : Nat) : Int) < 0), decide_eq_true h3, X86 k e0 e1 e2 e3 h0 h1 h3 hl hk]; rfl
   ·rw [decide_eq_true (by omega : e1 - ((e2.length : Nat) : Int) < 0), decide_eq_false h3]; rfl
def IsB (o : Option Bool) (P : Prop) : Prop := ∃ b, o = some b ∧ (b = true ↔ P)
theorem IsB.ite {c : Bool} {x y : Option Bool} {P : Prop} (h1 : c = true → IsB x P) (h2 : c = false → IsB y P) : IsB (cond c x y) P := by
 cases c with
 | true => exact h1 rfl
 | false => exact h2 rfl
theorem IsB.ff {P : Prop} (h : ¬P) : IsB (some false) P := ⟨false, rfl, fun e => (by cases e), fun p => absurd p h⟩
theorem IsB.tt {P : Prop} (h : P) : IsB (some true) P := ⟨true, rfl, fun _ => h, fun _ => rfl⟩
theorem IsB.val {b : Bool} {P : Prop} (h : b = true ↔ P) : IsB (some b) P := ⟨b, rfl, h⟩
theorem IsB.mono {o : Option Bool} {P Q : Prop} (h : IsB o P) (e : P ↔ Q) : IsB o Q := by
 obtain ⟨b, h1, h2⟩ := h
 exact ⟨b, h1, h2.trans e⟩
theorem IsB.not {c : Bool} {y : Option Bool} {P Q : Prop} (h : c = true → ¬P) (h2 : c = false → IsB y P) : IsB (cond c (some false) y) P := IsB.ite (fun e => IsB.ff (h e)) h2
theorem IsB.must {c : Bool} {y : Option Bool} {P Q : Prop} (e : P ↔ (c = true ∧ Q)) (h : c = true → IsB y Q) : IsB (cond (!c) (some false) y) P := by
 cases c with
 | true => exact (h rfl).mono ⟨fun q => e.2 ⟨rfl, q⟩, fun p => (e.1 p).2⟩
 | false => exact IsB.ff fun p => by cases (e.1 p).1
theorem IsB.eq {o o' : Option Bool} {P : Prop} (h : IsB o P) (h' : IsB o' P) : ∃ b, o = some b ∧ o' = some b ∧ (b = true ↔ P) := by
 obtain ⟨b, h1, h2⟩ := h
 obtain ⟨b', h3, h4⟩ := h'
 refine ⟨b, h1, ?_, h2⟩
 rw [h3]
 cases b <;> cases b' <;> simp_all
theorem Ri {t : Ty} (out : List (den t)) (hne : out ≠ []) : ∃ d p, out = d ++ [p] ∧ Bd out ((out.length : Int) - 1) = p ∧ ∀ v : den t, out.set ((out.length : Int) - 1).toNat v = d ++ [v] := by
 obtain ⟨d, p, rfl⟩ := J8 hne
 refine ⟨d, p, rfl, ?_, fun v => ?_⟩
 ·have : (((d ++ [p]).length : Int) - 1) = ((d.length : Nat) : Int) := by simp
  rw [this, Ax (d ++ [p]) d.length (by simp)]
  simp
 ·have : (((d ++ [p]).length : Int) - 1).toNat = d.length := by simp
  rw [this]
  simp
theorem V1 {A : Int × Int → Bool} : ∀ (l : List (Int × Int)) (p q : Int × Int) (d : List (Int × Int)), p :: l = d ++ [q] → Uu A eB p l = true → ∀ x ∈ p :: l, x.1 ≤ q.1
 | [], p, q, d, h, _, x, hx => by
  have : d = [] := by
   cases d with
   | nil => rfl
   | cons a d => simp at h
  subst this
  simp at h hx
  subst h hx
  exact Int.le_refl _
 | a :: l, p, q, d, h, hc, x, hx => by
  cases d with
  | nil => simp at h
  | cons b d =>
   simp only [List.cons_append, List.cons.injEq] at h
   simp only [Uu, Bool.and_eq_true] at hc
   have ih := V1 l a q d h.2 hc.2
   have hb : p.1 < a.1 := by simpa [eB] using hc.1.2
   rcases List.mem_cons.1 hx with rfl | hx
   ·have := ih a (by simp); omega
   ·exact ih x hx
theorem Xj8 {A : Int × Int → Bool} {l : List (Int × Int)} {q : Int × Int} {d : List (Int × Int)} (h : l = d ++ [q]) (hc : Fr A eB l = true) : ∀ x ∈ l, x.1 ≤ q.1 := by
 cases l with
 | nil => simp at h
 | cons p l =>
  simp only [Fr, Bool.and_eq_true] at hc
  exact V1 l p q d h hc.2
def Ld (a0 n7 : Int) (a16 a17 : Bool) : Prop := a0 = 2 ∨ a0 = 3 ∨ (a0 = 4 ∧ (0 < n7 ∨ (a16 = true ∧ a17 = false)))
def P6 (a11 a18 : Int) (a14 : Kb) : Prop := a18 = -1 ∨ (Bq a18 a11 1000000 = true ∧ ∀ x ∈ (a14 : List (Int × Int)), x.1 < a18)
def M0 (a0 a1 a2 a3 a4 a5 a6 : Int) (a7 : List (den (.int .u8))) (a8 a9 : Int) (a10 : List (den Ap)) (a11 a12 : Int) (a13 : List (den (.int .u8))) (a14 : List (den Av)) (a15 a16 a17 : Bool) (a18 a19 a20 a21 a22 a23 : Int) : Prop :=
 Bq a0 0 5 = true ∧ Bq a1 0 65535 = true ∧ Bq a3 0 65535 = true ∧ Bq a2 1 255 = true ∧ Bq a4 0 255 = true ∧ Bq a5 0 65535 = true ∧
  Bw a6 a7 a8 a9 a10 = true ∧ a5 < a6 ∧ Ba a11 a12 a13 a14 = true ∧ Na a21 a22 a23 = true ∧ Bq a19 0 1000000 = true ∧ Bq a20 0 8 = true ∧
  (a17 = true → a16 = true) ∧ (a16 = true → a15 = true ∧ a8 = (a7.length : Int) ∧ 4 ≤ a0) ∧ (a0 < 4 → a8 = 0 ∧ a6 = a5 + 1 ∧ a18 = -1) ∧
  (0 < a4 ↔ 2 ≤ a0) ∧ (Ld a0 (a7.length : Int) a16 a17 ∨ (a19 = 0 ∧ (a20 = 0 ∨ a0 = 5))) ∧ P6 a11 a18 a14
theorem An {m0 : Int} {m1 : List (den (.int .u8))} {m2 m3 : Int} {m4 : List (den Ap)} : Bw m0 m1 m2 m3 m4 = true ↔ (0 ≤ m0 ∧ m0 ≤ 1000000) ∧ (m1.length : Int) ≤ 32 ∧ (0 ≤ m2 ∧ m2 ≤ (m1.length : Int)) ∧ (0 ≤ m3 ∧ m3 ≤ 255) ∧ (m4.length : Int) ≤ 2 ∧ Gl (m0 + m2) m0 m4 = true := by
 unfold Bw
 simp only [Bool.and_eq_true, Am, decide_eq_true_eq]
theorem A4 {e0 e1 : Int} {e2 : List (den (.int .u8))} {e3 : List (den Av)} : Ba e0 e1 e2 e3 = true ↔ (0 ≤ e0 ∧ e0 ≤ 1000000) ∧ (1 ≤ e1 ∧ e1 ≤ 32) ∧ (e2.length : Int) ≤ e1 ∧ Fr (eA e0 e1 ((e2.length : Nat) : Int)) eB e3 = true := by
 unfold Ba
 simp only [Bool.and_eq_true, Am, decide_eq_true_eq]
theorem Q7 (k : Nat) (a0 a1 a2 a3 a4 a5 a6 : Int) (a7 : List (den (.int .u8))) (a8 a9 : Int) (a10 : List (den Ap)) (a11 a12 : Int) (a13 : List (den (.int .u8))) (a14 : List (den Av)) (a15 a16 a17 : Bool) (a18 a19 a20 a21 a22 a23 : Int) (h : 0 ≤ a8 ∧ a8 ≤ (a7.length : Int)) : IsB (U6 k (a0, a1, a2, a3, a4, a5, (a6, a7, a8, a9, a10), (a11, a12, a13, a14), a15, a16, a17, a18, a19, a20, a21, a22, a23)) (Ld a0 (a7.length : Int) a16 a17) := by
 unfold U6 Ts Ld; (try dsimp only)
 refine IsB.ite (fun c1 => IsB.tt (.inl (by simpa using c1))) (fun c1 => ?_)
 refine IsB.ite (fun c2 => IsB.tt (.inr (.inl (by simpa using c2)))) (fun c2 => ?_)
 have c1 : a0 ≠ 2 := by simpa using c1
 have c2 : a0 ≠ 3 := by simpa using c2
 refine IsB.ite (fun c3 => ?_) (fun c3 => ?_)
 ·have c3 : a0 = 4 := by simpa using c3
  refine IsB.ite (fun c4 => ?_) (fun c4 => ?_)
  ·have c4 : 0 < a8 := by simpa using c4
   exact IsB.tt (.inr (.inr ⟨c3, .inl (by omega)⟩))
  ·refine IsB.ite (fun c5 => ?_) (fun c5 => ?_)
   ·refine IsB.ite (fun c6 => ?_) (fun c6 => ?_)
    ·exact IsB.tt (.inr (.inr ⟨c3, .inr ⟨c5, by simpa using c6⟩⟩))
    ·have c6 : a17 = true := by simpa using c6
     refine IsB.val ?_
     simp only [c1, c2, c3, c6, dgt, decide_eq_true_eq]
     simp
   ·refine IsB.val ?_
    simp only [c1, c2, c3, c5, dgt, decide_eq_true_eq]
    simp
 ·have c3 : a0 ≠ 4 := by simpa using c3
  exact IsB.ff fun h => by rcases h with h | h | ⟨h, _⟩ <;> contradiction
theorem Xo9 (k : Nat) (a0 a1 a2 a3 a4 a5 a6 : Int) (a7 : List (den (.int .u8))) (a8 a9 : Int) (a10 : List (den Ap)) (a11 a12 : Int) (a13 : List (den (.int .u8))) (a14 : List (den Av)) (a15 a16 a17 : Bool) (a18 a19 a20 a21 a22 a23 : Int) : IsB (F91 k (a0, a1, a2, a3, a4, a5, (a6, a7, a8, a9, a10), (a11, a12, a13, a14), a15, a16, a17, a18, a19, a20, a21, a22, a23)) (Ld a0 (a7.length : Int) a16 a17) := by
 unfold F91 Xh0 Ld; (try dsimp only)
 refine IsB.ite (fun c1 => IsB.tt (.inl (by simpa using c1))) (fun c1 => ?_)
 refine IsB.ite (fun c2 => IsB.tt (.inr (.inl (by simpa using c2)))) (fun c2 => ?_)
 have c1 : a0 ≠ 2 := by simpa using c1
 have c2 : a0 ≠ 3 := by simpa using c2
 refine IsB.ite (fun c3 => ?_) (fun c3 => ?_)
 ·have c3 : a0 = 4 := by simpa using c3
  refine IsB.ite (fun c4 => ?_) (fun c4 => ?_)
  ·have c4 : 0 < (a7.length : Int) := by simpa using c4
   exact IsB.tt (.inr (.inr ⟨c3, .inl c4⟩))
  ·have c4 : ¬ 0 < (a7.length : Int) := by simpa using c4
   refine IsB.ite (fun c5 => ?_) (fun c5 => ?_)
   ·refine IsB.val ?_
    simp only [c1, c2, c3, c4, c5]
    simp
   ·refine IsB.ff ?_
    simp only [c1, c2, c3, c4, c5]
    simp
 ·have c3 : a0 ≠ 4 := by simpa using c3
  exact IsB.ff fun h => by rcases h with h | h | ⟨h, _⟩ <;> contradiction
theorem X6u (k : Nat) (a0 a1 a2 a3 a4 a5 a6 : Int) (a7 : List (den (.int .u8))) (a8 a9 : Int) (a10 : List (den Ap)) (a11 a12 : Int) (a13 : List (den (.int .u8))) (a14 : List (den Av)) (a15 a16 a17 : Bool) (a18 a19 a20 a21 a22 a23 : Int) (hl : a14.length ≤ 1048576) (he : Fr (eA a11 a12 ((a13.length : Nat) : Int)) eB a14 = true) : IsB (Jf k (a0, a1, a2, a3, a4, a5, (a6, a7, a8, a9, a10), (a11, a12, a13, a14), a15, a16, a17, a18, a19, a20, a21, a22, a23) some) (P6 a11 a18 a14) := by
 unfold Jf Qn Ot Yf P6; (try dsimp only [Bi])
 simp only [Bf, Option.bind_some]
 have tail : (∀ x ∈ (a14 : List (Int × Int)), a18 ≠ -1 → x.1 < a18) → IsB (cond (a18 == (-1)) (some true) (some (Bq a18 a11 1000000))) (a18 = -1 ∨ (Bq a18 a11 1000000 = true ∧ ∀ x ∈ (a14 : List (Int × Int)), x.1 < a18)) := by
  intro h
  refine IsB.ite (fun c => IsB.tt (.inl (by simpa using c))) (fun c => IsB.val ?_)
  have c : a18 ≠ -1 := by simpa using c
  exact ⟨fun e => .inr ⟨e, fun x hx => h x hx c⟩, fun e => (e.resolve_left c).1⟩
 refine IsB.ite (fun c1 => ?_) (fun c1 => ?_)
 ·have c1 : 0 < (a14.length : Int) := by simpa using c1
  refine IsB.ite (fun c2 => ?_) (fun c2 => ?_)
  ·have c2 : a18 ≠ -1 := by simpa using c2
   obtain ⟨d, q, h1, h2, _⟩ := Ri a14 (fun e => by rw [e] at c1; simp at c1)
   have hq := Xj8 h1 he
   rw [i64_in (((a14.length : Nat) : Int) - 1) (by omega), h2]
   rw [decide_eq_true (by omega : (0 : Int) ≤ ((a14.length : Nat) : Int) - 1), decide_eq_true (by omega : ((a14.length : Nat) : Int) - 1 < ((a14.length : Nat) : Int))]
   simp only [cond_true]
   refine IsB.ite (fun c3 => IsB.ff fun h => ?_) (fun c3 => tail fun x hx _ => ?_)
   ·have c3 : a18 ≤ q.1 := by simpa using c3
    have := (h.resolve_left c2).2 q (by rw [h1]; simp)
    exact Int.not_lt.2 c3 this
   ·have c3 : q.1 < a18 := by simpa using c3
    exact Int.lt_of_le_of_lt (hq x hx) c3
  ·have c2 : a18 = -1 := by simpa using c2
   exact tail fun x _ h => absurd c2 h
 ·have c1 : ¬ 0 < (a14.length : Int) := by simpa using c1
  have : a14 = [] := List.length_eq_zero_iff.1 (by omega)
  exact tail fun x hx => by rw [this] at hx; simp at hx
def P5 (a0 a4 n7 a11 : Int) (a14 : Kb) (a16 a17 : Bool) (a18 a19 a20 : Int) : Prop := (0 < a4 ↔ 2 ≤ a0) ∧ (Ld a0 n7 a16 a17 ∨ (a19 = 0 ∧ (a20 = 0 ∨ a0 = 5))) ∧ P6 a11 a18 a14
theorem X8s (k : Nat) (a0 a1 a2 a3 a4 a5 a6 : Int) (a7 : List (den (.int .u8))) (a8 a9 : Int) (a10 : List (den Ap)) (a11 a12 : Int) (a13 : List (den (.int .u8))) (a14 : List (den Av)) (a15 a16 a17 : Bool) (a18 a19 a20 a21 a22 a23 : Int) (h8 : 0 ≤ a8 ∧ a8 ≤ (a7.length : Int)) (hl : a14.length ≤ 1048576) (he : Fr (eA a11 a12 ((a13.length : Nat) : Int)) eB a14 = true) (h19 : 0 ≤ a19) (h20 : 0 ≤ a20) :
  IsB (I8 k (a0, a1, a2, a3, a4, a5, (a6, a7, a8, a9, a10), (a11, a12, a13, a14), a15, a16, a17, a18, a19, a20, a21, a22, a23) some) (P5 a0 a4 (a7.length : Int) a11 a14 a16 a17 a18 a19 a20) := by
 have h6 := X6u k a0 a1 a2 a3 a4 a5 a6 a7 a8 a9 a10 a11 a12 a13 a14 a15 a16 a17 a18 a19 a20 a21 a22 a23 hl he
 unfold I8 Qp P5; (try dsimp only)
 obtain ⟨b, hb, hbo⟩ := Q7 k a0 a1 a2 a3 a4 a5 a6 a7 a8 a9 a10 a11 a12 a13 a14 a15 a16 a17 a18 a19 a20 a21 a22 a23 h8
 rw [hb]
 simp only [Option.bind_some]
 refine IsB.ite (fun c1 => IsB.ff fun h => ?_) (fun c1 => ?_)
 ·have c1 : ¬ (0 < a4 ↔ 2 ≤ a0) := by
   intro e
   have : decide (a4 > 0) = decide (a0 ≥ 2) := decide_eq_decide.2 e
   rw [this] at c1
   simp at c1
  exact c1 h.1
 ·have c1 : (0 < a4 ↔ 2 ≤ a0) := by
   have : decide (a4 > 0) = decide (a0 ≥ 2) := by simpa using c1
   exact decide_eq_decide.1 this
  refine IsB.ite (fun c2 => ?_) (fun c2 => ?_)
  ·have c2 : ¬ Ld a0 (a7.length : Int) a16 a17 := fun e => by rw [hbo.2 e] at c2; cases c2
   refine IsB.ite (fun c3 => IsB.ff fun h => ?_) (fun c3 => ?_)
   ·have c3 : 0 < a19 := by simpa using c3
    have := (h.2.1.resolve_left c2).1
    omega
   ·have c3 : ¬ 0 < a19 := by simpa using c3
    refine IsB.ite (fun c4 => ?_) (fun c4 => ?_)
    ·have c4 : 0 < a20 := by simpa using c4
     refine IsB.ite (fun c5 => IsB.ff fun h => ?_) (fun c5 => ?_)
     ·have c5 : a0 ≠ 5 := by simpa using c5
      have := (h.2.1.resolve_left c2).2.resolve_right c5
      omega
     ·have c5 : a0 = 5 := by simpa using c5
      exact h6.mono ⟨fun h => ⟨c1, .inr ⟨by omega, .inr c5⟩, h⟩, fun h => h.2.2⟩
    ·have c4 : ¬ 0 < a20 := by simpa using c4
     exact h6.mono ⟨fun h => ⟨c1, .inr ⟨by omega, .inl (by omega)⟩, h⟩, fun h => h.2.2⟩
  ·have c2 : b = true := by simpa using c2
   exact h6.mono ⟨fun h => ⟨c1, .inl (hbo.1 c2), h⟩, fun h => h.2.2⟩
theorem X6s (k : Nat) (a0 a1 a2 a3 a4 a5 a6 : Int) (a7 : List (den (.int .u8))) (a8 a9 : Int) (a10 : List (den Ap)) (a11 a12 : Int) (a13 : List (den (.int .u8))) (a14 : List (den Av)) (a15 a16 a17 : Bool) (a18 a19 a20 a21 a22 a23 : Int) (h5 : 0 ≤ a5 ∧ a5 ≤ 65535) (h8 : 0 ≤ a8 ∧ a8 ≤ (a7.length : Int)) (hl : a14.length ≤ 1048576) (he : Fr (eA a11 a12 ((a13.length : Nat) : Int)) eB a14 = true) (h19 : 0 ≤ a19) (h20 : 0 ≤ a20) :
  IsB (Dp k (a0, a1, a2, a3, a4, a5, (a6, a7, a8, a9, a10), (a11, a12, a13, a14), a15, a16, a17, a18, a19, a20, a21, a22, a23) some) ((a0 < 4 → a8 = 0 ∧ a6 = a5 + 1 ∧ a18 = -1) ∧ P5 a0 a4 (a7.length : Int) a11 a14 a16 a17 a18 a19 a20) := by
 have h6 := X8s k a0 a1 a2 a3 a4 a5 a6 a7 a8 a9 a10 a11 a12 a13 a14 a15 a16 a17 a18 a19 a20 a21 a22 a23 h8 hl he h19 h20
 unfold Dp Qw; (try dsimp only)
 rw [i64_in (a5 + 1) (by omega)]
 refine IsB.ite (fun c1 => ?_) (fun c1 => ?_)
 ·have c1 : a0 < 4 := by simpa using c1
  refine IsB.ite (fun c2 => IsB.ff fun h => ?_) (fun c2 => ?_)
  ·have c2 : 0 < a8 := by simpa using c2
   have := (h.1 c1).1
   omega
  ·have c2 : ¬ 0 < a8 := by simpa using c2
   refine IsB.ite (fun c3 => IsB.ff fun h => ?_) (fun c3 => ?_)
   ·have c3 : a6 ≠ a5 + 1 := by simpa using c3
    exact c3 (h.1 c1).2.1
   ·have c3 : a6 = a5 + 1 := by simpa using c3
    refine IsB.ite (fun c4 => IsB.ff fun h => ?_) (fun c4 => ?_)
    ·have c4 : a18 ≠ -1 := by simpa using c4
     exact c4 (h.1 c1).2.2
    ·have c4 : a18 = -1 := by simpa using c4
     exact h6.mono ⟨fun h => ⟨fun _ => ⟨by omega, c3, c4⟩, h⟩, fun h => h.2⟩
 ·have c1 : ¬ a0 < 4 := by simpa using c1
  exact h6.mono ⟨fun h => ⟨fun e => absurd e c1, h⟩, fun h => h.2⟩
theorem X7l (k : Nat) (a0 a1 a2 a3 a4 a5 a6 : Int) (a7 : List (den (.int .u8))) (a8 a9 : Int) (a10 : List (den Ap)) (a11 a12 : Int) (a13 : List (den (.int .u8))) (a14 : List (den Av)) (a15 a16 a17 : Bool) (a18 a19 a20 a21 a22 a23 : Int) (h5 : 0 ≤ a5 ∧ a5 ≤ 65535) (h8 : 0 ≤ a8 ∧ a8 ≤ (a7.length : Int)) (hl : a14.length ≤ 1048576) (he : Fr (eA a11 a12 ((a13.length : Nat) : Int)) eB a14 = true) (h19 : 0 ≤ a19) (h20 : 0 ≤ a20) :
  IsB (cond a17 (cond (!a16) (some false) (cond a16 (cond (!a15) (some false) (cond (decide (a8 < ((a7.length : Nat) : Int))) (some false) (cond (decide (a0 < 4)) (some false) (Dp k (a0, a1, a2, a3, a4, a5, (a6, a7, a8, a9, a10), (a11, a12, a13, a14), a15, a16, a17, a18, a19, a20, a21, a22, a23) some)))) (Dp k (a0, a1, a2, a3, a4, a5, (a6, a7, a8, a9, a10), (a11, a12, a13, a14), a15, a16, a17, a18, a19, a20, a21, a22, a23) some))) (cond a16 (cond (!a15) (some false) (cond (decide (a8 < ((a7.length : Nat) : Int))) (some false) (cond (decide (a0 < 4)) (some false) (Dp k (a0, a1, a2, a3, a4, a5, (a6, a7, a8, a9, a10), (a11, a12, a13, a14), a15, a16, a17, a18, a19, a20, a21, a22, a23) some)))) (Dp k (a0, a1, a2, a3, a4, a5, (a6, a7, a8, a9, a10), (a11, a12, a13, a14), a15, a16, a17, a18, a19, a20, a21, a22, a23) some))) ((a17 = true → a16 = true) ∧ (a16 = true → a15 = true ∧ a8 = (a7.length : Int) ∧ 4 ≤ a0) ∧ (a0 < 4 → a8 = 0 ∧ a6 = a5 + 1 ∧ a18 = -1) ∧ P5 a0 a4 (a7.length : Int) a11 a14 a16 a17 a18 a19 a20) := by
 have h6 := X6s k a0 a1 a2 a3 a4 a5 a6 a7 a8 a9 a10 a11 a12 a13 a14 a15 a16 a17 a18 a19 a20 a21 a22 a23 h5 h8 hl he h19 h20
 have rest : (a17 = true → a16 = true) → IsB (cond a16 (cond (!a15) (some false) (cond (decide (a8 < ((a7.length : Nat) : Int))) (some false) (cond (decide (a0 < 4)) (some false) (Dp k (a0, a1, a2, a3, a4, a5, (a6, a7, a8, a9, a10), (a11, a12, a13, a14), a15, a16, a17, a18, a19, a20, a21, a22, a23) some)))) (Dp k (a0, a1, a2, a3, a4, a5, (a6, a7, a8, a9, a10), (a11, a12, a13, a14), a15, a16, a17, a18, a19, a20, a21, a22, a23) some))
   ((a17 = true → a16 = true) ∧ (a16 = true → a15 = true ∧ a8 = (a7.length : Int) ∧ 4 ≤ a0) ∧ (a0 < 4 → a8 = 0 ∧ a6 = a5 + 1 ∧ a18 = -1) ∧ P5 a0 a4 (a7.length : Int) a11 a14 a16 a17 a18 a19 a20) := by
  intro h17
  refine IsB.ite (fun c1 => ?_) (fun c1 => ?_)
  ·refine IsB.ite (fun c2 => IsB.ff fun h => ?_) (fun c2 => ?_)
   ·rw [(h.2.1 c1).1] at c2; cases c2
   ·have c2 : a15 = true := by simpa using c2
    refine IsB.ite (fun c3 => IsB.ff fun h => ?_) (fun c3 => ?_)
    ·have c3 : a8 < (a7.length : Int) := by simpa using c3
     have := (h.2.1 c1).2.1
     omega
    ·have c3 : ¬ a8 < (a7.length : Int) := by simpa using c3
     refine IsB.ite (fun c4 => IsB.ff fun h => ?_) (fun c4 => ?_)
     ·have c4 : a0 < 4 := by simpa using c4
      have := (h.2.1 c1).2.2
      omega
     ·have c4 : ¬ a0 < 4 := by simpa using c4
      exact h6.mono ⟨fun h => ⟨h17, fun _ => ⟨c2, by omega, by omega⟩, h⟩, fun h => h.2.2⟩
  ·exact h6.mono ⟨fun h => ⟨h17, fun e => (by rw [c1] at e; cases e), h⟩, fun h => h.2.2⟩
 refine IsB.ite (fun c1 => ?_) (fun c1 => rest fun e => by rw [c1] at e; cases e)
 refine IsB.ite (fun c2 => IsB.ff fun h => ?_) (fun c2 => ?_)
 ·rw [h.1 c1] at c2; cases c2
 ·have c2 : a16 = true := by simpa using c2
  exact rest fun _ => c2
theorem Cw (k : Nat) (a0 a1 a2 a3 a4 a5 a6 : Int) (a7 : List (den (.int .u8))) (a8 a9 : Int) (a10 : List (den Ap)) (a11 a12 : Int) (a13 : List (den (.int .u8))) (a14 : List (den Av)) (a15 a16 a17 : Bool) (a18 a19 a20 a21 a22 a23 : Int) (hk4 : 4 ≤ k) (hl : a14.length ≤ 1048576) (hk : a14.length < k) : IsB (F42 k (a0, a1, a2, a3, a4, a5, (a6, a7, a8, a9, a10), (a11, a12, a13, a14), a15, a16, a17, a18, a19, a20, a21, a22, a23)) (M0 a0 a1 a2 a3 a4 a5 a6 a7 a8 a9 a10 a11 a12 a13 a14 a15 a16 a17 a18 a19 a20 a21 a22 a23) := by
 unfold F42 Rz Z3 M0; (try dsimp only)
 simp only [Bf, Option.bind_some]
 refine IsB.must Iff.rfl fun c1 => ?_
 refine IsB.must Iff.rfl fun c2 => ?_
 refine IsB.must Iff.rfl fun c3 => ?_
 refine IsB.must Iff.rfl fun c4 => ?_
 refine IsB.must Iff.rfl fun c5 => ?_
 refine IsB.must Iff.rfl fun c6 => ?_
 unfold Ll Ql; (try dsimp only [Ao])
 simp only [Bf, D6 k a6 a7 a8 a9 a10 hk4, Ch k a11 a12 a13 a14 hl hk, Xr k a21 a22 a23, Option.bind_some]
 refine IsB.must Iff.rfl fun c7 => ?_
 refine IsB.not (Q := True) (fun c => fun h => ?_) (fun c => ?_)
 ·have c : a6 ≤ a5 := by simpa using c
  exact absurd h.1 (by omega)
 have c8 : a5 < a6 := by simpa using c
 refine IsB.mono (P := Ba a11 a12 a13 a14 = true ∧ _) ?_ ⟨fun h => ⟨c8, h⟩, fun h => h.2⟩
 refine IsB.must Iff.rfl fun c9 => ?_
 refine IsB.must Iff.rfl fun c10 => ?_
 refine IsB.must Iff.rfl fun c11 => ?_
 refine IsB.must Iff.rfl fun c12 => ?_
 rw [Am] at c6 c11 c12
 exact X7l k a0 a1 a2 a3 a4 a5 a6 a7 a8 a9 a10 a11 a12 a13 a14 a15 a16 a17 a18 a19 a20 a21 a22 a23 c6 (An.1 c7).2.2.1 hl (A4.1 c9).2.2.2 c11.1 c12.1
theorem Xlt (k : Nat) (a0 a1 a2 a3 a4 a5 a6 : Int) (a7 : List (den (.int .u8))) (a8 a9 : Int) (a10 : List (den Ap)) (a11 a12 : Int) (a13 : List (den (.int .u8))) (a14 : List (den Av)) (a15 a16 a17 : Bool) (a18 a19 a20 a21 a22 a23 : Int) (hl : a14.length ≤ 1048576) (hk : a14.length < k) : J2 k (a0, a1, a2, a3, a4, a5, (a6, a7, a8, a9, a10), (a11, a12, a13, a14), a15, a16, a17, a18, a19, a20, a21, a22, a23) k 0 = some (a14.all (fun x => decide (@LT.lt Int _ x.1 a18)) && (Bq a18 a11 1000000 && decide (4 ≤ a0))) := by
 have := L6 a14 (fun n (_ : Unit) j => J2 k (a0, a1, a2, a3, a4, a5, (a6, a7, a8, a9, a10), (a11, a12, a13, a14), a15, a16, a17, a18, a19, a20, a21, a22, a23) n j) (fun _ _ x => cond (decide (@LT.lt Int _ x.1 a18)) (.inl ()) (.inr false)) (fun _ => Bq a18 a11 1000000 && decide (4 ≤ a0))
  (fun n s j h => by
   rw [J2]
   unfold Jv; (try dsimp only [Bi])
   rw [Ax a14 j h, Iv j (by omega)]
   rw [decide_eq_true (by omega : ((j : Nat) : Int) < (a14.length : Nat)), decide_eq_true (by omega : (0 : Int) ≤ (j : Nat)), dge a14[j].1 a18]
   show cond true (cond true (cond true (cond (!decide (@LT.lt Int _ a14[j].1 a18)) _ _) _) _) _ = _
   cases decide (@LT.lt Int _ a14[j].1 a18) <;> rfl)
  (fun n s => by
   rw [J2]
   unfold Jv; (try dsimp only [Bi])
   rw [decide_eq_false (by omega : ¬ ((a14.length : Nat) : Int) < (a14.length : Nat)), cond_false, Cg, Option.bind_some]
   have : decide (a0 ≥ 4) = decide (4 ≤ a0) := rfl
   rw [this]
   cases Bq a18 a11 1000000 <;> rfl) k () 0 (Nat.zero_le _) (by omega)
 rw [Td, List.drop_zero] at this
 exact this
theorem Xvu (a14 : Kb) (a18 : Int) : a14.all (fun x => decide (@LT.lt Int _ x.1 a18)) = true ↔ ∀ x ∈ (a14 : List (Int × Int)), x.1 < a18 := by
 rw [List.all_eq_true]
 exact ⟨fun h x hx => of_decide_eq_true (h x hx), fun h x hx => decide_eq_true (h x hx)⟩
def PL (a0 a1 a2 a3 a4 a5 a6 : Int) (a7 : List (den (.int .u8))) (a8 a9 : Int) (a10 : List (den Ap)) (a11 a12 : Int) (a13 : List (den (.int .u8))) (a14 : List (den Av)) (a15 a16 a17 : Bool) (a18 a19 a20 a21 a22 a23 : Int) : Prop := (a17 = true → a16 = true) ∧ (a16 = true → a15 = true ∧ a8 = (a7.length : Int) ∧ 4 ≤ a0) ∧ (a18 = -1 ∨ ((∀ x ∈ (a14 : List (Int × Int)), x.1 < a18) ∧ Bq a18 a11 1000000 = true ∧ 4 ≤ a0))
theorem Xkc (k : Nat) (a0 a1 a2 a3 a4 a5 a6 : Int) (a7 : List (den (.int .u8))) (a8 a9 : Int) (a10 : List (den Ap)) (a11 a12 : Int) (a13 : List (den (.int .u8))) (a14 : List (den Av)) (a15 a16 a17 : Bool) (a18 a19 a20 a21 a22 a23 : Int) (hl : a14.length ≤ 1048576) (hk : a14.length < k) : IsB (F90 k (a0, a1, a2, a3, a4, a5, (a6, a7, a8, a9, a10), (a11, a12, a13, a14), a15, a16, a17, a18, a19, a20, a21, a22, a23)) (PL a0 a1 a2 a3 a4 a5 a6 a7 a8 a9 a10 a11 a12 a13 a14 a15 a16 a17 a18 a19 a20 a21 a22 a23) := by
 unfold F90 Xf8 Yi PL; (try dsimp only)
 try dsimp only
 rw [Xlt k a0 a1 a2 a3 a4 a5 a6 a7 a8 a9 a10 a11 a12 a13 a14 a15 a16 a17 a18 a19 a20 a21 a22 a23 hl hk]
 have tail : IsB (cond (a18 == (-1)) (some true) (some (a14.all (fun x => decide (@LT.lt Int _ x.1 a18)) && (Bq a18 a11 1000000 && decide (4 ≤ a0))))) (a18 = -1 ∨ ((∀ x ∈ (a14 : List (Int × Int)), x.1 < a18) ∧ Bq a18 a11 1000000 = true ∧ 4 ≤ a0)) := by
  refine IsB.ite (fun c => IsB.tt (.inl (by simpa using c))) (fun c => IsB.val ?_)
  have c : a18 ≠ -1 := by simpa using c
  rw [Bool.and_eq_true, Bool.and_eq_true, Xvu, decide_eq_true_eq]
  exact ⟨fun h => .inr h, fun h => h.resolve_left c⟩
 have rest : (a17 = true → a16 = true) → IsB (cond a16 (cond (!a15) (some false) (cond (a8 != ((a7.length : Nat) : Int)) (some false) (cond (decide (a0 < 4)) (some false) (cond (a18 == (-1)) (some true) (some (a14.all (fun x => decide (@LT.lt Int _ x.1 a18)) && (Bq a18 a11 1000000 && decide (4 ≤ a0)))))))) (cond (a18 == (-1)) (some true) (some (a14.all (fun x => decide (@LT.lt Int _ x.1 a18)) && (Bq a18 a11 1000000 && decide (4 ≤ a0))))))
   ((a17 = true → a16 = true) ∧ (a16 = true → a15 = true ∧ a8 = (a7.length : Int) ∧ 4 ≤ a0) ∧ (a18 = -1 ∨ ((∀ x ∈ (a14 : List (Int × Int)), x.1 < a18) ∧ Bq a18 a11 1000000 = true ∧ 4 ≤ a0))) := by
  intro h17
  refine IsB.ite (fun c1 => ?_) (fun c1 => ?_)
  ·refine IsB.ite (fun c2 => IsB.ff fun h => ?_) (fun c2 => ?_)
   ·rw [(h.2.1 c1).1] at c2; cases c2
   ·have c2 : a15 = true := by simpa using c2
    refine IsB.ite (fun c3 => IsB.ff fun h => ?_) (fun c3 => ?_)
    ·have c3 : a8 ≠ (a7.length : Int) := by simpa using c3
     exact c3 (h.2.1 c1).2.1
    ·have c3 : a8 = (a7.length : Int) := by simpa using c3
     refine IsB.ite (fun c4 => IsB.ff fun h => ?_) (fun c4 => ?_)
     ·have c4 : a0 < 4 := by simpa using c4
      have := (h.2.1 c1).2.2
      omega
     ·have c4 : ¬ a0 < 4 := by simpa using c4
      exact tail.mono ⟨fun h => ⟨h17, fun _ => ⟨c2, c3, by omega⟩, h⟩, fun h => h.2.2⟩
  ·exact tail.mono ⟨fun h => ⟨h17, fun e => (by rw [c1] at e; cases e), h⟩, fun h => h.2.2⟩
 refine IsB.ite (fun c1 => ?_) (fun c1 => rest fun e => by rw [c1] at e; cases e)
 refine IsB.ite (fun c2 => IsB.ff fun h => ?_) (fun c2 => ?_)
 ·rw [h.1 c1] at c2; cases c2
 ·have c2 : a16 = true := by simpa using c2
  exact rest fun _ => c2
theorem X7k (k : Nat) (a0 a1 a2 a3 a4 a5 a6 : Int) (a7 : List (den (.int .u8))) (a8 a9 : Int) (a10 : List (den Ap)) (a11 a12 : Int) (a13 : List (den (.int .u8))) (a14 : List (den Av)) (a15 a16 a17 : Bool) (a18 a19 a20 a21 a22 a23 : Int) : IsB ((F91 k (a0, a1, a2, a3, a4, a5, (a6, a7, a8, a9, a10), (a11, a12, a13, a14), a15, a16, a17, a18, a19, a20, a21, a22, a23)).bind fun b => cond b (some true) (cond (a19 == 0) (cond (a20 == 0) (some true) (some (a0 == 5))) (some false))) (Ld a0 (a7.length : Int) a16 a17 ∨ (a19 = 0 ∧ (a20 = 0 ∨ a0 = 5))) := by
 obtain ⟨b, hb, hbo⟩ := Xo9 k a0 a1 a2 a3 a4 a5 a6 a7 a8 a9 a10 a11 a12 a13 a14 a15 a16 a17 a18 a19 a20 a21 a22 a23
 rw [hb, Option.bind_some]
 refine IsB.ite (fun c1 => IsB.tt (.inl (hbo.1 c1))) (fun c1 => ?_)
 have c1 : ¬ Ld a0 (a7.length : Int) a16 a17 := fun e => by rw [hbo.2 e] at c1; cases c1
 refine IsB.ite (fun c2 => ?_) (fun c2 => IsB.ff fun h => ?_)
 ·have c2 : a19 = 0 := by simpa using c2
  refine IsB.ite (fun c3 => IsB.tt (.inr ⟨c2, .inl (by simpa using c3)⟩)) (fun c3 => IsB.val ?_)
  have c3 : a20 ≠ 0 := by simpa using c3
  rw [beq_iff_eq]
  exact ⟨fun h => .inr ⟨c2, .inr h⟩, fun h => (h.resolve_left c1).2.resolve_left c3⟩
 ·have c2 : a19 ≠ 0 := by simpa using c2
  exact c2 (h.resolve_left c1).1
theorem X7i (k : Nat) (a0 a1 a2 a3 a4 a5 a6 : Int) (a7 : List (den (.int .u8))) (a8 a9 : Int) (a10 : List (den Ap)) (a11 a12 : Int) (a13 : List (den (.int .u8))) (a14 : List (den Av)) (a15 a16 a17 : Bool) (a18 a19 a20 a21 a22 a23 : Int) (h0 : 0 ≤ a0) (h4 : 0 ≤ a4) : IsB (Sw k (a0, a1, a2, a3, a4, a5, (a6, a7, a8, a9, a10), (a11, a12, a13, a14), a15, a16, a17, a18, a19, a20, a21, a22, a23) some) ((0 < a4 ↔ 2 ≤ a0) ∧ (Ld a0 (a7.length : Int) a16 a17 ∨ (a19 = 0 ∧ (a20 = 0 ∨ a0 = 5)))) := by
 have h2 := X7k k a0 a1 a2 a3 a4 a5 a6 a7 a8 a9 a10 a11 a12 a13 a14 a15 a16 a17 a18 a19 a20 a21 a22 a23
 unfold Sw; (try dsimp only)
 refine IsB.ite (fun c1 => ?_) (fun c1 => ?_)
 ·have c1 : a0 = 0 := by simpa using c1
  refine IsB.ite (fun c2 => IsB.ff fun h => ?_) (fun c2 => ?_)
  ·have c2 : a4 ≠ 0 := by simpa using c2
   have := h.1.1 (by omega)
   omega
  ·have c2 : a4 = 0 := by simpa using c2
   exact h2.mono ⟨fun h => ⟨by omega, h⟩, fun h => h.2⟩
 ·have c1 : a0 ≠ 0 := by simpa using c1
  refine IsB.ite (fun c2 => IsB.ff fun h => ?_) (fun c2 => ?_)
  ·have h1 := h.1
   by_cases e1 : a4 = 0 <;> by_cases e2 : a0 = 1
   ·simp [e1, e2] at c2
   ·have : ¬ 2 ≤ a0 := fun e => by have := h1.2 e; omega
    omega
   ·have := h1.1 (by omega); omega
   ·rw [beq_eq_false_iff_ne.2 e1, beq_eq_false_iff_ne.2 e2] at c2; cases c2
  ·have c2 : (a4 == 0) = (a0 == 1) := by simpa using c2
   refine h2.mono ⟨fun h => ⟨?_, h⟩, fun h => h.2⟩
   by_cases e1 : a4 = 0 <;> by_cases e2 : a0 = 1
   ·omega
   ·simp [e1, e2] at c2
   ·simp [e1, e2] at c2
   ·omega
theorem Xfs (k : Nat) (a0 a1 a2 a3 a4 a5 a6 : Int) (a7 : List (den (.int .u8))) (a8 a9 : Int) (a10 : List (den Ap)) (a11 a12 : Int) (a13 : List (den (.int .u8))) (a14 : List (den Av)) (a15 a16 a17 : Bool) (a18 a19 a20 a21 a22 a23 : Int) (hk4 : 4 ≤ k) (h13 : a13.length ≤ 1048576) (hl : a14.length ≤ 1048576) (hk : a14.length < k) : IsB (F24 k (a0, a1, a2, a3, a4, a5, (a6, a7, a8, a9, a10), (a11, a12, a13, a14), a15, a16, a17, a18, a19, a20, a21, a22, a23)) (M0 a0 a1 a2 a3 a4 a5 a6 a7 a8 a9 a10 a11 a12 a13 a14 a15 a16 a17 a18 a19 a20 a21 a22 a23) := by
 unfold F24 Xhq M0; (try dsimp only [Ao])
 simp only [Cg, R7, Xqw, Xpv k a6 a7 a8 a9 a10 hk4, Xea k a11 a12 a13 a14 h13 hl hk, X0x k a21 a22 a23, Option.bind_some]
 refine IsB.must Iff.rfl fun c1 => ?_
 refine IsB.must Iff.rfl fun c2 => ?_
 refine IsB.mono (P := Bq a2 1 255 = true ∧ Bq a3 0 65535 = true ∧ _) ?_ ⟨fun h => ⟨h.2.1, h.1, h.2.2⟩, fun h => ⟨h.2.1, h.1, h.2.2⟩⟩
 refine IsB.must Iff.rfl fun c4 => ?_
 refine IsB.must Iff.rfl fun c3 => ?_
 refine IsB.must Iff.rfl fun c5 => ?_
 refine IsB.must Iff.rfl fun c6 => ?_
 refine IsB.must Iff.rfl fun c7 => ?_
 rw [Am] at c1 c5 c6
 rw [i64_in (a5 + 1) (by omega)]
 refine IsB.not (Q := True) (fun c => fun h => ?_) (fun c => ?_)
 ·have c : a6 < a5 + 1 := by simpa using c
  exact absurd h.1 (by omega)
 have c8 : a5 < a6 := by
  have c : ¬ a6 < a5 + 1 := by simpa using c
  omega
 refine IsB.mono (P := Ba a11 a12 a13 a14 = true ∧ _) ?_ ⟨fun h => ⟨c8, h⟩, fun h => h.2⟩
 refine IsB.must Iff.rfl fun c9 => ?_
 refine IsB.must Iff.rfl fun c10 => ?_
 refine IsB.must Iff.rfl fun c11 => ?_
 refine IsB.must Iff.rfl fun c12 => ?_
 have hm := (An.1 c7).2.2.1
 obtain ⟨b, hb, hbo⟩ := Xkc k a0 a1 a2 a3 a4 a5 a6 a7 a8 a9 a10 a11 a12 a13 a14 a15 a16 a17 a18 a19 a20 a21 a22 a23 hl hk
 have hj := X7i k a0 a1 a2 a3 a4 a5 a6 a7 a8 a9 a10 a11 a12 a13 a14 a15 a16 a17 a18 a19 a20 a21 a22 a23 c1.1 c5.1
 rw [hb, Option.bind_some]
 unfold PL at hbo
 unfold P6
 refine IsB.ite (fun d1 => IsB.ff fun h => ?_) (fun d1 => ?_)
 ·have : b = true := hbo.2 ⟨h.1, h.2.1, by
   rcases h.2.2.2.2.2 with h6 | ⟨h6, h7⟩
   ·exact .inl h6
   ·by_cases h4 : a0 < 4
    ·exact .inl (h.2.2.1 h4).2.2
    ·exact .inr ⟨h7, h6, by omega⟩⟩
  rw [this] at d1
  cases d1
 ·have d1 : b = true := by simpa using d1
  obtain ⟨q1, q2, q3⟩ := hbo.1 d1
  have q6 : a18 = -1 ∨ (Bq a18 a11 1000000 = true ∧ ∀ x ∈ (a14 : List (Int × Int)), x.1 < a18) := q3.imp id fun h => ⟨h.2.1, h.1⟩
  refine IsB.ite (fun d2 => ?_) (fun d2 => ?_)
  ·have d2 : a0 < 4 := by simpa using d2
   have q7 : a18 = -1 := by
    rcases q3 with h | h
    ·exact h
    ·have := h.2.2
     omega
   refine IsB.ite (fun d3 => IsB.ff fun h => ?_) (fun d3 => ?_)
   ·have d3 : a8 ≠ 0 := by simpa using d3
    exact d3 (h.2.2.1 d2).1
   ·have d3 : a8 = 0 := by simpa using d3
    refine IsB.ite (fun d4 => IsB.ff fun h => ?_) (fun d4 => ?_)
    ·have d4 : a6 ≠ a5 + 1 := by simpa using d4
     exact d4 (h.2.2.1 d2).2.1
    ·have d4 : a6 = a5 + 1 := by simpa using d4
     exact hj.mono ⟨fun h => ⟨q1, q2, fun _ => ⟨d3, d4, q7⟩, h.1, h.2, q6⟩, fun h => ⟨h.2.2.2.1, h.2.2.2.2.1⟩⟩
  ·have d2 : ¬ a0 < 4 := by simpa using d2
   exact hj.mono ⟨fun h => ⟨q1, q2, fun e => absurd e d2, h.1, h.2, q6⟩, fun h => ⟨h.2.2.2.1, h.2.2.2.2.1⟩⟩
theorem Xup (k : Nat) (l : Kb) : Xjr k l = some l := by
 simp only [Xjr, Zk]
 rw [decide_eq_true (by omega : (0 : Int) ≤ ((l.length : Nat) : Int))]
 simp
theorem W7 (k : Nat) (l : Kb) (h : l.length ≤ 4194304) : Xfh k l = some l := by
 simp only [Xfh, Yn, Xup, List.nil_append, List.length_nil, Nat.zero_add, Bp]
 rw [decide_eq_true (by omega : l.length * 16 ≤ 140737488355328)]
 cases l with
 | nil => rfl
 | cons a r => rw [show ((((a :: r).length : Nat) : Int) == 0) = false by rw [beq_eq_false_iff_ne]; simp only [List.length_cons]; omega]; rfl
def Aq (n : Nat) (a7 : Br) (a10 : Ek) (a13 : Br) (a14 : Kb) : Prop := a7.length ≤ n ∧ a10.length ≤ n ∧ a13.length ≤ n ∧ a14.length ≤ n
theorem Dq (k : Nat) (a0 a1 a2 a3 a4 a5 a6 : Int) (a7 : List (den (.int .u8))) (a8 a9 : Int) (a10 : List (den Ap)) (a11 a12 : Int) (a13 : List (den (.int .u8))) (a14 : List (den Av)) (a15 a16 a17 : Bool) (a18 a19 a20 a21 a22 a23 : Int) (h : Aq 1048576 a7 a10 a13 a14) : F45 k (a0, a1, a2, a3, a4, a5, (a6, a7, a8, a9, a10), (a11, a12, a13, a14), a15, a16, a17, a18, a19, a20, a21, a22, a23) = some (a0, a1, a2, a3, a4, a5, (a6, a7, a8, a9, a10), (a11, a12, a13, a14), a15, a16, a17, a18, a19, a20, a21, a22, a23) := by
 obtain ⟨h7, h10, h13, h14⟩ := h
 simp only [F45, Xik, Ur, S7, List.nil_append, List.length_nil, Nat.zero_add, Bp, Bn]
 rw [decide_eq_true (by omega : a7.length * 1 ≤ 140737488355328), decide_eq_true (by omega : a10.length * 16 ≤ 140737488355328), decide_eq_true (by omega : a13.length * 1 ≤ 140737488355328), decide_eq_true (by omega : a14.length * 16 ≤ 140737488355328)]
 rfl
theorem Xr3 (k : Nat) (a0 a1 a2 a3 a4 a5 a6 : Int) (a7 : List (den (.int .u8))) (a8 a9 : Int) (a10 : List (den Ap)) (a11 a12 : Int) (a13 : List (den (.int .u8))) (a14 : List (den Av)) (a15 a16 a17 : Bool) (a18 a19 a20 a21 a22 a23 : Int) (h : Aq 1048576 a7 a10 a13 a14) : F64 k (a0, a1, a2, a3, a4, a5, (a6, a7, a8, a9, a10), (a11, a12, a13, a14), a15, a16, a17, a18, a19, a20, a21, a22, a23) = some (a0, a1, a2, a3, a4, a5, (a6, a7, a8, a9, a10), (a11, a12, a13, a14), a15, a16, a17, a18, a19, a20, a21, a22, a23) := by
 obtain ⟨h7, h10, h13, h14⟩ := h
 simp only [F64, Xht, W9, Qh, Ib k a7 (by omega), Ib k a13 (by omega), Hu k a10 (by omega), W7 k a14 (by omega), Option.bind_some, Bn]
theorem Xgi {A : Int × Int → Bool} : ∀ (l : List (Int × Int)) (p : Int × Int), Uu A eB p l = true → (∀ x ∈ l, p.1 < x.1 ∧ A x = true) ∧ (l.map (·.1)).Pairwise (· < ·)
 | [], p, _ => ⟨by simp, by simp⟩
 | a :: l, p, h => by
  simp only [Uu, Bool.and_eq_true] at h
  have hb : p.1 < a.1 := by simpa [eB] using h.1.2
  obtain ⟨h1, h2⟩ := Xgi l a h.2
  refine ⟨fun x hx => ?_, ?_⟩
  ·rcases List.mem_cons.1 hx with rfl | hx
   ·exact ⟨hb, h.1.1⟩
   ·have := h1 x hx
    exact ⟨by omega, this.2⟩
  ·rw [List.map_cons, List.pairwise_cons]
   refine ⟨fun y hy => ?_, h2⟩
   obtain ⟨x, hx, rfl⟩ := List.mem_map.1 hy
   exact (h1 x hx).1
theorem Q6 {A : Int × Int → Bool} {l : List (Int × Int)} (h : Fr A eB l = true) : (∀ x ∈ l, A x = true) ∧ (l.map (·.1)).Pairwise (· < ·) := by
 cases l with
 | nil => exact ⟨by simp, by simp⟩
 | cons p l =>
  simp only [Fr, Bool.and_eq_true] at h
  obtain ⟨h1, h2⟩ := Xgi l p h.2
  refine ⟨fun x hx => ?_, ?_⟩
  ·rcases List.mem_cons.1 hx with rfl | hx
   ·exact h.1
   ·exact (h1 x hx).2
  ·rw [List.map_cons, List.pairwise_cons]
   refine ⟨fun y hy => ?_, h2⟩
   obtain ⟨x, hx, rfl⟩ := List.mem_map.1 hy
   exact (h1 x hx).1
def Z6 (l : List (Int × Int)) : List (Int × Int) := (l.map (·.1)).foldl (Z8 2) []
theorem Xgh (M : Nat) (hM : 0 < M) (out : List (Int × Int)) (a : Int) (h : out.length ≤ M) : (Z8 M out a).length ≤ M := by
 unfold Z8
 by_cases hne : out = []
 ·subst hne; simp [mrg, hM]; omega
 ·obtain ⟨p, r, rfl⟩ := J8 hne
  rw [Cx]
  split
  ·simpa using h
  ·simp only [Option.getD_none]
   split
   ·simp at *; omega
   ·exact h
theorem We : ∀ (l : List Int) (out : List (Int × Int)), out.length ≤ 2 → (l.foldl (Z8 2) out).length ≤ 2
 | [], out, h => h
 | a :: l, out, h => We l _ (Xgh 2 (by decide) out a h)
theorem Cr (l : List (Int × Int)) : (Z6 l).length ≤ 2 := We _ [] (by simp)
theorem L2 {σ : Type} (f : σ → Int → σ) : ∀ (l : List (Int × Int)) (s : σ), l.foldl (fun s x => f s x.1) s = (l.map (·.1)).foldl f s
 | [], s => rfl
 | a :: l, s => by simp only [List.foldl_cons, List.map_cons]; exact L2 f l _
theorem Mo {e0 e1 n : Int} {x : Int × Int} (h : eA e0 e1 n x = true) : e0 < x.1 ∧ x.1 < e0 + e1 - n := by
 unfold eA at h
 simp only [Bool.and_eq_true, decide_eq_true_eq] at h
 exact h
theorem Xtq (k : Nat) (e0 e1 : Int) (e2 : List (den (.int .u8))) (e3 : List (den Av)) (hok : Ba e0 e1 e2 e3 = true) (hl : e3.length ≤ 1048576) (hk : e3.length < k) : Xau k (e0, e1, e2, e3) = some (Z6 e3) := by
 obtain ⟨h0, h1, h2, h3⟩ := A4.1 hok
 obtain ⟨hA, _⟩ := Q6 h3
 have := D5 e3 (fun j (m : List (Int × Int)) => m.length ≤ 2) (fun n m j => Im k (e0, e1, e2, e3) n j m) (fun m x => Z8 2 m x.1) id
  (fun n m j h hp => by
   obtain ⟨b1, b2⟩ := Mo (hA e3[j] (List.getElem_mem h))
   have b1 : e0 < (show Int from e3[j].1) := b1
   have b2 : (show Int from e3[j].1) < e0 + e1 - ((e2.length : Nat) : Int) := b2
   have w1 : IntKind.i64.wrap (e3[j].1 + 1) = e3[j].1 + 1 := i64_in _ (by show _ ≤ (show Int from e3[j].1) + 1 ∧ (show Int from e3[j].1) + 1 ≤ _; omega)
   rw [Im]
   unfold G2 Hw; (try dsimp only [Bi, Bp, Bs])
   have d1 : decide ((j : Int) < ((e3.length : Nat) : Int)) = true := decide_eq_true (by omega)
   have d0 : decide ((0 : Int) ≤ ((j : Nat) : Int)) = true := decide_eq_true (by omega)
   rw [Ax e3 j h, Iv j (by omega), i64_in (((m.length : Nat) : Int) - 1) (by omega), w1, d1, d0]
   have hsz : decide ((m.length + [(e3[j].1, e3[j].1 + 1)].length) * 16 ≤ 140737488355328) = true := decide_eq_true (by simp; omega)
   rw [hsz]
   simp only [cond_true]
   by_cases hne : m = []
   ·subst hne
    rfl
   ·obtain ⟨d, p, hm, hp2, hp3⟩ := Ri (t := Ap) m hne
    have hpos : 0 < m.length := List.length_pos_iff.2 hne
    have d2 : decide ((((m.length : Nat) : Int) - 1) ≥ 0) = true := decide_eq_true (by omega)
    have d2' : decide ((0 : Int) ≤ ((m.length : Nat) : Int) - 1) = true := decide_eq_true (by omega)
    have d3 : decide (((m.length : Nat) : Int) - 1 < ((m.length : Nat) : Int)) = true := decide_eq_true (by omega)
    rw [hp2, hp3, d2, d3]
    simp only [cond_true]
    unfold Z8
    rw [hm, Cx, ← hm]
    by_cases hq : p.2 = e3[j].1
    ·rw [if_pos hq, hq, w1, show ((e3[j].1 : Int) == e3[j].1) = true from beq_self_eq_true _]; rfl
    ·rw [if_neg hq, show ((p.2 : Int) == e3[j].1) = false from beq_eq_false_iff_ne.2 hq]
     simp only [cond_false, Option.getD_none]
     by_cases hlt : ((m.length : Nat) : Int) < 2
     ·rw [decide_eq_true hlt, if_pos (by omega)]; rfl
     ·rw [decide_eq_false hlt, if_neg (by omega)]; rfl)
  (fun m j h hp => Xgh 2 (by decide) m _ hp)
  (fun n m hp => by
   rw [Im]
   unfold G2; (try dsimp only [Bi])
   rw [decide_eq_false (by omega : ¬ ((e3.length : Nat) : Int) < (e3.length : Nat))]; rfl) k [] 0 (Nat.zero_le _) (by omega) (by simp)
 rw [List.drop_zero, L2 (Z8 2)] at this
 simp only [Xau, Ua, Ch k e0 e1 e2 e3 hl hk, hok, Option.bind_some, Bool.not_true, cond_false]
 exact this
theorem Xhs (k : Nat) (e0 e1 : Int) (e2 : List (den (.int .u8))) (e3 : List (den Av)) (hok : Ba e0 e1 e2 e3 = true) (hl : e3.length ≤ 1048576) (hk : e3.length < k) : Xkr k (e0, e1, e2, e3) = some (Z6 e3) := by
 obtain ⟨h0, h1, h2, h3⟩ := A4.1 hok
 obtain ⟨hA, hpw⟩ := Q6 h3
 have := D5 e3 (fun j (m : List (Int × Int)) => m.length ≤ j) (fun n m j => H5 k (e0, e1, e2, e3) n j m) (fun m x => stI m x.1) (fun m => m.take 2)
  (fun n m j h hp => by
   obtain ⟨b1, b2⟩ := Mo (hA e3[j] (List.getElem_mem h))
   have b1 : e0 < (show Int from e3[j].1) := b1
   have b2 : (show Int from e3[j].1) < e0 + e1 - ((e2.length : Nat) : Int) := b2
   have w1 : IntKind.i64.wrap (e3[j].1 + 1) = e3[j].1 + 1 := i64_in _ (by show _ ≤ (show Int from e3[j].1) + 1 ∧ (show Int from e3[j].1) + 1 ≤ _; omega)
   rw [H5]
   unfold Hc Ij; (try dsimp only [Bi, Bp])
   have d1 : decide ((j : Int) < ((e3.length : Nat) : Int)) = true := decide_eq_true (by omega)
   have d0 : decide ((0 : Int) ≤ ((j : Nat) : Int)) = true := decide_eq_true (by omega)
   rw [Ax e3 j h, Iv j (by omega), i64_in (((m.length : Nat) : Int) - 1) (by omega), w1, d1, d0]
   have hsz : decide ((m.length + [(e3[j].1, e3[j].1 + 1)].length) * 16 ≤ 140737488355328) = true := decide_eq_true (by simp; omega)
   rw [hsz]
   simp only [cond_true]
   by_cases hne : m = []
   ·subst hne
    rfl
   ·obtain ⟨d, p, hm, hp2, hp3⟩ := Ri (t := Ap) m hne
    have hpos : 0 < m.length := List.length_pos_iff.2 hne
    have d2 : decide (((m.length : Nat) : Int) > 0) = true := decide_eq_true (by omega)
    have d2' : decide ((0 : Int) ≤ ((m.length : Nat) : Int) - 1) = true := decide_eq_true (by omega)
    have d3 : decide (((m.length : Nat) : Int) - 1 < ((m.length : Nat) : Int)) = true := decide_eq_true (by omega)
    rw [hp2, hp3, d2, d2', d3]
    simp only [cond_true]
    unfold stI
    rw [hm, Cx, ← hm]
    by_cases hq : p.2 = e3[j].1
    ·rw [if_pos hq, hq, w1, show ((e3[j].1 : Int) == e3[j].1) = true from beq_self_eq_true _]; rfl
    ·rw [if_neg hq, show ((p.2 : Int) == e3[j].1) = false from beq_eq_false_iff_ne.2 hq]; rfl)
  (fun m j h hp => by
   unfold stI
   by_cases hne : m = []
   ·subst hne; simp [mrg]
   ·obtain ⟨p, r, rfl⟩ := J8 hne
    rw [Cx]
    split <;> simp at * <;> omega)
  (fun n m hp => by
   rw [H5]
   unfold Hc; (try dsimp only [Bi])
   rw [decide_eq_false (by omega : ¬ ((e3.length : Nat) : Int) < (e3.length : Nat)), cond_false]
   have hb : ∀ x : Int, (if 2 < ((m.length : Nat) : Int) then (2 : Int) else ((m.length : Nat) : Int)) = x → 0 ≤ x ∧ x ≤ ((m.length : Nat) : Int) ∧ x.toNat = min 2 m.length := by
    intro x hx
    split at hx <;> subst hx <;> omega
   obtain ⟨x1, x2, x3⟩ := hb _ rfl
   rw [decide_eq_true x1, decide_eq_true x2, x3, Hu k _ (by simp; omega)]
   simp) k [] 0 (Nat.zero_le _) (by omega) (by simp)
 rw [List.drop_zero, L2 stI] at this
 have hr := O6 2 (by decide) (e3.map (·.1)) [] [] hpw (by simp) (.inl rfl) (fun h => absurd rfl h) (fun _ a _ p r h => by simp at h)
 simp only [List.nil_append] at hr
 rw [hr] at this
 exact this
theorem Mu (k : Nat) (a : Int) : Qg k a = some (A3 a) := by
 rw [← Bt k a]
 unfold Qg Up Xaf; (try dsimp only)
 have hm := Int.tmod_lt_of_pos a (show (0 : Int) < 65536 by omega)
 have hm2 : -65536 < a.tmod 65536 := by
  have := Int.tmod_lt_of_pos (-a) (show (0 : Int) < 65536 by omega)
  rw [Int.neg_tmod] at this
  omega
 rw [i64_in _ (by omega)]
 by_cases hn : a.tmod 65536 < 0
 ·rw [decide_eq_true hn, cond_true]
  congr 1
  rw [Int.tmod_eq_of_lt (by omega) (by omega)]
 ·rw [decide_eq_false hn, cond_false]
  congr 1
  have : (a.tmod 65536 + 65536).tmod 65536 = a.tmod 65536 := by
   rw [Int.tmod_eq_emod_of_nonneg (by omega), Int.add_emod_right, Int.emod_eq_of_lt (by omega) hm]
  exact this
def sq (r : Int × Int) : Int × Int := (A3 r.1, A3 r.2)
theorem J7 {α β : Type} (f : α → β) : ∀ (l : List α) (s : List β), l.foldl (fun s a => s ++ [f a]) s = s ++ l.map f
 | [], s => by simp
 | a :: l, s => by simp only [List.foldl_cons, J7 f l, List.map_cons, List.append_assoc, List.singleton_append]
def A0 (a11 a18 : Int) : Int := cond (a18 == a11) (IntKind.i64.wrap (a11 + 1)) a11
theorem Xyq (k : Nat) (a0 a1 a2 a3 a4 a5 a6 : Int) (a7 : List (den (.int .u8))) (a8 a9 : Int) (a10 : List (den Ap)) (a11 a12 : Int) (a13 : List (den (.int .u8))) (a14 : List (den Av)) (a15 a16 a17 : Bool) (a18 a19 a20 a21 a22 a23 : Int) (at' c2 c3 c4 : Int) (l : List (Int × Int)) (hl : l.length ≤ 2) (hk : 4 ≤ k) :
  Jc k (a0, a1, a2, a3, a4, a5, (a6, a7, a8, a9, a10), (a11, a12, a13, a14), a15, a16, a17, a18, a19, a20, a21, a22, a23) at' k 0 (a2, a4, c2, c3, c4, false, true, false, false, [], []) l = some (a2, a4, c2, c3, c4, false, true, false, false, l.map sq, []) := by
 have := D5 l (fun j (m : List (Int × Int)) => m.length ≤ j) (fun n m j => Jc k (a0, a1, a2, a3, a4, a5, (a6, a7, a8, a9, a10), (a11, a12, a13, a14), a15, a16, a17, a18, a19, a20, a21, a22, a23) at' n j (a2, a4, c2, c3, c4, false, true, false, false, m, []) l) (fun m r => m ++ [sq r])
  (fun m => (a2, a4, c2, c3, c4, false, true, false, false, m, []))
  (fun n m j h hp => by
   rw [Jc]
   unfold Jb; (try dsimp only [Bi, Bp])
   rw [Ax (t := Ap) l j h, Iv j (by omega), decide_eq_true (by omega : ((j : Nat) : Int) < (l.length : Nat)), decide_eq_true (by omega : (0 : Int) ≤ (j : Nat)), Bt, Bt]
   simp only [cond_true, Option.bind_some]
   rw [decide_eq_true (by simp; omega)]
   rfl)
  (fun m j h hp => by simp; omega)
  (fun n m hp => by
   rw [Jc]
   unfold Jb; (try dsimp only [Bi, Bp])
   rw [decide_eq_false (by omega : ¬ ((l.length : Nat) : Int) < (l.length : Nat))]; rfl) k [] 0 (Nat.zero_le _) (by omega) (by simp)
 rw [List.drop_zero, J7, List.nil_append] at this
 exact this
theorem Sh (k : Nat) (a0 a1 a2 a3 a4 a5 a6 : Int) (a7 : List (den (.int .u8))) (a8 a9 : Int) (a10 : List (den Ap)) (a11 a12 : Int) (a13 : List (den (.int .u8))) (a14 : List (den Av)) (a15 a16 a17 : Bool) (a18 a19 a20 a21 a22 a23 : Int) (at' : Int) (h0 : a0 ≠ 2) (hok : Ba a11 a12 a13 a14 = true) (hl : a14.length ≤ 1048576) (hk : a14.length < k) (hk4 : 4 ≤ k) :
  Wd k (a0, a1, a2, a3, a4, a5, (a6, a7, a8, a9, a10), (a11, a12, a13, a14), a15, a16, a17, a18, a19, a20, a21, a22, a23) at' = some (a2, a4, A3 at', A3 (A0 a11 a18), a12 - ((a13.length : Nat) : Int), false, true, false, false, (Z6 a14).map sq, []) := by
 obtain ⟨_, h1, h2, _⟩ := A4.1 hok
 have hw : Sf k (a0, a1, a2, a3, a4, a5, (a6, a7, a8, a9, a10), (a11, a12, a13, a14), a15, a16, a17, a18, a19, a20, a21, a22, a23) = some (A0 a11 a18) := by unfold Sf A0; (try dsimp only); rw [A5]
 have hf : Jx k (a11, a12, a13, a14) = some (a12 - ((a13.length : Nat) : Int)) := by
  simp only [Jx, Ch k a11 a12 a13 a14 hl hk, hok, Option.bind_some, Bool.not_true, cond_false]
  rw [i64_in _ (by omega)]
 unfold Wd Wt; (try dsimp only)
 refine (bs (Bt k at')).trans ?_
 refine (cf (beq_eq_false_iff_ne.2 h0)).trans ?_
 refine (bs hw).trans ?_
 refine (bs (Bt k _)).trans ?_
 refine (bs hf).trans ?_
 refine (bs (Xtq k a11 a12 a13 a14 hok hl hk)).trans ?_
 exact Xyq k a0 a1 a2 a3 a4 a5 a6 a7 a8 a9 a10 a11 a12 a13 a14 a15 a16 a17 a18 a19 a20 a21 a22 a23 at' _ _ _ (Z6 a14) (Cr _) hk4
theorem Xwu (k : Nat) (a0 a1 a2 a3 a4 : Int) (a5 a6 a7 a8 : Bool) (a9 : Ek) (h : a9.length ≤ 4194304) : F96 k (a0, a1, a2, a3, a4, a5, a6, a7, a8, a9, []) = some (a0, a1, a2, a3, a4, a5, a6, a7, a8, a9, []) := by
 simp only [F96, Xg4, Hu k a9 h, Option.bind_some, A8]
 rfl
theorem X2y (k : Nat) (a0 a1 a2 a3 a4 a5 a6 : Int) (a7 : List (den (.int .u8))) (a8 a9 : Int) (a10 : List (den Ap)) (a11 a12 : Int) (a13 : List (den (.int .u8))) (a14 : List (den Av)) (a15 a16 a17 : Bool) (a18 a19 a20 a21 a22 a23 : Int) (at' c2 c3 c4 : Int) (l : List (Int × Int)) (hl : l.length ≤ 2) (hk : 4 ≤ k) :
  F2 k (a0, a1, a2, a3, a4, a5, (a6, a7, a8, a9, a10), (a11, a12, a13, a14), a15, a16, a17, a18, a19, a20, a21, a22, a23) at' [] k ((l.length : Nat) : Int) 0 c2 c3 c4 [] l = some (a2, a4, c2, c3, c4, false, true, false, false, l.map sq, []) := by
 have := D5 l (fun j (m : List (Int × Int)) => m.length ≤ j) (fun n m j => F2 k (a0, a1, a2, a3, a4, a5, (a6, a7, a8, a9, a10), (a11, a12, a13, a14), a15, a16, a17, a18, a19, a20, a21, a22, a23) at' [] n ((l.length : Nat) : Int) j c2 c3 c4 m l) (fun m r => m ++ [sq r])
  (fun m => (a2, a4, c2, c3, c4, false, true, false, false, m, []))
  (fun n m j h hp => by
   rw [F2]
   unfold Hk; (try dsimp only [Bi, Bp])
   rw [Ax (t := Ap) l j h, Iv j (by omega), decide_eq_true (by omega : ((j : Nat) : Int) < (l.length : Nat)), decide_eq_true (by omega : (0 : Int) ≤ (j : Nat)), Mu, Mu]
   simp only [cond_true, Option.bind_some]
   rw [decide_eq_true (by simp; omega)]
   rfl)
  (fun m j h hp => by simp; omega)
  (fun n m hp => by
   rw [F2]
   unfold Hk; (try dsimp only [Bi, Bp])
   rw [decide_eq_false (by omega : ¬ ((l.length : Nat) : Int) < (l.length : Nat)), cond_false, Xwu k _ _ _ _ _ _ _ _ _ m (by omega)]; rfl) k [] 0 (Nat.zero_le _) (by omega) (by simp)
 rw [List.drop_zero, J7, List.nil_append] at this
 exact this
theorem Zr (k : Nat) (a0 a1 a2 a3 a4 a5 a6 : Int) (a7 : List (den (.int .u8))) (a8 a9 : Int) (a10 : List (den Ap)) (a11 a12 : Int) (a13 : List (den (.int .u8))) (a14 : List (den Av)) (a15 a16 a17 : Bool) (a18 a19 a20 a21 a22 a23 : Int) (at' : Int) (hok : Ba a11 a12 a13 a14 = true) (hl : a14.length ≤ 1048576) (hk : a14.length < k) (hk4 : 4 ≤ k) :
  Zu k (a0, a1, a2, a3, a4, a5, (a6, a7, a8, a9, a10), (a11, a12, a13, a14), a15, a16, a17, a18, a19, a20, a21, a22, a23) at' [] = some (a2, a4, A3 at', A3 (A0 a11 a18), a12 - ((a13.length : Nat) : Int), false, true, false, false, (Z6 a14).map sq, []) := by
 obtain ⟨_, h1, h2, _⟩ := A4.1 hok
 have hw : Mr k (a0, a1, a2, a3, a4, a5, (a6, a7, a8, a9, a10), (a11, a12, a13, a14), a15, a16, a17, a18, a19, a20, a21, a22, a23) = some (A0 a11 a18) := by unfold Mr A0; (try dsimp only); rw [A5]
 have hf : Fs k (a11, a12, a13, a14) = some (a12 - ((a13.length : Nat) : Int)) := by unfold Fs; (try dsimp only); rw [i64_in _ (by omega)]
 unfold Zu Y7; (try dsimp only)
 refine (bs (Mu k at')).trans ?_
 refine (bs hw).trans ?_
 refine (bs (Mu k _)).trans ?_
 refine (bs hf).trans ?_
 refine (bs (Xhs k a11 a12 a13 a14 hok hl hk)).trans ?_
 exact X2y k a0 a1 a2 a3 a4 a5 a6 a7 a8 a9 a10 a11 a12 a13 a14 a15 a16 a17 a18 a19 a20 a21 a22 a23 at' _ _ _ (Z6 a14) (Cr _) hk4
end Go.Proofs.YtjkkbmkkljpcjaaGreat.Gn
end

section
namespace Go.Proofs.YtjkkbmkkljpcjaaGreat.Gn
open Go.Rf Go.IntWalk
set_option linter.unusedVariables false
set_option linter.unusedSimpArgs false
theorem Xti (k : Nat) (a0 a1 a2 a3 a4 a5 a6 : Int) (a7 : List (den (.int .u8))) (a8 a9 : Int) (a10 : List (den Ap)) (a11 a12 : Int) (a13 : List (den (.int .u8))) (a14 : List (den Av)) (a15 a16 a17 : Bool) (a18 a19 a20 a21 a22 a23 : Int) (h0 : a0 ≠ 2) (hok : Ba a11 a12 a13 a14 = true) (hl : a14.length ≤ 1048576) (hk : a14.length < k) (hk4 : 4 ≤ k) :
  Uv k (a0, a1, a2, a3, a4, a5, (a6, a7, a8, a9, a10), (a11, a12, a13, a14), a15, a16, a17, a18, a19, a20, a21, a22, a23) = some (a2, a4, A3 (IntKind.i64.wrap (a6 + ((a7.length : Nat) : Int))), A3 (A0 a11 a18), a12 - ((a13.length : Nat) : Int), false, true, true, false, (Z6 a14).map sq, []) ∧
   Xjv k (a0, a1, a2, a3, a4, a5, (a6, a7, a8, a9, a10), (a11, a12, a13, a14), a15, a16, a17, a18, a19, a20, a21, a22, a23) = some (a2, a4, A3 (IntKind.i64.wrap (a6 + ((a7.length : Nat) : Int))), A3 (A0 a11 a18), a12 - ((a13.length : Nat) : Int), false, true, true, false, (Z6 a14).map sq, []) := by
 constructor
 ·unfold Uv Uh; (try dsimp only)
  exact (bs (Sh k a0 a1 a2 a3 a4 a5 a6 a7 a8 a9 a10 a11 a12 a13 a14 a15 a16 a17 a18 a19 a20 a21 a22 a23 _ h0 hok hl hk hk4)).trans rfl
 ·unfold Xjv Zj; (try dsimp only)
  exact (bs (Zr k a0 a1 a2 a3 a4 a5 a6 a7 a8 a9 a10 a11 a12 a13 a14 a15 a16 a17 a18 a19 a20 a21 a22 a23 _ hok hl hk hk4)).trans rfl
theorem Xpd (k : Nat) (a0 a1 a2 a3 a4 : Int) (a5 a6 a7 a8 : Bool) (a9 : List (den Ap)) (a10 : List (den (.int .u8))) (h9 : a9.length ≤ 4194304) (h10 : a10.length ≤ 4194304) : Wr k (a0, a1, a2, a3, a4, a5, a6, a7, a8, a9, a10) = some (a0, a1, a2, a3, a4, a5, a6, a7, a8, a9, a10) := by
 simp only [Wr, Qv, A8]
 rw [Hu k a9 h9, Ib k a10 h10]; rfl
theorem Xjf (k : Nat) (a0 a1 a2 a3 a4 a5 a6 : Int) (a7 : List (den (.int .u8))) (a8 a9 : Int) (a10 : List (den Ap)) (a11 a12 : Int) (a13 : List (den (.int .u8))) (a14 : List (den Av)) (a15 a16 a17 : Bool) (a18 a19 a20 a21 a22 a23 : Int) (at' : Int) (data : Br) (c2 c3 c4 : Int) (l : List (Int × Int)) (hl : l.length ≤ 2) (hd : data.length ≤ 4194304) (hk : 4 ≤ k) :
  De k (a0, a1, a2, a3, a4, a5, (a6, a7, a8, a9, a10), (a11, a12, a13, a14), a15, a16, a17, a18, a19, a20, a21, a22, a23) at' data k ((l.length : Nat) : Int) 0 (a2, a4, c2, c3, c4, false, true, false, false, [], data) l = some (a2, a4, c2, c3, c4, false, true, false, false, l.map sq, data) := by
 have := D5 l (fun j (m : List (Int × Int)) => m.length ≤ j) (fun n m j => De k (a0, a1, a2, a3, a4, a5, (a6, a7, a8, a9, a10), (a11, a12, a13, a14), a15, a16, a17, a18, a19, a20, a21, a22, a23) at' data n ((l.length : Nat) : Int) j (a2, a4, c2, c3, c4, false, true, false, false, m, data) l) (fun m r => m ++ [sq r])
  (fun m => (a2, a4, c2, c3, c4, false, true, false, false, m, data))
  (fun n m j h hp => by
   rw [De]
   unfold Ed; (try dsimp only [Bi, Bp])
   rw [Ax (t := Ap) l j h, Iv j (by omega), decide_eq_true (by omega : ((j : Nat) : Int) < (l.length : Nat)), decide_eq_true (by omega : (0 : Int) ≤ (j : Nat)), Mu, Mu]
   simp only [cond_true, Option.bind_some]
   rw [decide_eq_true (by simp; omega)]
   rfl)
  (fun m j h hp => by simp; omega)
  (fun n m hp => by
   rw [De]
   unfold Ed; (try dsimp only [Bi, Bp])
   rw [decide_eq_false (by omega : ¬ ((l.length : Nat) : Int) < (l.length : Nat)), cond_false, Xpd k _ _ _ _ _ _ _ _ _ m data (by omega) hd]; rfl) k [] 0 (Nat.zero_le _) (by omega) (by simp)
 rw [List.drop_zero, J7, List.nil_append] at this
 exact this
theorem Xd2 (k : Nat) (a0 a1 a2 a3 a4 a5 a6 : Int) (a7 : List (den (.int .u8))) (a8 a9 : Int) (a10 : List (den Ap)) (a11 a12 : Int) (a13 : List (den (.int .u8))) (a14 : List (den Av)) (a15 a16 a17 : Bool) (a18 a19 a20 a21 a22 a23 : Int) (at' : Int) (data : Br) (hd : data.length ≤ 4194304) (hok : Ba a11 a12 a13 a14 = true) (hl : a14.length ≤ 1048576) (hk : a14.length < k) (hk4 : 4 ≤ k) :
  Nt k (a0, a1, a2, a3, a4, a5, (a6, a7, a8, a9, a10), (a11, a12, a13, a14), a15, a16, a17, a18, a19, a20, a21, a22, a23) at' data = some (a2, a4, A3 at', A3 (A0 a11 a18), a12 - ((a13.length : Nat) : Int), false, true, false, false, (Z6 a14).map sq, data) := by
 obtain ⟨_, h1, h2, _⟩ := A4.1 hok
 have hw : Mr k (a0, a1, a2, a3, a4, a5, (a6, a7, a8, a9, a10), (a11, a12, a13, a14), a15, a16, a17, a18, a19, a20, a21, a22, a23) = some (A0 a11 a18) := by unfold Mr A0; (try dsimp only); rw [A5]
 have hf : Fs k (a11, a12, a13, a14) = some (a12 - ((a13.length : Nat) : Int)) := by unfold Fs; (try dsimp only); rw [i64_in _ (by omega)]
 unfold Nt Mi; (try dsimp only)
 refine (bs (Mu k at')).trans ?_
 refine (bs hw).trans ?_
 refine (bs (Mu k _)).trans ?_
 refine (bs hf).trans ?_
 refine (bs (Xhs k a11 a12 a13 a14 hok hl hk)).trans ?_
 exact Xjf k a0 a1 a2 a3 a4 a5 a6 a7 a8 a9 a10 a11 a12 a13 a14 a15 a16 a17 a18 a19 a20 a21 a22 a23 at' data _ _ _ (Z6 a14) (Cr _) hd hk4
end Go.Proofs.YtjkkbmkkljpcjaaGreat.Gn
end

section
namespace Go.Proofs.YtjkkbmkkljpcjaaGreat.Gn
open Go.Rf Go.IntWalk
set_option linter.unusedVariables false
set_option linter.unusedSimpArgs false
theorem Qx (k : Nat) (m0 : Int) (m1 : List (den (.int .u8))) (m2 m3 : Int) (m4 : List (den Ap)) (h1 : m1.length ≤ 4194304) (h4 : m4.length ≤ 4194304) : Ur k (m0, m1, m2, m3, m4) = some (m0, m1, m2, m3, m4) := by
 simp only [Ur, S7, List.nil_append, List.length_nil, Nat.zero_add, Bp, Bn]
 rw [decide_eq_true (by omega : m1.length * 1 ≤ 140737488355328), decide_eq_true (by omega : m4.length * 16 ≤ 140737488355328)]
 rfl
theorem Xg7 (k : Nat) (m0 : Int) (m1 : List (den (.int .u8))) (m2 m3 : Int) (m4 : List (den Ap)) (h1 : m1.length ≤ 4194304) (h4 : m4.length ≤ 4194304) : W9 k (m0, m1, m2, m3, m4) = some (m0, m1, m2, m3, m4) := by
 simp only [W9, Ib k m1 h1, Hu k m4 h4, Option.bind_some, Bn]
theorem Ko {to to' : Int} (h : to ≤ to') : ∀ {l : List (Int × Int)} {a : Int}, Gl to a l = true → Gl to' a l = true
 | [], _, _ => rfl
 | r :: l, a, hc => by
  simp only [Gl, Bool.and_eq_true, decide_eq_true_eq] at hc ⊢
  exact ⟨⟨hc.1.1, by omega⟩, Ko h hc.2⟩
def Gd (L m2 m3 : Int) : Int := if m2 + 12 < (if m3 < L then m3 else L) then m2 + 12 else (if m3 < L then m3 else L)
theorem Nu (L m2 m3 : Int) : Gd L m2 m3 ≤ L ∧ Gd L m2 m3 ≤ m3 ∧ Gd L m2 m3 ≤ m2 + 12 := by
 unfold Gd
 split <;> split at * <;> omega
theorem Xut (L m2 m3 : Int) : (if m3 - m2 < (if L - m2 < 12 then L - m2 else 12) then m3 - m2 else (if L - m2 < 12 then L - m2 else 12)) = Gd L m2 m3 - m2 := by
 unfold Gd
 by_cases c1 : m3 < L <;> by_cases c2 : L - m2 < 12 <;> by_cases c3 : m3 - m2 < 12 <;> by_cases c4 : m3 - m2 < L - m2 <;> simp only [c1, c2, c3, c4, if_true, if_false] <;> split <;> (try split) <;> omega
theorem Xj9 (k : Nat) (m0 : Int) (m1 : List (den (.int .u8))) (m2 m3 : Int) (m4 : List (den Ap)) (hok : Bw m0 m1 m2 m3 m4 = true) (hk : 4 ≤ k) :
  Xi6 k (m0, m1, m2, m3, m4) 12 = cond (decide (Gd ((m1.length : Nat) : Int) m2 m3 ≤ m2)) (some ((m0, m1, m2, m3, m4), m0 + m2, []))
   (some ((m0, m1, Gd ((m1.length : Nat) : Int) m2 m3, m3, m4), m0 + m2, (m1.take (Gd ((m1.length : Nat) : Int) m2 m3).toNat).drop m2.toNat)) := by
 obtain ⟨h0, h1, h2, h3, h4, h5⟩ := An.1 hok
 obtain ⟨n1, n2, n3⟩ := Nu ((m1.length : Nat) : Int) m2 m3
 unfold Xi6 Yb; (try dsimp only [Bp, Bn])
 rw [D6 k m0 m1 m2 m3 m4 hk, hok, Bf, Qx k m0 m1 m2 m3 m4 (by omega) (by omega), i64_in (m2 + 12) (by omega), i64_in (m0 + m2) (by omega)]
 have e : (if m2 + 12 < (if m3 < ((m1.length : Nat) : Int) then m3 else ((m1.length : Nat) : Int)) then m2 + 12 else (if m3 < ((m1.length : Nat) : Int) then m3 else ((m1.length : Nat) : Int))) = Gd ((m1.length : Nat) : Int) m2 m3 := rfl
 rw [e, show Bq 12 1 12 = true from rfl]
 simp only [Option.bind_some, Bool.not_true, cond_false, List.nil_append, List.length_nil, Nat.zero_add]
 by_cases c : Gd ((m1.length : Nat) : Int) m2 m3 ≤ m2
 ·rw [decide_eq_true c]; rfl
 ·rw [decide_eq_false c, decide_eq_true (by omega : 0 ≤ Gd ((m1.length : Nat) : Int) m2 m3), decide_eq_true n1, decide_eq_true h2.1, decide_eq_true (by omega : m2 ≤ Gd ((m1.length : Nat) : Int) m2 m3)]
  rw [decide_eq_true (by rw [List.length_drop, List.length_take]; omega)]
  rfl
theorem Xix (k : Nat) (m0 : Int) (m1 : List (den (.int .u8))) (m2 m3 : Int) (m4 : List (den Ap)) (b : den A9 × Bool × Bool × Bool × Int × Int × Int × den Uw) (hok : Bw m0 m1 m2 m3 m4 = true) :
  Xj0 k ((m0, m1, m2, m3, m4), b) 12 = cond (decide (Gd ((m1.length : Nat) : Int) m2 m3 ≤ m2)) (some (m0 + m2, [], (m0, m1, m2, m3, m4), b))
   (some (m0 + m2, (m1.take (Gd ((m1.length : Nat) : Int) m2 m3).toNat).drop m2.toNat, (m0, m1, Gd ((m1.length : Nat) : Int) m2 m3, m3, m4), b)) := by
 obtain ⟨h0, h1, h2, h3, h4, h5⟩ := An.1 hok
 obtain ⟨n1, n2, n3⟩ := Nu ((m1.length : Nat) : Int) m2 m3
 unfold Xj0 Y4; (try dsimp only [u_7])
 rw [i64_in (m3 - m2) (by omega), i64_in (((m1.length : Nat) : Int) - m2) (by omega), i64_in (m0 + m2) (by omega), Xut]
 have e2 : IntKind.i64.wrap (m2 + (Gd ((m1.length : Nat) : Int) m2 m3 - m2)) = Gd ((m1.length : Nat) : Int) m2 m3 := by
  have : m2 + (Gd ((m1.length : Nat) : Int) m2 m3 - m2) = Gd ((m1.length : Nat) : Int) m2 m3 := by omega
  by_cases c : -1000000 ≤ Gd ((m1.length : Nat) : Int) m2 m3
  ·rw [this, i64_in _ (by omega)]
  ·exfalso
   unfold Gd at c
   split at c <;> split at c <;> omega
 rw [e2]
 by_cases c : Gd ((m1.length : Nat) : Int) m2 m3 ≤ m2
 ·rw [decide_eq_true c, decide_eq_true (by omega : Gd ((m1.length : Nat) : Int) m2 m3 - m2 ≤ 0)]; rfl
 ·rw [decide_eq_false c, decide_eq_false (by omega : ¬ Gd ((m1.length : Nat) : Int) m2 m3 - m2 ≤ 0), decide_eq_true (by omega : 0 ≤ Gd ((m1.length : Nat) : Int) m2 m3), decide_eq_true n1, decide_eq_true h2.1, decide_eq_true (by omega : m2 ≤ Gd ((m1.length : Nat) : Int) m2 m3)]
  rw [Ib k _ (by rw [List.length_drop, List.length_take]; omega)]
  rfl
def tl (f : Int → Br → den seg) (m1 : Br) (m3 : Int) : Nat → Int → sgL → Int × sgL
 | 0, m2, l => (m2, l)
 | n + 1, m2, l => cond (decide (Gd ((m1.length : Nat) : Int) m2 m3 ≤ m2)) (m2, l) (tl f m1 m3 n (Gd ((m1.length : Nat) : Int) m2 m3) (l ++ [f m2 ((m1.take (Gd ((m1.length : Nat) : Int) m2 m3).toNat).drop m2.toNat)]))
theorem Nf (f : Int → Br → den seg) (m1 : Br) (m3 : Int) (hf : ∀ x d, d.length ≤ 12 → Bv 20 (f x d)) : ∀ (n : Nat) (m2 : Int) (l : sgL), 0 ≤ m2 → m2 ≤ ((m1.length : Nat) : Int) → (∀ s ∈ l, Bv 20 s) →
  m2 ≤ (tl f m1 m3 n m2 l).1 ∧ (tl f m1 m3 n m2 l).1 ≤ ((m1.length : Nat) : Int) ∧ ((tl f m1 m3 n m2 l).2.length : Int) + ((m1.length : Nat) : Int) ≤ (l.length : Int) + ((m1.length : Nat) : Int) + ((m1.length : Nat) : Int) - m2 ∧ ∀ s ∈ (tl f m1 m3 n m2 l).2, Bv 20 s
 | 0, m2, l, h0, h1, h2 => ⟨Int.le_refl _, h1, by simp only [tl]; omega, h2⟩
 | n + 1, m2, l, h0, h1, h2 => by
  rw [tl]
  obtain ⟨n1, n2, n3⟩ := Nu ((m1.length : Nat) : Int) m2 m3
  by_cases c : Gd ((m1.length : Nat) : Int) m2 m3 ≤ m2
  ·rw [decide_eq_true c, cond_true]
   exact ⟨Int.le_refl _, h1, by show (l.length : Int) + _ ≤ _; omega, h2⟩
  ·rw [decide_eq_false c, cond_false]
   obtain ⟨q1, q2, q3, q4⟩ := Nf f m1 m3 hf n (Gd ((m1.length : Nat) : Int) m2 m3) (l ++ [f m2 ((m1.take (Gd ((m1.length : Nat) : Int) m2 m3).toNat).drop m2.toNat)]) (by omega) n1 (by
    intro s hs
    rcases List.mem_append.1 hs with hs | hs
    ·exact h2 s hs
    ·obtain rfl := List.mem_singleton.1 hs
     exact hf _ _ (by rw [List.length_drop, List.length_take]; omega))
   refine ⟨by omega, q2, ?_, q4⟩
   simp only [List.length_append, List.length_singleton] at q3
   omega
def P0 (a2 a4 a6 a11 a12 : Int) (a13 : Br) (a14 : Kb) (a18 : Int) (m2 : Int) (d : Br) : den seg :=
 (a2, a4, A3 (a6 + m2), A3 (A0 a11 a18), a12 - ((a13.length : Nat) : Int), false, true, false, false, (Z6 a14).map sq, d)
theorem Xi (m1 : Br) (x m2 : Int) (h0 : 0 ≤ m2) (h1 : m2 < x) (h2 : x ≤ ((m1.length : Nat) : Int)) : ((((m1.take x.toNat).drop m2.toNat).length : Nat) : Int) = x - m2 := by
 rw [List.length_drop, List.length_take]; omega
theorem Ii (k : Nat) (a0 a1 a2 a3 a4 a5 a6 : Int) (a7 : List (den (.int .u8))) (a8 a9 : Int) (a10 : List (den Ap)) (a11 a12 : Int) (a13 : List (den (.int .u8))) (a14 : List (den Av)) (a15 a16 a17 : Bool) (a18 a19 a20 a21 a22 a23 : Int) (h4 : a0 = 4) (hok : Ba a11 a12 a13 a14 = true) (h14 : a14.length ≤ 1048576) (hk : 1048576 < k) : ∀ (n : Nat) (x : Int) (l : sgL), Bw a6 a7 x a9 a10 = true → ((a7.length : Nat) : Int) - x < n → l.length + n ≤ 4194304 →
  H6 k (a0, a1, a2, a3, a4, a5, (a6, a7, a8, a9, a10), (a11, a12, a13, a14), a15, a16, a17, a18, a19, a20, a21, a22, a23) n (a0, a1, a2, a3, a4, a5, (a6, a7, x, a9, a10), (a11, a12, a13, a14), a15, a16, a17, a18, a19, a20, a21, a22, a23) l =
   some ((a0, a1, a2, a3, a4, a5, (a6, a7, (tl (P0 a2 a4 a6 a11 a12 a13 a14 a18) a7 a9 n x l).1, a9, a10), (a11, a12, a13, a14), a15, a16, a17, a18, a19, a20, a21, a22, a23), (tl (P0 a2 a4 a6 a11 a12 a13 a14 a18) a7 a9 n x l).2)
 | 0, x, l, hm, hn, _ => by
  obtain ⟨h0, h1, h2, h3, h4, h5⟩ := An.1 hm
  omega
 | n + 1, x, l, hm, hn, hl => by
  obtain ⟨h0, h1, h2, h3, h4', h5⟩ := An.1 hm
  obtain ⟨n1, n2, n3⟩ := Nu ((a7.length : Nat) : Int) x a9
  rw [H6, tl]
  unfold Hj; (try dsimp only [Bp])
  rw [Xj9 k a6 a7 x a9 a10 hm (by omega), show (a0 == 4) = true from beq_iff_eq.2 h4]
  by_cases c : Gd ((a7.length : Nat) : Int) x a9 ≤ x
  ·rw [decide_eq_true c]
   rfl
  ·rw [decide_eq_false c]
   simp only [cond_true, cond_false, Option.bind_some]
   have hd := Xi a7 (Gd ((a7.length : Nat) : Int) x a9) x h2.1 (by omega) n1
   rw [show ((((((a7.take (Gd ((a7.length : Nat) : Int) x a9).toNat).drop x.toNat).length : Nat) : Int)) == 0) = false from beq_eq_false_iff_ne.2 (by omega)]
   rw [Sh k a0 a1 a2 a3 a4 a5 a6 a7 (Gd ((a7.length : Nat) : Int) x a9) a9 a10 a11 a12 a13 a14 a15 a16 a17 a18 a19 a20 a21 a22 a23 (a6 + x) (by omega) hok h14 (by omega) (by omega)]
   simp only [cond_false, Option.bind_some]
   rw [decide_eq_true (by simp; omega)]
   simp only [cond_true]
   exact Ii k a0 a1 a2 a3 a4 a5 a6 a7 a8 a9 a10 a11 a12 a13 a14 a15 a16 a17 a18 a19 a20 a21 a22 a23 h4 hok h14 hk n (Gd ((a7.length : Nat) : Int) x a9) _ (An.2 ⟨h0, h1, ⟨by omega, n1⟩, h3, h4', Ko (by omega) h5⟩) (by omega) (by simp; omega)
theorem Rg (k : Nat) (a0 a1 a2 a3 a4 a5 a6 : Int) (a7 : List (den (.int .u8))) (a8 a9 : Int) (a10 : List (den Ap)) (a11 a12 : Int) (a13 : List (den (.int .u8))) (a14 : List (den Av)) (a15 a16 a17 : Bool) (a18 a19 a20 a21 a22 a23 : Int) (h4 : a0 = 4) (hok : Ba a11 a12 a13 a14 = true) (h14 : a14.length ≤ 1048576) (hk : 1048576 < k) : ∀ (n : Nat) (x : Int) (l : sgL), Bw a6 a7 x a9 a10 = true → ((a7.length : Nat) : Int) - x < n → l.length + n ≤ 4194304 →
  Ke k (a0, a1, a2, a3, a4, a5, (a6, a7, a8, a9, a10), (a11, a12, a13, a14), a15, a16, a17, a18, a19, a20, a21, a22, a23) n (a0, a1, a2, a3, a4, a5, (a6, a7, x, a9, a10), (a11, a12, a13, a14), a15, a16, a17, a18, a19, a20, a21, a22, a23) l =
   some ((tl (P0 a2 a4 a6 a11 a12 a13 a14 a18) a7 a9 n x l).2, (a0, a1, a2, a3, a4, a5, (a6, a7, (tl (P0 a2 a4 a6 a11 a12 a13 a14 a18) a7 a9 n x l).1, a9, a10), (a11, a12, a13, a14), a15, a16, a17, a18, a19, a20, a21, a22, a23))
 | 0, x, l, hm, hn, _ => by
  obtain ⟨h0, h1, h2, h3, h4, h5⟩ := An.1 hm
  omega
 | n + 1, x, l, hm, hn, hl => by
  obtain ⟨h0, h1, h2, h3, h4', h5⟩ := An.1 hm
  obtain ⟨n1, n2, n3⟩ := Nu ((a7.length : Nat) : Int) x a9
  rw [Ke, tl]
  unfold Kp; (try dsimp only [Bp])
  rw [Xix k a6 a7 x a9 a10 _ hm, show (a0 == 4) = true from beq_iff_eq.2 h4]
  by_cases c : Gd ((a7.length : Nat) : Int) x a9 ≤ x
  ·rw [decide_eq_true c]
   rfl
  ·rw [decide_eq_false c]
   simp only [cond_true, cond_false, Option.bind_some]
   have hd := Xi a7 (Gd ((a7.length : Nat) : Int) x a9) x h2.1 (by omega) n1
   rw [show ((((((a7.take (Gd ((a7.length : Nat) : Int) x a9).toNat).drop x.toNat).length : Nat) : Int)) == 0) = false from beq_eq_false_iff_ne.2 (by omega)]
   rw [Xd2 k a0 a1 a2 a3 a4 a5 a6 a7 (Gd ((a7.length : Nat) : Int) x a9) a9 a10 a11 a12 a13 a14 a15 a16 a17 a18 a19 a20 a21 a22 a23 (a6 + x) _ (by omega) hok h14 (by omega) (by omega)]
   simp only [cond_false, Option.bind_some]
   rw [decide_eq_true (by simp; omega)]
   simp only [cond_true]
   exact Rg k a0 a1 a2 a3 a4 a5 a6 a7 a8 a9 a10 a11 a12 a13 a14 a15 a16 a17 a18 a19 a20 a21 a22 a23 h4 hok h14 hk n (Gd ((a7.length : Nat) : Int) x a9) _ (An.2 ⟨h0, h1, ⟨by omega, n1⟩, h3, h4', Ko (by omega) h5⟩) (by omega) (by simp; omega)
theorem Xi7 (k : Nat) (l : sgL) (h : l.length ≤ 4194304) : F66 k l = some l := by
 simp only [F66, Xh5, F99, Xgf, List.nil_append, List.length_nil, Nat.zero_add, Bp]
 rw [decide_eq_true (by omega : l.length * 96 ≤ 140737488355328), decide_eq_true (by omega : (0 : Int) ≤ ((l.length : Nat) : Int))]
 cases l with
 | nil => rfl
 | cons a r =>
  rw [show ((((a :: r).length : Nat) : Int) == 0) = false by rw [beq_eq_false_iff_ne]; simp only [List.length_cons]; omega]
  simp
def Sm {β : Type} (o : Option β) (P : β → Prop) : Prop := ∃ r, o = some r ∧ P r
theorem Sm.bind {α β : Type} {o : Option α} {f : α → Option β} {P : α → Prop} {Q : β → Prop} (h : Sm o P) (g : ∀ r, P r → Sm (f r) Q) : Sm (o.bind f) Q := by
 obtain ⟨r, e, p⟩ := h
 rw [e]
 exact g r p
theorem Sm.cond {β : Type} {c : Bool} {a b : Option β} {Q : β → Prop} (h1 : c = true → Sm a Q) (h2 : c = false → Sm b Q) : Sm (cond c a b) Q := by
 cases c
 ·exact h2 rfl
 ·exact h1 rfl
theorem Sm.ct {β : Type} {c : Bool} {a b : Option β} {Q : β → Prop} (hc : c = true) (h : Sm a Q) : Sm (_root_.cond c a b) Q := by rw [hc]; exact h
theorem Sm.cf {β : Type} {c : Bool} {a b : Option β} {Q : β → Prop} (hc : c = false) (h : Sm b Q) : Sm (_root_.cond c a b) Q := by rw [hc]; exact h
theorem Xr1 (x : Int) : -9223372036854775808 ≤ IntKind.i64.wrap x ∧ IntKind.i64.wrap x ≤ 9223372036854775807 := by rw [IntKind.wrap_i64]; omega
def BOk (b : Br) : Prop := ∀ x ∈ b, @LE.le Int _ 0 x ∧ @LE.le Int _ x 255
theorem D9 {t : Ty} {l : List (den t)} {i : Int} (h0 : 0 ≤ i) (h1 : i < (l.length : Nat)) : Bd l i ∈ l := by
 obtain ⟨j, rfl⟩ := Int.eq_ofNat_of_zero_le h0
 rw [Ax l j (by omega)]
 exact List.getElem_mem _
theorem Xkb (x y : Int) (hx : 0 ≤ x ∧ x < 2 ^ 50) (hy : 0 ≤ y ∧ y < 2 ^ 50) : 0 ≤ Dt .xor .i64 x y ∧ Dt .xor .i64 x y < 2 ^ 50 := by
 obtain ⟨a, rfl⟩ := Int.eq_ofNat_of_zero_le hx.1
 obtain ⟨b, rfl⟩ := Int.eq_ofNat_of_zero_le hy.1
 have ha : a < 2 ^ 50 := by omega
 have hb : b < 2 ^ 50 := by omega
 have h1 : (BitVec.ofInt 64 (a : Int) ^^^ BitVec.ofInt 64 (b : Int)).toNat = a ^^^ b := by
  rw [BitVec.toNat_xor]
  simp only [BitVec.ofInt_natCast, BitVec.toNat_ofNat]
  rw [Nat.mod_eq_of_lt (by omega), Nat.mod_eq_of_lt (by omega)]
 have h2 : a ^^^ b < 2 ^ 50 := Nat.xor_lt_two_pow ha hb
 have h3 : Dt .xor .i64 (a : Int) (b : Int) = ((a ^^^ b : Nat) : Int) := by
  show IntKind.i64.wrap (((BitVec.ofInt 64 (a : Int) ^^^ BitVec.ofInt 64 (b : Int)).toNat : Nat) : Int) = _
  rw [h1, i64_in _ (by omega)]
 rw [h3]
 omega
theorem Xha (k : Nat) (b : Br) (hb : BOk b) (hl : b.length ≤ 2000) (p n : Int) (hp : 0 ≤ p) (hp2 : p < 2 ^ 30) : ∃ r, C6 k (b, p) n = some (r, (b, p + 1)) ∧ 0 ≤ r ∧ (1 ≤ n → r < n) ∧ (n < 1 → r = 0) := by
 unfold C6 Xgr; (try dsimp only [Bi, u_0])
 rw [i64_in (p + 1) (by omega), show p + 1 - 1 = p by omega, i64_in p (by omega)]
 by_cases hn : n < 1
 ·rw [decide_eq_true hn]; exact ⟨0, rfl, by omega, by omega, fun _ => rfl⟩
 ·rw [decide_eq_false hn, cond_false]
  by_cases h0 : b.length = 0
  ·have : (((b.length : Nat) : Int) == 0) = true := by simp [h0]
   rw [this]; exact ⟨0, rfl, by omega, by omega, fun _ => rfl⟩
  ·have : (((b.length : Nat) : Int) == 0) = false := by simp [h0]
   rw [this, cond_false]
   have hpos : 0 < ((b.length : Nat) : Int) := by omega
   by_cases hlt : p < ((b.length : Nat) : Int)
   ·rw [decide_eq_true hlt, decide_eq_true hp, decide_eq_false (by omega : ¬ n = 0)]
    simp only [cond_true, cond_false]
    have hm := hb _ (D9 hp hlt)
    rw [i64_in (Bd b p) ⟨Int.le_trans (by decide) hm.1, Int.le_trans hm.2 (by decide)⟩]
    exact ⟨_, rfl, Int.tmod_nonneg _ hm.1, fun h => Int.tmod_lt_of_pos _ (by omega), by omega⟩
   ·rw [decide_eq_false hlt, decide_eq_false (by omega : ¬ ((b.length : Nat) : Int) = 0)]
    simp only [cond_false]
    rw [i64_in (p * 7) (by omega), i64_in (p * 7 + 3) (by omega)]
    have m1 : 0 ≤ p.tmod ((b.length : Nat) : Int) := Int.tmod_nonneg _ hp
    have m2 : p.tmod ((b.length : Nat) : Int) < ((b.length : Nat) : Int) := Int.tmod_lt_of_pos _ hpos
    have m3 : 0 ≤ (p * 7 + 3).tmod ((b.length : Nat) : Int) := Int.tmod_nonneg _ (by omega)
    have m4 : (p * 7 + 3).tmod ((b.length : Nat) : Int) < ((b.length : Nat) : Int) := Int.tmod_lt_of_pos _ hpos
    have m5 : 0 ≤ p.tdiv ((b.length : Nat) : Int) := Int.tdiv_nonneg hp (by omega)
    have m6 : p.tdiv ((b.length : Nat) : Int) ≤ p := Int.tdiv_le_self _ hp
    rw [decide_eq_true m1, decide_eq_true m2, decide_eq_true m3, decide_eq_true m4, decide_eq_false (by omega : ¬ n = 0)]
    simp only [cond_true, cond_false]
    have g1 := hb _ (D9 m1 m2)
    have g2 := hb _ (D9 m3 m4)
    obtain ⟨x1, hx1⟩ : ∃ x : Int, x = Bd b (p.tmod ((b.length : Nat) : Int)) := ⟨_, rfl⟩
    obtain ⟨x2, hx2⟩ : ∃ x : Int, x = Bd b ((p * 7 + 3).tmod ((b.length : Nat) : Int)) := ⟨_, rfl⟩
    rw [← hx1] at g1 ⊢
    rw [← hx2] at g2 ⊢
    generalize p.tdiv ((b.length : Nat) : Int) = q at *
    have g1 : 0 ≤ x1 ∧ x1 ≤ 255 := g1
    have g2 : 0 ≤ x2 ∧ x2 ≤ 255 := g2
    rw [i64_in x1 (by omega), i64_in x2 (by omega), i64_in (x1 * 131) (by omega), i64_in (x2 * 1117) (by omega), i64_in (x1 * 131 + x2 * 1117) (by omega), i64_in (p * 29) (by omega), i64_in (x1 * 131 + x2 * 1117 + p * 29) (by omega),
     i64_in q (by omega), i64_in (q * 53) (by omega), i64_in (x1 * 131 + x2 * 1117 + p * 29 + q * 53) (by omega)]
    generalize hX : x1 * 131 + x2 * 1117 + p * 29 + q * 53 = X
    have hX1 : 0 ≤ X ∧ X < 2 ^ 50 := by omega
    have d1 : 0 ≤ X.tdiv 64 := Int.tdiv_nonneg hX1.1 (by omega)
    have d2 : X.tdiv 64 ≤ X := Int.tdiv_le_self _ hX1.1
    rw [i64_in (X.tdiv 64) (by omega)]
    have hxo := Xkb X (X.tdiv 64) hX1 (by omega)
    exact ⟨_, rfl, Int.tmod_nonneg _ hxo.1, fun h => Int.tmod_lt_of_pos _ (by omega), by omega⟩
theorem pk {β : Type} (k : Nat) {b : Br} (hb : BOk b) (hl : b.length ≤ 2000) {p n : Int} (hp : 0 ≤ p) (hp2 : p < 1000000) (hn : 1 ≤ n) {f : Int × Br × Int → Option β} {Q : β → Prop}
  (h : ∀ x : Int, 0 ≤ x → x < n → Sm (f (x, b, p + 1)) Q) : Sm ((C6 k (b, p) n).bind f) Q := by
 obtain ⟨r, e, h0, h1, _⟩ := Xha k b hb hl p n hp (by omega)
 rw [e]
 exact h r h0 (h1 hn)
theorem Xu2 (k : Nat) (b : Br) (hb : BOk b) : ∃ b', F80 k b = some (b', 0) ∧ BOk b' ∧ b'.length ≤ 2000 := by
 unfold F80 Xg0; (try dsimp only)
 by_cases h : ((b.length : Nat) : Int) > 2000
 ·rw [decide_eq_true h, cond_true]
  rw [decide_eq_true (by omega : (2000 : Int) ≤ ((b.length : Nat) : Int))]
  exact ⟨_, rfl, fun x hx => hb x (List.mem_of_mem_take hx), by simp; omega⟩
 ·rw [decide_eq_false h, cond_false]
  exact ⟨_, rfl, hb, by omega⟩
theorem BOk.of {b : Br} (h : Wf (.sl (.int .u8)) b) : BOk b := fun x hx => by
 have := h.2 x hx
 unfold Wf Lit.wf at this
 simp only [Bool.and_eq_true, decide_eq_true_eq] at this
 exact this
theorem sqk {β : Type} (k : Nat) {b : Br} (hb : BOk b) (hl : b.length ≤ 2000) {p : Int} (hp : 0 ≤ p) (hp2 : p < 999900) {f : Int × Br × Int → Option β} {Q : β → Prop}
  (h : ∀ x : Int, -100000 ≤ x → x ≤ 100000 → Sm (f (x, b, p + 6)) Q) : Sm ((Yp k (b, p)).bind f) Q := by
 refine Sm.bind (P := fun r => -100000 ≤ r.1 ∧ r.1 ≤ 100000 ∧ r.2 = (b, p + 6)) ?_ (fun r hr => ?_)
 ·unfold Yp Yd; (try dsimp only [Bi])
  refine pk k hb hl (by omega) (by omega) (by omega) fun x1 _ _ => ?_
  dsimp only
  refine pk k hb hl (by omega) (by omega) (by omega) fun x2 _ _ => ?_
  dsimp only
  refine pk k hb hl (by omega) (by omega) (by omega) fun x3 _ _ => ?_
  dsimp only
  refine pk k hb hl (by omega) (by omega) (by omega) fun x4 _ _ => ?_
  dsimp only
  refine pk k hb hl (by omega) (by omega) (by omega) fun x5 _ _ => ?_
  dsimp only
  refine pk k hb hl (by omega) (by omega) (by omega) fun x6 h6 h7 => ?_
  dsimp only
  rw [i64_in (65535 - x2) (by omega), i64_in (32768 + x3) (by omega), i64_in (32768 + x3 - 2) (by omega), i64_in (x4 * 256) (by omega), i64_in (x4 * 256 + x5) (by omega)]
  refine Sm.ct (decide_eq_true h6) (Sm.ct (decide_eq_true (by simp only [List.length_cons, List.length_nil]; omega)) ⟨_, rfl, ?_⟩)
  have hc : x6 = 0 ∨ x6 = 1 ∨ x6 = 2 ∨ x6 = 3 := by omega
  rcases hc with rfl | rfl | rfl | rfl
  ·exact ⟨show -100000 ≤ x1 by omega, show x1 ≤ 100000 by omega, by simp only [Prod.mk.injEq, true_and]; omega⟩
  ·exact ⟨show -100000 ≤ 65535 - x2 by omega, show 65535 - x2 ≤ 100000 by omega, by simp only [Prod.mk.injEq, true_and]; omega⟩
  ·exact ⟨show -100000 ≤ 32768 + x3 - 2 by omega, show 32768 + x3 - 2 ≤ 100000 by omega, by simp only [Prod.mk.injEq, true_and]; omega⟩
  ·exact ⟨show -100000 ≤ x4 * 256 + x5 by omega, show x4 * 256 + x5 ≤ 100000 by omega, by simp only [Prod.mk.injEq, true_and]; omega⟩
 ·obtain ⟨x, y⟩ := r
  obtain ⟨h0, h1, rfl⟩ := hr
  exact h x h0 h1
theorem Xgu (k : Nat) (a0 : Br) (a1 a2 : Int) {b : Br} (hb : BOk b) (hl : b.length ≤ 2000) : ∀ (n c : Nat) (p : Int) (m : Br), c < n → c ≤ 100 → 0 ≤ p → p + 2 * c < 999900 → m.length + c ≤ 1000 →
  Sm (Jo k (a0, a1) a2 n (c : Int) (b, p) m) fun r => r.1.length = m.length + c ∧ r.2 = (b, p + 2 * c)
 | 0, c, p, m, h, _, _, _, _ => by omega
 | n + 1, 0, p, m, h, hc, hp, hp2, hm => by
  rw [Jo]
  unfold Jh; (try dsimp only [Bp])
  refine Sm.cf (decide_eq_false (by omega)) ⟨_, rfl, by simp, ?_⟩
  simp
 | n + 1, c + 1, p, m, h, hc, hp, hp2, hm => by
  rw [Jo]
  unfold Jh; (try dsimp only [Bp])
  have e : IntKind.i64.wrap (((c + 1 : Nat) : Int) - 1) = (c : Int) := by rw [i64_in _ (by omega)]; omega
  rw [e]
  have fin : ∀ y : den (.int .u8), Sm (Jo k (a0, a1) a2 n (c : Int) (b, p + 1 + 1) (m ++ [y])) fun r => r.1.length = m.length + (c + 1) ∧ r.2 = (b, p + 2 * ((c + 1 : Nat) : Int)) := fun y => by
   obtain ⟨r, e1, e2, e3⟩ := Xgu k a0 a1 a2 hb hl n c (p + 1 + 1) (m ++ [y]) (by omega) (by omega) (by omega) (by omega) (by
    simp only [List.length_append, List.length_singleton]
    omega)
   refine ⟨r, e1, by rw [e2]; simp only [List.length_append, List.length_singleton]; omega, ?_⟩
   rw [e3]
   simp only [Prod.mk.injEq, true_and]
   omega
  refine Sm.ct (decide_eq_true (by omega)) ?_
  refine pk k hb hl (by omega) (by omega) (by omega) fun x1 _ _ => ?_
  dsimp only
  refine Sm.cond (fun _ => ?_) (fun _ => ?_)
  ·refine pk k hb hl (by omega) (by omega) (by omega) fun x2 _ _ => ?_
   dsimp only
   exact Sm.ct (decide_eq_true (by simp only [List.length_singleton]; omega)) (fin _)
  ·refine pk k hb hl (by omega) (by omega) (by omega) fun x2 _ _ => ?_
   dsimp only
   exact Sm.ct (decide_eq_true (by simp only [List.length_singleton]; omega)) (fin _)
theorem btk {β : Type} (k : Nat) (hk : 100 < k) {b : Br} (hb : BOk b) (hl : b.length ≤ 2000) {p n : Int} (hp : 0 ≤ p) (hp2 : p < 999000) (hn : 0 ≤ n ∧ n ≤ 100) {f : Br × Br × Int → Option β} {Q : β → Prop}
  (h : ∀ x : Br, (x.length : Int) = n → Sm (f (x, b, p + 2 * n)) Q) : Sm ((F95 k (b, p) n).bind f) Q := by
 obtain ⟨c, rfl⟩ := Int.eq_ofNat_of_zero_le hn.1
 obtain ⟨⟨x, y⟩, e, e1, e2⟩ := Xgu k b p (c : Int) hb hl k c p [] (by omega) (by omega) (by omega) (by omega) (by simp; omega)
 dsimp only at e1 e2
 subst e2
 rw [show F95 k (b, p) (c : Int) = some (x, (b, p + 2 * (c : Int))) from e]
 exact h x (by rw [e1]; simp)
theorem odk {β : Type} (k : Nat) {b : Br} (hb : BOk b) (hl : b.length ≤ 2000) {p n : Int} (hp : 0 ≤ p) (hp2 : p < 1000000) {f : Bool × Br × Int → Option β} {Q : β → Prop}
  (h : ∀ (x : Bool) (p' : Int), p ≤ p' → p' ≤ p + 1 → Sm (f (x, b, p')) Q) : Sm ((Zo k (b, p) n).bind f) Q := by
 unfold Zo Wx; (try dsimp only)
 by_cases hn : n > 0
 ·rw [decide_eq_true hn, cond_true]
  obtain ⟨r, e, _⟩ := Xha k b hb hl p n hp (by omega)
  rw [e]
  exact h _ (p + 1) (by omega) (by omega)
 ·rw [decide_eq_false hn]
  exact h _ _ (by omega) (by omega)
end Go.Proofs.YtjkkbmkkljpcjaaGreat.Gn
end

section
namespace Go.Proofs.YtjkkbmkkljpcjaaGreat.Gn
open Go.Rf Go.IntWalk
set_option linter.unusedVariables false
set_option linter.unusedSimpArgs false
theorem Ct {a0 a1 a2 a3 a4 : Int} {a5 a6 a7 a8 : Bool} {a9 : List (den Ap)} {a10 : List (den (.int .u8))} (h : Gq a0 a1 a2 a3 a4 a5 a6 a7 a8 a9 a10 = true) : (1 ≤ a0 ∧ a0 ≤ 255) ∧ (1 ≤ a1 ∧ a1 ≤ 255) ∧ (0 ≤ a2 ∧ a2 ≤ 65535) ∧ (0 ≤ a3 ∧ a3 ≤ 65535) ∧ (0 ≤ a4 ∧ a4 ≤ 255) ∧ a9.length ≤ 2 ∧ a10.length ≤ 12 ∧ a9.all U9 = true := by
 unfold Gq Bq at h
 simp only [Bool.and_eq_true, Bool.not_eq_true', decide_eq_false_iff_not, decide_eq_true_eq] at h
 obtain ⟨⟨⟨⟨⟨⟨⟨q0, q1⟩, q2⟩, q3⟩, q4⟩, q5⟩, q6⟩, q7, _⟩ := h
 exact ⟨q0, q1, q2, q3, q4, by omega, by omega, q7⟩
theorem Xii : ∀ (l : List Int) (lo hi : Int), l.Pairwise (· < ·) → (∀ x ∈ l, lo < x ∧ x < hi) → lo < hi → (l.length : Int) ≤ hi - lo - 1
 | [], lo, hi, _, _, h => by simp; omega
 | x :: r, lo, hi, hp, hx, h => by
  obtain ⟨hp1, hp2⟩ := List.pairwise_cons.1 hp
  have h1 := hx x (by simp)
  have := Xii r x hi hp2 (fun y hy => ⟨hp1 y hy, (hx y (by simp [hy])).2⟩) h1.2
  simp only [List.length_cons]
  omega
theorem Ci {e0 e1 : Int} {e2 : List (den (.int .u8))} {e3 : List (den Av)} (h : Ba e0 e1 e2 e3 = true) : e3.length ≤ 32 ∧ e2.length ≤ 32 := by
 obtain ⟨h0, h1, h2, h3⟩ := A4.1 h
 obtain ⟨hA, hP⟩ := Q6 h3
 refine ⟨?_, by omega⟩
 rcases Nat.eq_zero_or_pos e3.length with hz | hp
 ·omega
 ·have hb : ∀ x ∈ (e3 : List (Int × Int)).map (·.1), e0 < x ∧ x < e0 + e1 - ((e2.length : Nat) : Int) := fun x hx => by
   obtain ⟨y, hy, rfl⟩ := List.mem_map.1 hx
   exact Mo (hA y hy)
  have hne : e0 < e0 + e1 - ((e2.length : Nat) : Int) := by
   have := hb _ (List.mem_map.2 ⟨_, List.getElem_mem hp, rfl⟩)
   omega
  have := Xii _ _ _ hP hb hne
  rw [List.length_map] at this
  have h4 : ((List.length (α := Int × Int) e3 : Nat) : Int) = ((e3.length : Nat) : Int) := rfl
  omega
theorem Xgy (k : Nat) (v : Kb) (w0 w1 : Int) (hv : v.length ≤ 100000) : ∀ (n j : Nat) (d : Bool) (m : Kb), j ≤ v.length → v.length - j < n → m.length + (v.length - j) + (bif d then 0 else 1) ≤ 200000 →
  Sm (Dk k v (w0, w1) n d (j : Int) m) fun r => r.length ≤ m.length + (v.length - j) + (if d then 0 else 1)
 | 0, j, d, m, _, h, _ => by omega
 | n + 1, j, d, m, hj, h, hm => by
  rw [Dk]
  unfold G4 Fg Fb; (try dsimp only [Bi, Bp, Sg])
  rcases Nat.lt_or_ge j v.length with hlt | hge
  ·have d1 : decide ((j : Int) < ((v.length : Nat) : Int)) = true := decide_eq_true (by omega)
   have d0 : decide ((0 : Int) ≤ ((j : Nat) : Int)) = true := decide_eq_true (by omega)
   have two : ∀ (x : den Av) (d' : Bool), d = d' → Sm (Dk k v (w0, w1) n d' ((j + 1 : Nat) : Int) (m ++ [x])) fun r => r.length ≤ m.length + (v.length - j) + (if d then 0 else 1) := fun x d' hd => by
    subst hd
    obtain ⟨r, e, hr⟩ := Xgy k v w0 w1 hv n (j + 1) d (m ++ [x]) hlt (by omega) (by simp only [List.length_append, List.length_singleton]; omega)
    exact ⟨r, e, by simp only [List.length_append, List.length_singleton] at hr; split at hr <;> split <;> simp_all <;> omega⟩
   have twoT : ∀ (x : den Av), Sm (Dk k v (w0, w1) n true ((j + 1 : Nat) : Int) (m ++ [x])) fun r => r.length ≤ m.length + (v.length - j) + (if d then 0 else 1) := fun x => by
    obtain ⟨r, e, hr⟩ := Xgy k v w0 w1 hv n (j + 1) true (m ++ [x]) hlt (by omega) (by simp only [List.length_append, List.length_singleton, cond_true]; omega)
    exact ⟨r, e, by simp only [List.length_append, List.length_singleton, if_true] at hr; split <;> omega⟩
   rw [Iv j (by omega)]
   have s1 : ∀ x : den Av, decide ((m.length + [x].length) * 16 ≤ 140737488355328) = true := fun x => decide_eq_true (by simp only [List.length_singleton]; omega)
   have s2 : ∀ x y : den Av, decide (((m ++ [x]).length + [y].length) * 16 ≤ 140737488355328) = true := fun x y => decide_eq_true (by simp only [List.length_append, List.length_singleton]; omega)
   refine Sm.ct d1 ?_
   cases d with
   | false =>
    refine Sm.ct rfl (Sm.ct d0 (Sm.ct d1 (Sm.cond (fun _ => ?_) (fun _ => ?_))))
    ·refine Sm.ct (s1 _) (Sm.ct d0 (Sm.ct d1 ?_))
     have fin : Sm (Dk k v (w0, w1) n true ((j + 1 : Nat) : Int) (m ++ [((w0, w1) : Int × Int)] ++ [Bd v (j : Int)])) fun r => r.length ≤ m.length + (v.length - j) + (if false = true then 0 else 1) := by
      obtain ⟨r, e, hr⟩ := Xgy k v w0 w1 hv n (j + 1) true (m ++ [((w0, w1) : Int × Int)] ++ [Bd v (j : Int)]) hlt (by omega) (by simp only [cond_false] at hm; simp only [List.length_append, List.length_singleton, cond_true]; omega)
      have hr' : r.length ≤ (m ++ [((w0, w1) : Int × Int)] ++ [Bd v (j : Int)]).length + (v.length - (j + 1)) + 0 := hr
      rw [List.length_append, List.length_append] at hr'
      simp only [List.length_singleton] at hr'
      exact ⟨r, e, show r.length ≤ m.length + (v.length - j) + 1 by omega⟩
     exact Sm.cond (fun _ => Sm.ct d0 (Sm.ct d1 (Sm.ct (s2 _ _) fin))) (fun _ => Sm.ct d0 (Sm.ct d1 (Sm.ct (s2 _ _) fin)))
    ·refine Sm.ct d0 (Sm.ct d1 (Sm.cond (fun _ => ?_) (fun _ => ?_)))
     ·exact Sm.ct d0 (Sm.ct d1 (Sm.ct (s1 _) (twoT _)))
     ·exact Sm.ct d0 (Sm.ct d1 (Sm.ct (s1 _) (two _ false rfl)))
   | true =>
    refine Sm.cf rfl (Sm.ct d0 (Sm.ct d1 (Sm.cond (fun _ => ?_) (fun _ => ?_))))
    ·exact Sm.ct d0 (Sm.ct d1 (Sm.ct (s1 _) (twoT _)))
    ·exact Sm.ct d0 (Sm.ct d1 (Sm.ct (s1 _) (two _ true rfl)))
  ·refine Sm.cf (decide_eq_false (by omega)) (Sm.cond (fun hd => ?_) (fun hd => ?_))
   ·refine Sm.ct (decide_eq_true (by simp only [List.length_singleton]; omega)) ⟨_, rfl, ?_⟩
    have : d = false := by cases d <;> first | rfl | cases hd
    subst this
    simp only [List.length_append, List.length_singleton]
    simp
   ·exact ⟨_, rfl, by omega⟩
theorem Xzs (k : Nat) (v : Kb) (w0 w1 : Int) (hv : v.length ≤ 100000) (hk : v.length < k) : Sm (Xji k v (w0, w1)) fun r => r.length ≤ v.length + 1 := by
 obtain ⟨r, e, h⟩ := Xgy k v w0 w1 hv k 0 false [] (Nat.zero_le _) (by omega) (by simp; omega)
 exact ⟨r, e, by simp at h; omega⟩
theorem Xgn (k : Nat) (v0 v1 : Int) (v2 : Br) (v3 : Kb) (w : Int) (p : Br) (m : Kb) (hm : m.length ≤ 100000) : ∀ (n j : Nat) (x : Int) (g : Br), j ≤ m.length → m.length - j < n → g.length ≤ 100 + j →
  Sm (Eu k (v0, v1, v2, v3) w p n (j : Int) m ((x, v1, g, []) : den A9)) fun r => r.2.2.1.length ≤ 100 + m.length ∧ r.2.2.2.length ≤ m.length
 | 0, j, x, g, _, h, _ => by omega
 | n + 1, j, x, g, hj, h, hg => by
  rw [Eu]
  unfold Gv Fj; (try dsimp only [Bi, Bp])
  have out : Sm (cond (decide ((0 : Int) ≤ (j : Nat)) && decide (((j : Nat) : Int) ≤ ((m.length : Nat) : Int))) (cond (decide (x > 1000000)) (some ((0, 0, [], []) : Int × Int × Br × Kb)) (some (x, v1, g, (m.take (((m.length : Nat) : Int)).toNat).drop ((j : Nat) : Int).toNat))) none)
    fun r => r.2.2.1.length ≤ 100 + m.length ∧ r.2.2.2.length ≤ m.length := by
   refine Sm.ct (by rw [decide_eq_true (by omega), decide_eq_true (by omega)]; rfl) (Sm.cond (fun _ => ⟨_, rfl, Nat.zero_le _, Nat.zero_le _⟩) (fun _ => ⟨_, rfl, by dsimp only; omega, ?_⟩))
   try dsimp only
   rw [List.length_drop, List.length_take]; omega
  rcases Nat.lt_or_ge j m.length with hlt | hge
  ·have d1 : decide ((j : Int) < ((m.length : Nat) : Int)) = true := decide_eq_true (by omega)
   have d0 : decide ((0 : Int) ≤ ((j : Nat) : Int)) = true := decide_eq_true (by omega)
   rw [Iv j (by omega)]
   refine Sm.ct d1 (Sm.ct d0 (Sm.ct d1 (Sm.cond (fun _ => ?_) (fun _ => out))))
   refine Sm.ct d0 (Sm.ct d1 (Sm.ct (decide_eq_true (by simp only [List.length_singleton]; omega)) ?_))
   exact Xgn k v0 v1 v2 v3 w p m hm n (j + 1) _ _ hlt (by omega) (by simp only [List.length_append, List.length_singleton]; omega)
  ·exact Sm.cf (decide_eq_false (by omega)) out
theorem Yh (k : Nat) (v0 v1 : Int) (v2 : Br) (v3 : Kb) (w : Int) (p : Br) (h2 : v2.length ≤ 100) (hp : p.length ≤ 1000) (hk : 1048576 < k) (x7 : Int) : ∀ (n j : Nat) (m : Kb), j ≤ p.length → p.length - j < n → m.length ≤ 100 + j →
  Sm (Ge k (v0, v1, v2, v3) w p n x7 (j : Int) m) fun r => r.2.2.1.length ≤ 2000 ∧ r.2.2.2.length ≤ 2000
 | 0, j, m, _, h, _ => by omega
 | n + 1, j, m, hj, h, hm => by
  rw [Ge]
  unfold Hi; (try dsimp only [Bi, Bp, Bs])
  rcases Nat.lt_or_ge j p.length with hlt | hge
  ·have d1 : decide ((j : Int) < ((p.length : Nat) : Int)) = true := decide_eq_true (by omega)
   have d0 : decide ((0 : Int) ≤ ((j : Nat) : Int)) = true := decide_eq_true (by omega)
   rw [Iv j (by omega)]
   have nx := Yh k v0 v1 v2 v3 w p h2 hp hk x7 n (j + 1) m hlt (by omega) (by omega)
   refine Sm.ct d1 (Sm.cond (fun _ => Sm.cond (fun _ => ?_) (fun _ => nx)) (fun _ => nx))
   refine Sm.ct d0 (Sm.ct d1 (Sm.bind (Xzs k m _ _ (by omega) (by omega)) fun r hr => ?_))
   exact Yh k v0 v1 v2 v3 w p h2 hp hk x7 n (j + 1) r hlt (by omega) (by omega)
  ·refine Sm.cf (decide_eq_false (by omega)) (Sm.ct (decide_eq_true (by rw [List.length_nil]; omega)) ?_)
   obtain ⟨r, e, q1, q2⟩ := Xgn k v0 v1 v2 v3 w p m (by omega) k 0 v0 ([] ++ v2) (Nat.zero_le _) (by omega) (by simp; omega)
   exact ⟨r, e, by omega, by omega⟩
theorem Kj (k : Nat) (e0 e1 : Int) (e2 : List (den (.int .u8))) (e3 : List (den Av)) (hl : e3.length ≤ 1048576) (hk : e3.length < k) : ∃ x, Jx k (e0, e1, e2, e3) = some x := by
 unfold Jx; (try dsimp only)
 rw [Ch k e0 e1 e2 e3 hl hk, Option.bind_some]
 cases Ba e0 e1 e2 e3 <;> exact ⟨_, rfl⟩
theorem Xfz (k : Nat) (e0 e1 : Int) (e2 : List (den (.int .u8))) (e3 : List (den Av)) (w : Int) (p : Br) (hl : e3.length ≤ 1048576) (hp : p.length ≤ 1000) (hk : 1048576 < k) : Sm (U2 k (e0, e1, e2, e3) w p) fun r => r.2.2.1.length ≤ 2000 ∧ r.2.2.2.length ≤ 2000 := by
 unfold U2 O8; (try dsimp only [Bp])
 rw [Ch k e0 e1 e2 e3 hl (by omega), Option.bind_some]
 cases hok : Ba e0 e1 e2 e3 with
 | false => exact ⟨_, rfl, Nat.zero_le _, Nat.zero_le _⟩
 | true =>
  obtain ⟨l3, l2⟩ := Ci hok
  refine Sm.cf rfl ?_
  rw [Bf, Option.bind_some]
  cases Bq w 0 1000000 with
  | false => exact ⟨_, rfl, Nat.zero_le _, Nat.zero_le _⟩
  | true =>
   obtain ⟨x, hx⟩ := Kj k e0 e1 e2 e3 hl (by omega)
   refine Sm.cf rfl ?_
   rw [hx, Option.bind_some]
   refine Sm.ct (decide_eq_true (by rw [List.length_nil]; omega)) ?_
   exact Yh k e0 e1 e2 e3 w p (by omega) hp hk x k 0 ([] ++ e3) (Nat.zero_le _) (by omega) (by simp; omega)
theorem Mf (k : Nat) (v w : Int) (hv : -9223372036854775808 ≤ v ∧ v ≤ 9223372036854775807) : ∃ x, Tg k v w = some x ∧ -9223372036854775808 ≤ x ∧ x ≤ 9223372036854775807 := by
 unfold Tg R9; (try dsimp only)
 simp only [Bf, Bt, Option.bind_some]
 cases Bq v 0 1000000 with
 | false => exact ⟨_, rfl, hv⟩
 | true =>
  cases Bq w 0 65535 with
  | false => exact ⟨_, rfl, hv⟩
  | true =>
   simp only [Bool.not_true, cond_false, A5]
   refine ⟨_, rfl, ?_⟩
   cases decide (A3 (IntKind.i64.wrap (w - A3 v)) ≥ 32768)
   ·exact Xr1 _
   ·exact Xr1 _
theorem Xt1 (k : Nat) (v w : Int) : ∃ x, F56 k v w = some x := by
 unfold F56 Xcf; (try dsimp only)
 simp only [Bt, Option.bind_some, A5]
 exact ⟨_, rfl⟩
theorem W0 (k : Nat) (v : den Co) (w p : Int) (q : Ek) (hq : q.length ≤ 100000) (a b c : Int) (g : Br) (h1 : g.length ≤ 32) : ∀ (n j : Nat) (m : Ek), j ≤ q.length → q.length - j < n → m.length ≤ 2 →
  Sm (C5 k v w p q n (j : Int) ((a, g, b, c, m) : den Co)) fun r => r.1.2.1.length ≤ 32 ∧ r.1.2.2.2.2.length ≤ 2
 | 0, j, m, _, h, _ => by omega
 | n + 1, j, m, hj, h, hm => by
  rw [C5]
  unfold E7 D0; (try dsimp only [Bi, Bp])
  rcases Nat.lt_or_ge j q.length with hlt | hge
  ·have d1 : decide ((j : Int) < ((q.length : Nat) : Int)) = true := decide_eq_true (by omega)
   have d0 : decide ((0 : Int) ≤ ((j : Nat) : Int)) = true := decide_eq_true (by omega)
   try dsimp only
   rw [Iv j (by omega), i64_in (((m.length : Nat) : Int) - 1) (by omega)]
   have nx := W0 k v w p q hq a b c g h1 n (j + 1) m hlt (by omega) hm
   have s1 : ∀ x : den Ap, decide ((m.length + [x].length) * 16 ≤ 140737488355328) = true := fun x => decide_eq_true (by simp only [List.length_singleton]; omega)
   refine Sm.ct d1 (Sm.ct d0 (Sm.ct d1 (Sm.cond (fun _ => Sm.cond (fun _ => Sm.cond (fun _ => Sm.cond (fun h2 => ?_) (fun _ => nx)) (fun _ => nx)) (fun _ => nx)) (fun _ => nx))))
   have h2 : ((m.length : Nat) : Int) < 2 := of_decide_eq_true h2
   have ad : ∀ x, Sm (C5 k v w p q n ((j + 1 : Nat) : Int) ((a, g, b, c, m ++ [x]) : den Co)) fun r => r.1.2.1.length ≤ 32 ∧ r.1.2.2.2.2.length ≤ 2 := fun x => W0 k v w p q hq a b c g h1 n (j + 1) (m ++ [x]) hlt (by omega) (by simp only [List.length_append, List.length_singleton]; omega)
   refine Sm.cond (fun _ => Sm.ct (s1 _) (ad _)) (fun hz => ?_)
   have hz : ¬ (((m.length : Nat) : Int) - 1 < 0) := of_decide_eq_false hz
   exact Sm.ct (decide_eq_true (by omega)) (Sm.ct (decide_eq_true (by omega)) (Sm.cond (fun _ => Sm.ct (s1 _) (ad _)) (fun _ => nx)))
  ·refine Sm.cf (decide_eq_false (by omega)) (Sm.cond (fun _ => ⟨_, rfl, Nat.zero_le _, Nat.zero_le _⟩) (fun _ => ⟨_, rfl, h1, hm⟩))
theorem Xk1 (k : Nat) (v0 : Int) (v1 : List (den (.int .u8))) (v2 v3 : Int) (v4 : List (den Ap)) (w p : Int) (q : Ek) (hw : w ≤ 9223372036854775807) (hq : q.length ≤ 100000) (hk : 1048576 < k) : Sm (Xbv k (v0, v1, v2, v3, v4) w p q) fun r => r.1.2.1.length ≤ 32 ∧ r.1.2.2.2.2.length ≤ 2 := by
 unfold Xbv T6; (try dsimp only [Bp, Bn])
 rw [D6 k v0 v1 v2 v3 v4 (by omega), Option.bind_some]
 cases hok : Bw v0 v1 v2 v3 v4 with
 | false => exact ⟨_, rfl, Nat.zero_le _, Nat.zero_le _⟩
 | true =>
  obtain ⟨h0, h1, h2, h3, h4, _⟩ := An.1 hok
  refine Sm.cf rfl ?_
  rw [Bf, Option.bind_some]
  cases Bq p 0 255 with
  | false => exact ⟨_, rfl, Nat.zero_le _, Nat.zero_le _⟩
  | true =>
   refine Sm.cf rfl ?_
   rw [Qx k v0 v1 v2 v3 v4 (by omega) (by omega), Option.bind_some]
   refine Sm.cond (fun _ => ⟨_, rfl, by dsimp only; omega, by dsimp only; omega⟩) (fun c1 => Sm.cond (fun _ => ⟨_, rfl, by dsimp only; omega, by dsimp only; omega⟩) (fun c2 => ?_))
   have c1 : ¬ w < v0 := of_decide_eq_false c1
   have c2 := of_decide_eq_false c2
   rw [i64_in (w - v0) (by omega)] at c2 ⊢
   refine Sm.ct (by rw [decide_eq_true (by omega), decide_eq_true (by omega)]; rfl) (Sm.ct (decide_eq_true (by simp only [List.length_nil, List.length_drop]; omega)) ?_)
   exact W0 k (v0, v1, v2, v3, v4) w p q hq _ _ _ _ (by rw [List.nil_append, List.length_drop]; omega) k 0 [] (Nat.zero_le _) (by omega) (by simp)
theorem Lf (k : Nat) (v0 v1 v2 v3 v4 v5 v6 : Int) (v7 : List (den (.int .u8))) (v8 v9 : Int) (v10 : List (den Ap)) (v11 v12 : Int) (v13 : List (den (.int .u8))) (v14 : List (den Av)) (v15 v16 v17 : Bool) (v18 v19 v20 v21 v22 v23 : Int) (w : Int) (h14 : v14.length ≤ 1048576) (hk : 1048576 < k) : Sm (Wd k (v0, v1, v2, v3, v4, v5, (v6, v7, v8, v9, v10), (v11, v12, v13, v14), v15, v16, v17, v18, v19, v20, v21, v22, v23) w) fun r => r.2.2.2.2.2.2.2.2.2.1.length ≤ 2 ∧ r.2.2.2.2.2.2.2.2.2.2 = [] := by
 by_cases h0 : v0 = 2
 ·subst h0
  unfold Wd Wt; (try dsimp only)
  rw [Bt, Option.bind_some]
  exact ⟨_, rfl, Nat.zero_le _, rfl⟩
 ·cases hok : Ba v11 v12 v13 v14 with
  | true => exact ⟨_, Sh k v0 v1 v2 v3 v4 v5 v6 v7 v8 v9 v10 v11 v12 v13 v14 v15 v16 v17 v18 v19 v20 v21 v22 v23 w h0 hok h14 (by omega) (by omega), by simp [Cr], rfl⟩
  | false =>
   unfold Wd Wt; (try dsimp only)
   have e1 : Jx k (v11, v12, v13, v14) = some 0 := by
    unfold Jx; (try dsimp only)
    rw [Ch k v11 v12 v13 v14 h14 (by omega), hok]; rfl
   have e2 : Xau k (v11, v12, v13, v14) = some [] := by
    unfold Xau Ua; (try dsimp only)
    rw [Ch k v11 v12 v13 v14 h14 (by omega), hok]; rfl
   have e3 : ∃ x, Sf k (v0, v1, v2, v3, v4, v5, (v6, v7, v8, v9, v10), (v11, v12, v13, v14), v15, v16, v17, v18, v19, v20, v21, v22, v23) = some x := by unfold Sf; (try dsimp only); rw [A5]; exact ⟨_, rfl⟩
   obtain ⟨x, e3⟩ := e3
   rw [Bt, Option.bind_some, show (v0 == 2) = false from beq_eq_false_iff_ne.2 h0, cond_false, e3, Option.bind_some, Bt, Option.bind_some, e1, Option.bind_some, e2, Option.bind_some]
   exact ⟨_, Xyq k v0 v1 v2 v3 v4 v5 v6 v7 v8 v9 v10 v11 v12 v13 v14 v15 v16 v17 v18 v19 v20 v21 v22 v23 w _ _ _ [] (by simp) (by omega), by simp, rfl⟩
def sg2 (r : den seg) : Prop := r.2.2.2.2.2.2.2.2.2.1.length ≤ 2 ∧ r.2.2.2.2.2.2.2.2.2.2 = []
theorem G7 {s : den seg} (h : sg2 s) : Bv 20 s := ⟨by have := h.1; omega, by rw [h.2]; exact Nat.zero_le _⟩
theorem G8 (k : Nat) (v0 v1 v2 v3 v4 v5 v6 : Int) (v7 : List (den (.int .u8))) (v8 v9 : Int) (v10 : List (den Ap)) (v11 v12 : Int) (v13 : List (den (.int .u8))) (v14 : List (den Av)) (v15 v16 v17 : Bool) (v18 v19 v20 v21 v22 v23 : Int) (h14 : v14.length ≤ 1048576) (hk : 1048576 < k) : Sm (F49 k (v0, v1, v2, v3, v4, v5, (v6, v7, v8, v9, v10), (v11, v12, v13, v14), v15, v16, v17, v18, v19, v20, v21, v22, v23)) (Bv 20) := by
 unfold F49 Xbl; (try dsimp only)
 refine Sm.bind (Lf k v0 v1 v2 v3 v4 v5 v6 v7 v8 v9 v10 v11 v12 v13 v14 v15 v16 v17 v18 v19 v20 v21 v22 v23 v5 h14 hk) fun r hr => ⟨_, rfl, G7 ⟨hr.1, hr.2⟩⟩
theorem Ma (k : Nat) (v0 v1 v2 v3 v4 v5 v6 : Int) (v7 : List (den (.int .u8))) (v8 v9 : Int) (v10 : List (den Ap)) (v11 v12 : Int) (v13 : List (den (.int .u8))) (v14 : List (den Av)) (v15 v16 v17 : Bool) (v18 v19 v20 v21 v22 v23 : Int) (h14 : v14.length ≤ 1048576) (hk : 1048576 < k) : Sm (Uv k (v0, v1, v2, v3, v4, v5, (v6, v7, v8, v9, v10), (v11, v12, v13, v14), v15, v16, v17, v18, v19, v20, v21, v22, v23)) (Bv 20) := by
 unfold Uv Uh; (try dsimp only)
 refine Sm.bind (Lf k v0 v1 v2 v3 v4 v5 v6 v7 v8 v9 v10 v11 v12 v13 v14 v15 v16 v17 v18 v19 v20 v21 v22 v23 _ h14 hk) fun r hr => ⟨_, rfl, G7 ⟨hr.1, hr.2⟩⟩
theorem Xhg (k : Nat) (v0 v1 v2 v3 v4 v5 v6 : Int) (v7 : List (den (.int .u8))) (v8 v9 : Int) (v10 : List (den Ap)) (v11 v12 : Int) (v13 : List (den (.int .u8))) (v14 : List (den Av)) (v15 v16 v17 : Bool) (v18 v19 v20 v21 v22 v23 : Int) : ∃ b, U6 k (v0, v1, v2, v3, v4, v5, (v6, v7, v8, v9, v10), (v11, v12, v13, v14), v15, v16, v17, v18, v19, v20, v21, v22, v23) = some b := by
 unfold U6 Ts; (try dsimp only)
 simp only [A5]
 exact ⟨_, rfl⟩
theorem N9 (k : Nat) (v0 v1 v2 v3 v4 v5 v6 : Int) (v7 : List (den (.int .u8))) (v8 v9 : Int) (v10 : List (den Ap)) (v11 v12 : Int) (v13 : List (den (.int .u8))) (v14 : List (den Av)) (v15 v16 v17 : Bool) (v18 v19 v20 v21 v22 v23 : Int) (w : Int) (p : Bool) : ∃ D T : Int, Jz k (v0, v1, v2, v3, v4, v5, (v6, v7, v8, v9, v10), (v11, v12, v13, v14), v15, v16, v17, v18, v19, v20, v21, v22, v23) w p = some (v0, v1, v2, v3, v4, v5, (v6, v7, v8, v9, v10), (v11, v12, v13, v14), v15, v16, v17, v18, D, T, v21, v22, v23) := by
 unfold Jz Sz; (try dsimp only [Ao])
 cases p with
 | true =>
  obtain ⟨b, hb⟩ := Xhg k v0 v1 v2 v3 v4 v5 v6 v7 v8 v9 v10 v11 v12 v13 v14 v15 v16 v17 v18 v19 0 v21 v22 v23
  rw [cond_true, hb, Option.bind_some]
  cases b with
  | true => exact ⟨_, _, rfl⟩
  | false => cases (v0 != 5) <;> exact ⟨_, _, rfl⟩
 | false =>
  obtain ⟨b, hb⟩ := Xhg k v0 v1 v2 v3 v4 v5 v6 v7 v8 v9 v10 v11 v12 v13 v14 v15 v16 v17 v18 v19 v20 v21 v22 v23
  rw [cond_false, hb, Option.bind_some]
  cases b with
  | true => cases (v19 == 0) <;> exact ⟨_, _, rfl⟩
  | false => cases (v0 != 5) <;> exact ⟨_, _, rfl⟩
theorem Xk5 (k : Nat) (v0 v1 v2 v3 v4 v5 v6 : Int) (v7 : List (den (.int .u8))) (v8 v9 : Int) (v10 : List (den Ap)) (v11 v12 : Int) (v13 : List (den (.int .u8))) (v14 : List (den Av)) (v15 v16 v17 : Bool) (v18 v19 v20 v21 v22 v23 : Int) (w0 w1 w2 w3 w4 : Int) (w5 w6 w7 w8 : Bool) (w9 : List (den Ap)) (w10 : List (den (.int .u8))) (hm : Bw v6 v7 v8 v9 v10 = true) (h9 : w9.length ≤ 1000) (hk : 1048576 < k) (x6 : Int) (x7 c0 : Bool) (hx : x6 ≤ 9223372036854775807) : ∀ (n j : Nat) (l : Ek), j ≤ w9.length → w9.length - j < n → l.length ≤ j →
  ∃ (m0 : Int) (m1 : Br) (m2 m3 : Int) (m4 : Ek) (c o : Bool), En k (v0, v1, v2, v3, v4, v5, (v6, v7, v8, v9, v10), (v11, v12, v13, v14), v15, v16, v17, v18, v19, v20, v21, v22, v23) (w0, w1, w2, w3, w4, w5, w6, w7, w8, w9, w10) n x6 x7 (j : Int) ((v0, v1, v2, v3, v4, v5, (v6, v7, v8, v9, v10), (v11, v12, v13, v14), v15, v16, c0, v18, v19, v20, v21, v22, v23) : den fin) l = some ((v0, v1, v2, v3, v4, v5, (m0, m1, m2, m3, m4), (v11, v12, v13, v14), v15, v16, c, v18, v19, v20, v21, v22, v23), o) ∧ Bw m0 m1 m2 m3 m4 = true
 | 0, j, l, _, h, _ => by omega
 | n + 1, j, l, hj, h, hl => by
  obtain ⟨hv6, _⟩ := An.1 hm
  rw [En]
  unfold Hn; (try dsimp only [Bi, Bp])
  try dsimp only
  rcases Nat.lt_or_ge j w9.length with hlt | hge
  ·have d1 : decide ((j : Int) < ((w9.length : Nat) : Int)) = true := decide_eq_true (by omega)
   have d0 : decide ((0 : Int) ≤ ((j : Nat) : Int)) = true := decide_eq_true (by omega)
   obtain ⟨x, hx1, _⟩ := Mf k v6 (Bd w9 (j : Int)).1 (by omega)
   obtain ⟨y, hy1, _⟩ := Mf k v6 (Bd w9 (j : Int)).2 (by omega)
   rw [Iv j (by omega), d1, d0, hx1, hy1]
   simp only [cond_true, Option.bind_some]
   rw [decide_eq_true (by simp only [List.length_singleton]; omega), cond_true]
   exact Xk5 k v0 v1 v2 v3 v4 v5 v6 v7 v8 v9 v10 v11 v12 v13 v14 v15 v16 v17 v18 v19 v20 v21 v22 v23 w0 w1 w2 w3 w4 w5 w6 w7 w8 w9 w10 hm h9 hk x6 x7 c0 hx n (j + 1) (l ++ [(x, y)]) hlt (by omega) (by simp only [List.length_append, List.length_singleton]; omega)
  ·rw [decide_eq_false (by omega : ¬ ((j : Nat) : Int) < ((w9.length : Nat) : Int)), cond_false]
   obtain ⟨r, e, q1, q2⟩ := Xk1 k v6 v7 v8 v9 v10 x6 w4 l hx (by omega) hk
   obtain ⟨⟨m0, m1, m2, m3, m4⟩, m5⟩ := r
   dsimp only at q1 q2
   rw [e, Option.bind_some]
   try dsimp only
   rw [D6 k m0 m1 m2 m3 m4 (by omega), Option.bind_some]
   cases hmm : Bw m0 m1 m2 m3 m4 with
   | false => exact ⟨_, _, _, _, _, _, _, rfl, hm⟩
   | true =>
    rw [cond_true]
    cases decide (m0 ≥ v6) with
    | false => exact ⟨_, _, _, _, _, _, _, rfl, hm⟩
    | true =>
     rw [cond_true]
     cases x7 with
     | true => exact ⟨_, _, _, _, _, _, _, rfl, hmm⟩
     | false =>
      rw [cond_false]
      cases decide (m5 > 0) with
      | true => exact ⟨_, _, _, _, _, _, _, rfl, hmm⟩
      | false =>
       rw [cond_false]
       cases decide (m3 > 0) <;> exact ⟨_, _, _, _, _, _, _, rfl, hmm⟩
theorem Xs5 (k : Nat) (v0 v1 v2 v3 v4 v5 v6 : Int) (v7 : List (den (.int .u8))) (v8 v9 : Int) (v10 : List (den Ap)) (v11 v12 : Int) (v13 : List (den (.int .u8))) (v14 : List (den Av)) (v15 v16 v17 : Bool) (v18 v19 v20 v21 v22 v23 : Int) (w0 w1 w2 w3 w4 : Int) (w5 w6 w7 w8 : Bool) (w9 : List (den Ap)) (w10 : List (den (.int .u8))) (hm : Bw v6 v7 v8 v9 v10 = true) (h9 : w9.length ≤ 1000) (hk : 1048576 < k) :
  ∃ (m0 : Int) (m1 : Br) (m2 m3 : Int) (m4 : Ek) (c o : Bool), F53 k (v0, v1, v2, v3, v4, v5, (v6, v7, v8, v9, v10), (v11, v12, v13, v14), v15, v16, v17, v18, v19, v20, v21, v22, v23) (w0, w1, w2, w3, w4, w5, w6, w7, w8, w9, w10) = some ((v0, v1, v2, v3, v4, v5, (m0, m1, m2, m3, m4), (v11, v12, v13, v14), v15, v16, c, v18, v19, v20, v21, v22, v23), o) ∧ Bw m0 m1 m2 m3 m4 = true := by
 obtain ⟨hv6, _⟩ := An.1 hm
 unfold F53 Xbo; (try dsimp only [Ao])
 obtain ⟨x, e, hx⟩ := Mf k v6 w3 (by omega)
 rw [e, Option.bind_some]
 have main : ∀ (x6 : Int) (x7 c0 : Bool), x6 ≤ 9223372036854775807 → _ := fun x6 x7 c0 hx => Xk5 k v0 v1 v2 v3 v4 v5 v6 v7 v8 v9 v10 v11 v12 v13 v14 v15 v16 v17 v18 v19 v20 v21 v22 v23 w0 w1 w2 w3 w4 w5 w6 w7 w8 w9 w10 hm h9 hk x6 x7 c0 hx k 0 [] (Nat.zero_le _) (by omega) (Nat.zero_le _)
 cases v16 with
 | false => exact main x false v17 hx.2
 | true =>
  rw [cond_true]
  cases (x == IntKind.i64.wrap (IntKind.i64.wrap (v6 + ((v7.length : Nat) : Int)) + 1)) with
  | true => exact main _ _ _ (Xr1 _).2
  | false => exact main x false v17 hx.2
theorem Xba (k : Nat) (v0 v1 v2 v3 v4 v5 v6 : Int) (v7 : List (den (.int .u8))) (v8 v9 : Int) (v10 : List (den Ap)) (v11 v12 : Int) (v13 : List (den (.int .u8))) (v14 : List (den Av)) (v15 v16 v17 : Bool) (v18 v19 v20 v21 v22 v23 : Int) (w0 w1 w2 w3 w4 : Int) (w5 w6 w7 w8 : Bool) (w9 : List (den Ap)) (w10 : List (den (.int .u8))) (he : Ba v11 v12 v13 v14 = true) (h10 : w10.length ≤ 1000) (hk : 1048576 < k) :
  ∃ (e0 e1 : Int) (e2 : Br) (e3 : Kb) (x : Int), F54 k (v0, v1, v2, v3, v4, v5, (v6, v7, v8, v9, v10), (v11, v12, v13, v14), v15, v16, v17, v18, v19, v20, v21, v22, v23) (w0, w1, w2, w3, w4, w5, w6, w7, w8, w9, w10) = some (v0, v1, v2, v3, v4, v5, (v6, v7, v8, v9, v10), (e0, e1, e2, e3), v15, v16, v17, x, v19, v20, v21, v22, v23) ∧ Ba e0 e1 e2 e3 = true := by
 obtain ⟨l3, l2⟩ := Ci he
 obtain ⟨hv11, _⟩ := A4.1 he
 let G : den A9 → Int → den fin := fun e x => (v0, v1, v2, v3, v4, v5, (v6, v7, v8, v9, v10), e, v15, v16, v17, x, v19, v20, v21, v22, v23)
 have same : ∃ (e0 e1 : Int) (e2 : Br) (e3 : Kb) (x : Int), some (v0, v1, v2, v3, v4, v5, (v6, v7, v8, v9, v10), (v11, v12, v13, v14), v15, v16, v17, v18, v19, v20, v21, v22, v23) = some (G (e0, e1, e2, e3) x) ∧ Ba e0 e1 e2 e3 = true := ⟨_, _, _, _, _, rfl, he⟩
 have c2 : ∀ (y z : Int), ∃ (e0 e1 : Int) (e2 : Br) (e3 : Kb) (x : Int), Gk k (v0, v1, v2, v3, v4, v5, (v6, v7, v8, v9, v10), (v11, v12, v13, v14), v15, v16, v17, v18, v19, v20, v21, v22, v23) (w0, w1, w2, w3, w4, w5, w6, w7, w8, w9, w10) y z some = some (G (e0, e1, e2, e3) x) ∧ Ba e0 e1 e2 e3 = true := by
  intro y z
  unfold Gk Nb; (try dsimp only [Bi, Ao])
  obtain ⟨r, er, r2, r3⟩ := Xfz k v11 v12 v13 v14 y w10 (by omega) h10 hk
  obtain ⟨f0, f1, f2, f3⟩ := r
  dsimp only at r2 r3
  rw [er, Option.bind_some]
  try dsimp only
  rw [Ch k f0 f1 f2 f3 (by omega) (by omega), Option.bind_some]
  cases hok : Ba f0 f1 f2 f3 with
  | false => exact same
  | true =>
   rw [Bool.not_true, cond_false]
   have fin : ∀ x : Int, ∃ (e0 e1 : Int) (e2 : Br) (e3 : Kb) (x' : Int), N8 k (v0, v1, v2, v3, v4, v5, (v6, v7, v8, v9, v10), (v11, v12, v13, v14), v15, v16, v17, v18, v19, v20, v21, v22, v23) (w0, w1, w2, w3, w4, w5, w6, w7, w8, w9, w10) (G (f0, f1, f2, f3) x) some = some (G (e0, e1, e2, e3) x') ∧ Ba e0 e1 e2 e3 = true := fun x => ⟨_, _, _, _, _, rfl, hok⟩
   cases w7 with
   | false => exact fin _
   | true =>
    rw [cond_true]
    cases (v18 == (-1)) with
    | false => exact fin _
    | true =>
     rw [cond_true]
     cases decide (z ≥ f0) with
     | false => exact fin _
     | true =>
      obtain ⟨g, hg⟩ := Kj k f0 f1 f2 f3 (by omega) (by omega)
      rw [cond_true, hg, Option.bind_some]
      cases decide (z ≤ IntKind.i64.wrap (f0 + g)) with
      | false => exact fin _
      | true =>
       rw [cond_true]
       cases decide (z ≤ 1000000) with
       | false => exact fin _
       | true =>
        rw [cond_true]
        try dsimp only
        by_cases hz : ((f3.length : Nat) : Int) = 0
        ·rw [beq_iff_eq.2 hz]
         exact fin _
        ·rw [beq_eq_false_iff_ne.2 hz, cond_false, i64_in (((f3.length : Nat) : Int) - 1) (by omega), decide_eq_true (by omega), cond_true, decide_eq_true (by omega), cond_true]
         cases decide ((Bd f3 (((f3.length : Nat) : Int) - 1)).1 < z) <;> exact fin _
 have c1 : ∀ y : Int, ∃ (e0 e1 : Int) (e2 : Br) (e3 : Kb) (x : Int), Gj k (v0, v1, v2, v3, v4, v5, (v6, v7, v8, v9, v10), (v11, v12, v13, v14), v15, v16, v17, v18, v19, v20, v21, v22, v23) (w0, w1, w2, w3, w4, w5, w6, w7, w8, w9, w10) y some = some (G (e0, e1, e2, e3) x) ∧ Ba e0 e1 e2 e3 = true := by
  intro y
  unfold Gj L4; (try dsimp only)
  try dsimp only
  cases decide (y < 0) with
  | true => exact same
  | false =>
   rw [cond_false]
   cases decide (v18 ≥ 0) with
   | false => exact c2 _ _
   | true =>
    rw [cond_true]
    cases decide (IntKind.i64.wrap (y + ((w10.length : Nat) : Int)) > v18) with
    | true => exact same
    | false => exact c2 _ _
 unfold F54 P2 Ss; (try dsimp only)
 obtain ⟨x, e, hx⟩ := Mf k v11 w2 (by omega)
 try dsimp only
 rw [e, Option.bind_some]
 cases w5 with
 | true => exact c1 _
 | false => exact c1 _
theorem Xbn (k : Nat) (v0 v1 v2 v3 v4 v5 v6 : Int) (v7 : List (den (.int .u8))) (v8 v9 : Int) (v10 : List (den Ap)) (v11 v12 : Int) (v13 : List (den (.int .u8))) (v14 : List (den Av)) (v15 v16 v17 : Bool) (v18 v19 v20 v21 v22 v23 : Int) (hm : Bw v6 v7 v8 v9 v10 = true) (he : Ba v11 v12 v13 v14 = true) (hk : 1048576 < k) (hk2 : k ≤ 4194304) :
  ∃ (x : Int) (l : sgL), Nv k (v0, v1, v2, v3, v4, v5, (v6, v7, v8, v9, v10), (v11, v12, v13, v14), v15, v16, v17, v18, v19, v20, v21, v22, v23) = some ((v0, v1, v2, v3, v4, v5, (v6, v7, x, v9, v10), (v11, v12, v13, v14), v15, v16, v17, v18, v19, v20, v21, v22, v23), l) ∧ l.length ≤ 32 ∧ ∀ s ∈ l, Bv 20 s := by
 obtain ⟨h0, h1, h2, h3, h4, h5⟩ := An.1 hm
 obtain ⟨l3, l2⟩ := Ci he
 unfold Nv Zq; (try dsimp only)
 by_cases e4 : v0 = 4
 ·have hb := Ii k v0 v1 v2 v3 v4 v5 v6 v7 v8 v9 v10 v11 v12 v13 v14 v15 v16 v17 v18 v19 v20 v21 v22 v23 e4 he (by omega) hk k v8 [] hm (by omega) (by simp; omega)
  obtain ⟨b1, b2, b3, b4⟩ := Nf (P0 v2 v4 v6 v11 v12 v13 v14 v18) v7 v9 (fun x d hd => ⟨by simp [P0, Cr]; have := Cr v14; omega, by show d.length ≤ 20; omega⟩) k v8 [] h2.1 h2.2 (by simp)
  refine ⟨_, _, hb, ?_, b4⟩
  simp only [List.length_nil] at b3
  omega
 ·obtain ⟨n, rfl⟩ : ∃ n, k = n + 1 := ⟨k - 1, by omega⟩
  rw [H6]
  unfold Hj; (try dsimp only [Bp])
  rw [show (v0 == 4) = false from beq_eq_false_iff_ne.2 e4, cond_false]
  exact ⟨_, _, rfl, by simp, by simp⟩
theorem Xab (k : Nat) (v0 v1 v2 v3 v4 v5 v6 : Int) (v7 : List (den (.int .u8))) (v8 v9 : Int) (v10 : List (den Ap)) (v11 v12 : Int) (v13 : List (den (.int .u8))) (v14 : List (den Av)) (v15 v16 v17 : Bool) (v18 v19 v20 v21 v22 v23 : Int) (hm : Bw v6 v7 v8 v9 v10 = true) (he : Ba v11 v12 v13 v14 = true) (hk : 1048576 < k) (hk2 : k ≤ 4194304) :
  ∃ (x : Int) (c : Bool) (l : sgL), F50 k (v0, v1, v2, v3, v4, v5, (v6, v7, v8, v9, v10), (v11, v12, v13, v14), v15, v16, v17, v18, v19, v20, v21, v22, v23) = some ((v0, v1, v2, v3, v4, v5, (v6, v7, x, v9, v10), (v11, v12, v13, v14), v15, c, v17, v18, v19, v20, v21, v22, v23), l) ∧ l.length ≤ 40 ∧ ∀ s ∈ l, Bv 20 s := by
 obtain ⟨h0, h1, h2, h3, h4, h5⟩ := An.1 hm
 obtain ⟨l3, l2⟩ := Ci he
 obtain ⟨x, l, hb, hl, hs⟩ := Xbn k v0 v1 v2 v3 v4 v5 v6 v7 v8 v9 v10 v11 v12 v13 v14 v15 v16 v17 v18 v19 v20 v21 v22 v23 hm he hk hk2
 unfold F50 Xb1; (try dsimp only [Bp])
 rw [hb, Option.bind_some]
 try dsimp only
 have same : ∃ (x' : Int) (c : Bool) (l' : sgL), some (((v0, v1, v2, v3, v4, v5, (v6, v7, x, v9, v10), (v11, v12, v13, v14), v15, v16, v17, v18, v19, v20, v21, v22, v23), l) : den fin × sgL) = some ((v0, v1, v2, v3, v4, v5, (v6, v7, x', v9, v10), (v11, v12, v13, v14), v15, c, v17, v18, v19, v20, v21, v22, v23), l') ∧ l'.length ≤ 40 ∧ ∀ s ∈ l', Bv 20 s := ⟨_, _, _, rfl, by omega, hs⟩
 cases (v0 == 4) with
 | false => exact same
 | true =>
  rw [cond_true]
  cases v15 with
  | false => exact same
  | true =>
   rw [cond_true]
   cases v16 with
   | true => exact same
   | false =>
    rw [Bool.not_false, cond_true]
    cases (x == ((v7.length : Nat) : Int)) with
    | false => exact same
    | true =>
     obtain ⟨s, es, hs2⟩ := Ma k v0 v1 v2 v3 v4 v5 v6 v7 x v9 v10 v11 v12 v13 v14 true true v17 v18 v19 v20 v21 v22 v23 (by omega) hk
     rw [cond_true, es, Option.bind_some, decide_eq_true (by simp only [List.length_singleton]; omega), cond_true]
     refine ⟨_, _, _, rfl, by simp; omega, fun s' h' => ?_⟩
     rcases List.mem_append.1 h' with h' | h'
     ·exact hs s' h'
     ·rw [List.mem_singleton.1 h']; exact hs2
abbrev Ox : Type := den fin × sgL
def Eo : Ox → Prop
 | ((_, _, _, _, _, _, (_, a7, _, _, a10), (_, _, a13, a14), _, _, _, _, _, _, _, _, _), l) => Aq 3000 a7 a10 a13 a14 ∧ l.length ≤ 41 ∧ ∀ s ∈ l, Bv 20 s
theorem Gg {n m : Nat} (hnm : n ≤ m) {a7 : Br} {a10 : Ek} {a13 : Br} {a14 : Kb} (h : Aq n a7 a10 a13 a14) : Aq m a7 a10 a13 a14 := ⟨Nat.le_trans h.1 hnm, Nat.le_trans h.2.1 hnm, Nat.le_trans h.2.2.1 hnm, Nat.le_trans h.2.2.2 hnm⟩
theorem Dy {m0 : Int} {m1 : List (den (.int .u8))} {m2 m3 : Int} {m4 : List (den Ap)} {e0 e1 : Int} {e2 : List (den (.int .u8))} {e3 : List (den Av)} (hm : Bw m0 m1 m2 m3 m4 = true) (he : Ba e0 e1 e2 e3 = true) : Aq 3000 m1 m4 e2 e3 := by
 obtain ⟨h0, h1, h2, h3, h4, h5⟩ := An.1 hm
 obtain ⟨l3, l2⟩ := Ci he
 exact ⟨by omega, by omega, by omega, by omega⟩
theorem Y5 (k : Nat) (v0 v1 v2 v3 v4 v5 v6 : Int) (v7 : List (den (.int .u8))) (v8 v9 : Int) (v10 : List (den Ap)) (v11 v12 : Int) (v13 : List (den (.int .u8))) (v14 : List (den Av)) (v15 v16 v17 : Bool) (v18 v19 v20 v21 v22 v23 : Int) : ∃ x, F52 k (v0, v1, v2, v3, v4, v5, (v6, v7, v8, v9, v10), (v11, v12, v13, v14), v15, v16, v17, v18, v19, v20, v21, v22, v23) = some x := by
 unfold F52; (try dsimp only)
 cases v16 <;> exact ⟨_, rfl⟩
theorem answ (k : Nat) (b0 b1 b2 b3 b4 b5 b6 : Int) (b7 : List (den (.int .u8))) (b8 b9 : Int) (b10 : List (den Ap)) (b11 b12 : Int) (b13 : List (den (.int .u8))) (b14 : List (den Av)) (b15 b16 b17 : Bool) (b18 b19 b20 b21 b22 b23 : Int) (l : sgL) (q : Int) (on : Bool) (hE : Aq 3000 b7 b10 b13 b14) (hl : l.length ≤ 40) (hs : ∀ s ∈ l, Bv 20 s) (hk : 1048576 < k) :
  Sm ((F52 k (b0, b1, b2, b3, b4, b5, (b6, b7, b8, b9, b10), (b11, b12, b13, b14), b15, b16, b17, b18, b19, b20, b21, b22, b23)).bind fun x16 => (Wd k (b0, b1, b2, b3, b4, b5, (b6, b7, b8, b9, b10), (b11, b12, b13, b14), b15, b16, b17, b18, b19, b20, b21, b22, b23) (IntKind.i64.wrap (IntKind.i64.wrap (b6 + b8) + x16))).bind fun x17 =>
   cond (decide ((l.length + [x17].length) * 96 ≤ 140737488355328)) ((Jz k (b0, b1, b2, b3, b4, b5, (b6, b7, b8, b9, b10), (b11, b12, b13, b14), b15, b16, b17, b18, b19, b20, b21, b22, b23) q on).bind fun r => some (r, l ++ [x17])) none) Eo := by
 obtain ⟨x, hx⟩ := Y5 k b0 b1 b2 b3 b4 b5 b6 b7 b8 b9 b10 b11 b12 b13 b14 b15 b16 b17 b18 b19 b20 b21 b22 b23
 rw [hx, Option.bind_some]
 refine Sm.bind (Lf k b0 b1 b2 b3 b4 b5 b6 b7 b8 b9 b10 b11 b12 b13 b14 b15 b16 b17 b18 b19 b20 b21 b22 b23 _ (by have := hE.2.2.2; omega) hk) fun s h => ?_
 refine Sm.ct (decide_eq_true (by simp only [List.length_singleton]; omega)) ?_
 obtain ⟨D, T, ha⟩ := N9 k b0 b1 b2 b3 b4 b5 b6 b7 b8 b9 b10 b11 b12 b13 b14 b15 b16 b17 b18 b19 b20 b21 b22 b23 q on
 rw [ha, Option.bind_some]
 refine ⟨_, rfl, hE, by simp; omega, fun s' h' => ?_⟩
 rcases List.mem_append.1 h' with h' | h'
 ·exact hs s' h'
 ·rw [List.mem_singleton.1 h']; exact G7 ⟨h.1, h.2⟩
theorem armd (k : Nat) (b0 b1 b2 b3 b4 b5 b6 : Int) (b7 : List (den (.int .u8))) (b8 b9 : Int) (b10 : List (den Ap)) (b11 b12 : Int) (b13 : List (den (.int .u8))) (b14 : List (den Av)) (b15 b16 b17 : Bool) (b18 b19 b20 b21 b22 b23 : Int) (l : sgL) (q : Int) (on : Bool) (hE : Aq 3000 b7 b10 b13 b14) (hl : l.length ≤ 41) (hs : ∀ s ∈ l, Bv 20 s) : Sm ((Jz k (b0, b1, b2, b3, b4, b5, (b6, b7, b8, b9, b10), (b11, b12, b13, b14), b15, b16, b17, b18, b19, b20, b21, b22, b23) q on).bind fun r => some (r, l)) Eo := by
 obtain ⟨D, T, ha⟩ := N9 k b0 b1 b2 b3 b4 b5 b6 b7 b8 b9 b10 b11 b12 b13 b14 b15 b16 b17 b18 b19 b20 b21 b22 b23 q on
 rw [ha, Option.bind_some]
 exact ⟨_, rfl, hE, hl, hs⟩
theorem Xur (k : Nat) (p0 p1 p2 p3 p4 : Int) (p5 p6 p7 p8 : Bool) (p9 : List (den Ap)) (p10 : List (den (.int .u8))) : ∃ x, F55 k (p0, p1, p2, p3, p4, p5, p6, p7, p8, p9, p10) = some x := by
 unfold F55 Xb2; (try dsimp only)
 simp only [A5]
 exact ⟨_, rfl⟩
theorem hc3 (k : Nat) (v0 v1 v2 v3 v4 v5 v6 : Int) (v7 : List (den (.int .u8))) (v8 v9 : Int) (v10 : List (den Ap)) (v11 v12 : Int) (v13 : List (den (.int .u8))) (v14 : List (den Av)) (v15 v16 v17 : Bool) (v18 v19 v20 v21 v22 v23 : Int) (w : Int) (p0 p1 p2 p3 p4 : Int) (p5 p6 p7 p8 : Bool) (p9 : List (den Ap)) (p10 : List (den (.int .u8))) (q y : Int) (on : Bool) (b0 b1 b2 b3 b4 b5 b6 : Int) (b7 : List (den (.int .u8))) (b8 b9 : Int) (b10 : List (den Ap)) (b11 b12 : Int) (b13 : List (den (.int .u8))) (b14 : List (den Av)) (b15 b16 b17 : Bool) (b18 b19 b20 b21 b22 b23 : Int) (hm : Bw b6 b7 b8 b9 b10 = true) (he : Ba b11 b12 b13 b14 = true) (hk : 1048576 < k) (hk2 : k ≤ 4194304) :
  Sm (Mx k (v0, v1, v2, v3, v4, v5, (v6, v7, v8, v9, v10), (v11, v12, v13, v14), v15, v16, v17, v18, v19, v20, v21, v22, v23) w (p0, p1, p2, p3, p4, p5, p6, p7, p8, p9, p10) q y on (b0, b1, b2, b3, b4, b5, (b6, b7, b8, b9, b10), (b11, b12, b13, b14), b15, b16, b17, b18, b19, b20, b21, b22, b23) some) Eo := by
 obtain ⟨x8, c, l, ef, hl, hs⟩ := Xab k b0 b1 b2 b3 b4 b5 b6 b7 b8 b9 b10 b11 b12 b13 b14 b15 b16 b17 b18 b19 b20 b21 b22 b23 hm he hk hk2
 have hE := Dy hm he
 obtain ⟨z, ez⟩ := Xur k p0 p1 p2 p3 p4 p5 p6 p7 p8 p9 p10
 obtain ⟨u, eu⟩ := Xt1 k p2 y
 unfold Mx X3 Gu; (try dsimp only [Bp])
 rw [ef, Option.bind_some]
 try dsimp only
 rw [ez, Option.bind_some, eu, Option.bind_some]
 have f1 := answ k b0 b1 b2 b3 b4 b5 b6 b7 x8 b9 b10 b11 b12 b13 b14 b15 c b17 b18 b19 b20 b21 b22 b23 l q on hE hl hs hk
 have f2 := armd k b0 b1 b2 b3 b4 b5 b6 b7 x8 b9 b10 b11 b12 b13 b14 b15 c b17 b18 b19 b20 b21 b22 b23 l q on hE (by omega) hs
 exact Sm.cond (fun _ => Sm.cond (fun _ => f1) (fun _ => Sm.cond (fun _ => f1) (fun _ => f2))) (fun _ => f2)
theorem Xgg (k : Nat) (v0 v1 v2 v3 v4 v5 v6 : Int) (v7 : List (den (.int .u8))) (v8 v9 : Int) (v10 : List (den Ap)) (v11 v12 : Int) (v13 : List (den (.int .u8))) (v14 : List (den Av)) (v15 v16 v17 : Bool) (v18 v19 v20 v21 v22 v23 : Int) : ∃ x, Sf k (v0, v1, v2, v3, v4, v5, (v6, v7, v8, v9, v10), (v11, v12, v13, v14), v15, v16, v17, v18, v19, v20, v21, v22, v23) = some x := by unfold Sf; (try dsimp only); rw [A5]; exact ⟨_, rfl⟩
theorem O3 (k : Nat) (v0 v1 v2 v3 v4 v5 v6 : Int) (v7 : List (den (.int .u8))) (v8 v9 : Int) (v10 : List (den Ap)) (v11 v12 : Int) (v13 : List (den (.int .u8))) (v14 : List (den Av)) (v15 v16 v17 : Bool) (v18 v19 v20 v21 v22 v23 : Int) (w : Int) (p0 p1 p2 p3 p4 : Int) (p5 p6 p7 p8 : Bool) (p9 : List (den Ap)) (p10 : List (den (.int .u8))) (q : Int) (b0 b1 b2 b3 b4 b5 b6 : Int) (b7 : List (den (.int .u8))) (b8 b9 : Int) (b10 : List (den Ap)) (b11 b12 : Int) (b13 : List (den (.int .u8))) (b14 : List (den Av)) (b15 b16 b17 : Bool) (b18 b19 b20 b21 b22 b23 : Int) (hm : Bw b6 b7 b8 b9 b10 = true) (he : Ba b11 b12 b13 b14 = true) (h9 : p9.length ≤ 1000) (h10 : p10.length ≤ 1000) (hk : 1048576 < k) (hk2 : k ≤ 4194304) :
  Sm (Ir k (v0, v1, v2, v3, v4, v5, (v6, v7, v8, v9, v10), (v11, v12, v13, v14), v15, v16, v17, v18, v19, v20, v21, v22, v23) w (p0, p1, p2, p3, p4, p5, p6, p7, p8, p9, p10) q (b0, b1, b2, b3, b4, b5, (b6, b7, b8, b9, b10), (b11, b12, b13, b14), b15, b16, b17, b18, b19, b20, b21, b22, b23) some) Eo := by
 obtain ⟨y, ey⟩ := Xgg k b0 b1 b2 b3 b4 b5 b6 b7 b8 b9 b10 b11 b12 b13 b14 b15 b16 b17 b18 b19 b20 b21 b22 b23
 unfold Ir Th; (try dsimp only)
 rw [ey, Option.bind_some]
 refine Sm.cond (fun _ => ?_) (fun _ => ?_)
 ·obtain ⟨m0, m1, m2, m3, m4, c, o, et, hm2⟩ := Xs5 k b0 b1 b2 b3 b4 b5 b6 b7 b8 b9 b10 b11 b12 b13 b14 b15 b16 b17 b18 b19 b20 b21 b22 b23 p0 p1 p2 p3 p4 p5 p6 p7 p8 p9 p10 hm h9 hk
  rw [et, Option.bind_some]
  try dsimp only
  obtain ⟨e0, e1, e2, e3, x, eh, hee⟩ := Xba k b0 b1 b2 b3 b4 b5 m0 m1 m2 m3 m4 b11 b12 b13 b14 b15 b16 c b18 b19 b20 b21 b22 b23 p0 p1 p2 p3 p4 p5 p6 p7 p8 p9 p10 he h10 hk
  rw [eh, Option.bind_some, Option.bind_some]
  exact Sm.cond (fun _ => hc3 k v0 v1 v2 v3 v4 v5 v6 v7 v8 v9 v10 v11 v12 v13 v14 v15 v16 v17 v18 v19 v20 v21 v22 v23 w p0 p1 p2 p3 p4 p5 p6 p7 p8 p9 p10 q y _ _ _ _ _ _ _ _ _ _ _ _ _ _ _ _ _ _ _ _ _ _ _ _ _ hm2 hee hk hk2) (fun _ => hc3 k v0 v1 v2 v3 v4 v5 v6 v7 v8 v9 v10 v11 v12 v13 v14 v15 v16 v17 v18 v19 v20 v21 v22 v23 w p0 p1 p2 p3 p4 p5 p6 p7 p8 p9 p10 q y _ _ _ _ _ _ _ _ _ _ _ _ _ _ _ _ _ _ _ _ _ _ _ _ _ hm2 hee hk hk2)
 ·obtain ⟨e0, e1, e2, e3, x, eh, hee⟩ := Xba k b0 b1 b2 b3 b4 b5 b6 b7 b8 b9 b10 b11 b12 b13 b14 b15 b16 b17 b18 b19 b20 b21 b22 b23 p0 p1 p2 p3 p4 p5 p6 p7 p8 p9 p10 he h10 hk
  rw [eh, Option.bind_some]
  exact hc3 k v0 v1 v2 v3 v4 v5 v6 v7 v8 v9 v10 v11 v12 v13 v14 v15 v16 v17 v18 v19 v20 v21 v22 v23 w p0 p1 p2 p3 p4 p5 p6 p7 p8 p9 p10 q y _ _ _ _ _ _ _ _ _ _ _ _ _ _ _ _ _ _ _ _ _ _ _ _ _ hm hee hk hk2
theorem Xgl (b0 b1 b2 b3 b4 b5 b6 : Int) (b7 : List (den (.int .u8))) (b8 b9 : Int) (b10 : List (den Ap)) (b11 b12 : Int) (b13 : List (den (.int .u8))) (b14 : List (den Av)) (b15 b16 b17 : Bool) (b18 b19 b20 b21 b22 b23 : Int) (hE : Aq 3000 b7 b10 b13 b14) : Sm (some (((b0, b1, b2, b3, b4, b5, (b6, b7, b8, b9, b10), (b11, b12, b13, b14), b15, b16, b17, b18, b19, b20, b21, b22, b23), []) : Ox)) Eo := ⟨_, rfl, hE, by simp, by simp⟩
theorem S3 {m0 : Int} {m1 : List (den (.int .u8))} {m2 m3 : Int} {m4 : List (den Ap)} (x : Int) (hm : Bw m0 m1 m2 m3 m4 = true) (hx : 0 ≤ x ∧ x ≤ 255) : Bw m0 m1 m2 x m4 = true := by
 obtain ⟨h0, h1, h2, h3, h4, h5⟩ := An.1 hm
 exact An.2 ⟨h0, h1, h2, hx, h4, h5⟩
theorem Xu {e0 e1 : Int} {e2 : List (den (.int .u8))} {e3 : List (den Av)} (x : Int) (he : Ba e0 e1 e2 e3 = true) (hx : 0 ≤ x ∧ x ≤ 65535) : Ba (IntKind.i64.wrap (x + 1)) e1 e2 [] = true := by
 obtain ⟨h0, h1, h2, h3⟩ := A4.1 he
 rw [i64_in (x + 1) (by omega)]
 exact A4.2 ⟨by omega, h1, h2, rfl⟩
theorem Uq (k : Nat) (v0 v1 v2 v3 v4 v5 v6 : Int) (v7 : List (den (.int .u8))) (v8 v9 : Int) (v10 : List (den Ap)) (v11 v12 : Int) (v13 : List (den (.int .u8))) (v14 : List (den Av)) (v15 v16 v17 : Bool) (v18 v19 v20 v21 v22 v23 : Int) (w : Int) (p0 p1 p2 p3 p4 : Int) (p5 p6 p7 p8 : Bool) (p9 : List (den Ap)) (p10 : List (den (.int .u8))) (q : Int) (b0 b1 b2 b3 b4 b5 b6 : Int) (b7 : List (den (.int .u8))) (b8 b9 : Int) (b10 : List (den Ap)) (b11 b12 : Int) (b13 : List (den (.int .u8))) (b14 : List (den Av)) (b15 b16 b17 : Bool) (b18 b19 b20 b21 b22 b23 : Int) (hm : Bw b6 b7 b8 b9 b10 = true) (he : Ba b11 b12 b13 b14 = true) (hp2 : 0 ≤ p2 ∧ p2 ≤ 65535) (hp4 : 0 ≤ p4 ∧ p4 ≤ 255) (h9 : p9.length ≤ 1000) (h10 : p10.length ≤ 1000) (hk : 1048576 < k) (hk2 : k ≤ 4194304) :
  Sm (Ef k (v0, v1, v2, v3, v4, v5, (v6, v7, v8, v9, v10), (v11, v12, v13, v14), v15, v16, v17, v18, v19, v20, v21, v22, v23) w (p0, p1, p2, p3, p4, p5, p6, p7, p8, p9, p10) q (b0, b1, b2, b3, b4, b5, (b6, b7, b8, b9, b10), (b11, b12, b13, b14), b15, b16, b17, b18, b19, b20, b21, b22, b23) some) Eo := by
 have hE := Dy hm he
 have hE0 : Aq 3000 b7 b10 b13 [] := ⟨hE.1, hE.2.1, hE.2.2.1, Nat.zero_le _⟩
 have hm4 := S3 p4 hm hp4
 have heN := Xu p2 he hp2
 have hEN := Dy hm4 heN
 have nn := Xgl b0 b1 b2 b3 b4 b5 b6 b7 b8 b9 b10 b11 b12 b13 b14 b15 b16 b17 b18 b19 b20 b21 b22 b23 hE
 have failed : ∀ D : Int, Sm (some (((5, b1, b2, b3, b4, b5, (b6, b7, b8, b9, b10), (b11, b12, b13, b14), b15, b16, b17, b18, D, b20, b21, b22, b23), []) : Ox)) Eo := fun D => ⟨_, rfl, hE, by simp, by simp⟩
 have g2 := O3 k v0 v1 v2 v3 v4 v5 v6 v7 v8 v9 v10 v11 v12 v13 v14 v15 v16 v17 v18 v19 v20 v21 v22 v23 w p0 p1 p2 p3 p4 p5 p6 p7 p8 p9 p10 q b0 b1 b2 b3 b4 b5 b6 b7 b8 b9 b10 b11 b12 b13 b14 b15 b16 b17 b18 b19 b20 b21 b22 b23 hm he h9 h10 hk hk2
 have g4 := O3 k v0 v1 v2 v3 v4 v5 v6 v7 v8 v9 v10 v11 v12 v13 v14 v15 v16 v17 v18 v19 v20 v21 v22 v23 w p0 p1 p2 p3 p4 p5 p6 p7 p8 p9 p10 q 4 b1 b2 b3 b4 b5 b6 b7 b8 p4 b10 b11 b12 b13 b14 b15 b16 b17 b18 b19 b20 b21 b22 b23 hm4 he h9 h10 hk hk2
 obtain ⟨y, ey⟩ := Xgg k v0 v1 v2 v3 v4 v5 v6 v7 v8 v9 v10 v11 v12 v13 v14 v15 v16 v17 v18 v19 v20 v21 v22 v23
 obtain ⟨s1, es1, hs1⟩ := G8 k b0 b1 b2 b3 b4 b5 b6 b7 b8 b9 b10 b11 b12 b13 b14 b15 b16 b17 b18 b19 b20 b21 b22 b23 (by have := hE.2.2.2; omega) hk
 obtain ⟨D, T, ha⟩ := N9 k 3 b1 b2 w p0 b5 b6 b7 b8 b9 b10 (IntKind.i64.wrap (p2 + 1)) b12 b13 [] b15 b16 b17 b18 b19 b20 b21 b22 b23 q true
 obtain ⟨s2, es2, hs2⟩ := G8 k 3 b1 b2 w p0 b5 b6 b7 b8 b9 b10 (IntKind.i64.wrap (p2 + 1)) b12 b13 [] b15 b16 b17 b18 b19 b20 b21 b22 b23 (Nat.zero_le _) hk
 obtain ⟨x8, c, l, ef, hl, hs⟩ := Xab k 4 b1 b2 b3 b4 b5 b6 b7 b8 p4 b10 (IntKind.i64.wrap (p2 + 1)) b12 b13 [] b15 b16 b17 b18 b19 b20 b21 b22 b23 hm4 heN hk hk2
 have f1 := answ k 4 b1 b2 b3 b4 b5 b6 b7 x8 p4 b10 (IntKind.i64.wrap (p2 + 1)) b12 b13 [] b15 c b17 b18 b19 b20 b21 b22 b23 l q true hEN hl hs hk
 have f2 := armd k 4 b1 b2 b3 b4 b5 b6 b7 x8 p4 b10 (IntKind.i64.wrap (p2 + 1)) b12 b13 [] b15 c b17 b18 b19 b20 b21 b22 b23 l q true hEN (by omega) hs
 have one1 : Sm (some (((b0, b1, b2, b3, b4, b5, (b6, b7, b8, b9, b10), (b11, b12, b13, b14), b15, b16, b17, b18, b19, b20, b21, b22, b23), [s1]) : Ox)) Eo := ⟨_, rfl, hE, by simp, fun s' h' => by rw [List.mem_singleton.1 h']; exact hs1⟩
 have one2 : Sm (some (((3, b1, b2, w, p0, b5, (b6, b7, b8, b9, b10), (IntKind.i64.wrap (p2 + 1), b12, b13, []), b15, b16, b17, b18, D, T, b21, b22, b23), [s2]) : Ox)) Eo := ⟨_, rfl, hE0, by simp, fun s' h' => by rw [List.mem_singleton.1 h']; exact hs2⟩
 have j1 : Sm (cond (decide (v0 ≥ 3)) ((Sf k (v0, v1, v2, v3, v4, v5, (v6, v7, v8, v9, v10), (v11, v12, v13, v14), v15, v16, v17, v18, v19, v20, v21, v22, v23)).bind fun b542 => (Up k b542).bind fun b543 => cond (p2 == b543) (some (((5, b1, b2, b3, b4, b5, (b6, b7, b8, b9, b10), (b11, b12, b13, b14), b15, b16, b17, b18, 0, b20, b21, b22, b23), []) : Ox)) (some (((b0, b1, b2, b3, b4, b5, (b6, b7, b8, b9, b10), (b11, b12, b13, b14), b15, b16, b17, b18, b19, b20, b21, b22, b23), []) : Ox))) (some (((b0, b1, b2, b3, b4, b5, (b6, b7, b8, b9, b10), (b11, b12, b13, b14), b15, b16, b17, b18, b19, b20, b21, b22, b23), []) : Ox))) Eo := by
  rw [ey, Option.bind_some, Bt, Option.bind_some]
  exact Sm.cond (fun _ => Sm.cond (fun _ => failed 0) (fun _ => nn)) (fun _ => nn)
 unfold Ef Iz Db Eg Fd Hh G9; (try dsimp only [Bp])
 unfold Hh; (try dsimp only)
 try dsimp only
 simp only [Bt, Option.bind_some, ha, es1, es2, ef]
 repeat' (first
  | exact nn
  | exact failed _
  | exact j1
  | exact one1
  | exact one2
  | exact g2
  | exact g4
  | exact f1
  | exact f2
  | rw [ey, Option.bind_some]
  | refine Sm.cond (fun _ => ?_) (fun _ => ?_))
theorem Q5 : Sm (some (((0, 0, 0, 0, 0, 0, (0, [], 0, 0, []), (0, 0, [], []), false, false, false, 0, 0, 0, 0, 0, 0), []) : Ox)) Eo := ⟨_, rfl, ⟨Nat.zero_le _, Nat.zero_le _, Nat.zero_le _, Nat.zero_le _⟩, by simp, by simp⟩
theorem Xwt (k : Nat) (v0 v1 v2 v3 v4 v5 v6 : Int) (v7 : List (den (.int .u8))) (v8 v9 : Int) (v10 : List (den Ap)) (v11 v12 : Int) (v13 : List (den (.int .u8))) (v14 : List (den Av)) (v15 v16 v17 : Bool) (v18 v19 v20 v21 v22 v23 : Int) (w : Int) (p0 p1 p2 p3 p4 : Int) (p5 p6 p7 p8 : Bool) (p9 : List (den Ap)) (p10 : List (den (.int .u8))) (q : Int) (hE : Aq 1048576 v7 v10 v13 v14) (h9 : p9.length ≤ 1000) (h10 : p10.length ≤ 1000) (hk : 1048576 < k) (hk2 : k ≤ 4194304) : Sm (F9 k (v0, v1, v2, v3, v4, v5, (v6, v7, v8, v9, v10), (v11, v12, v13, v14), v15, v16, v17, v18, v19, v20, v21, v22, v23) w (p0, p1, p2, p3, p4, p5, p6, p7, p8, p9, p10) q) Eo := by
 obtain ⟨h7, h10', h13, h14⟩ := hE
 have hE : Aq 1048576 v7 v10 v13 v14 := ⟨h7, h10', h13, h14⟩
 obtain ⟨b, hs, hbo⟩ := Cw k v0 v1 v2 v3 v4 v5 v6 v7 v8 v9 v10 v11 v12 v13 v14 v15 v16 v17 v18 v19 v20 v21 v22 v23 (by omega) h14 (by omega)
 unfold F9 Xaq Xaj; (try dsimp only)
 rw [hs, Option.bind_some]
 cases b with
 | false => exact Q5
 | true =>
  obtain ⟨_, _, _, _, _, _, c7, _, c9, _⟩ := hbo.1 rfl
  have hE2 := Dy c7 c9
  refine Sm.cf rfl ?_
  rw [Xma k p0 p1 p2 p3 p4 p5 p6 p7 p8 p9 p10 (by omega) (by omega), Option.bind_some]
  cases ho : Gq p0 p1 p2 p3 p4 p5 p6 p7 p8 p9 p10 with
  | false => exact Q5
  | true =>
   obtain ⟨_, _, o2, _, o4, _⟩ := Ct ho
   refine Sm.cf rfl ?_
   rw [Bf, Option.bind_some]
   refine Sm.cond (fun _ => Q5) (fun _ => ?_)
   rw [Bf, Option.bind_some]
   refine Sm.cond (fun _ => Q5) (fun _ => ?_)
   rw [Dq k v0 v1 v2 v3 v4 v5 v6 v7 v8 v9 v10 v11 v12 v13 v14 v15 v16 v17 v18 v19 v20 v21 v22 v23 hE, Option.bind_some]
   have f1 := Uq k v0 v1 v2 v3 v4 v5 v6 v7 v8 v9 v10 v11 v12 v13 v14 v15 v16 v17 v18 v19 v20 v21 v22 v23 w p0 p1 p2 p3 p4 p5 p6 p7 p8 p9 p10 q v0 v1 v2 v3 v4 v5 v6 v7 v8 v9 v10 v11 v12 v13 v14 v15 v16 v17 v18 v19 v20 v21 v22 v23 c7 c9 o2 o4 h9 h10 hk hk2
   have nn := Xgl v0 v1 v2 v3 v4 v5 v6 v7 v8 v9 v10 v11 v12 v13 v14 v15 v16 v17 v18 v19 v20 v21 v22 v23 hE2
   refine Sm.cond (fun _ => nn) (fun _ => Sm.cond (fun _ => nn) (fun _ => Sm.cond (fun _ => nn) (fun _ => ?_)))
   exact Sm.cond (fun _ => Sm.cond (fun _ => nn) (fun _ => Sm.cond (fun _ => nn) (fun _ => f1))) (fun _ => f1)
def Ez : Ox → Prop
 | ((_, _, _, _, _, _, (_, a7, _, _, a10), (_, _, a13, a14), _, _, _, _, _, _, _, _, _), l) => Aq 1048576 a7 a10 a13 a14 ∧ l.length ≤ 41 ∧ ∀ s ∈ l, Bv 20 s
theorem Eo.z {r : Ox} (h : Eo r) : Ez r := by
 obtain ⟨⟨_, _, _, _, _, _, ⟨_, _, _, _, _⟩, ⟨_, _, _, _⟩, _, _, _, _, _, _, _, _, _⟩, _⟩ := r
 exact ⟨Gg (by omega) h.1, h.2.1, h.2.2⟩
theorem Fx : Sm (some (((0, 0, 0, 0, 0, 0, (0, [], 0, 0, []), (0, 0, [], []), false, false, false, 0, 0, 0, 0, 0, 0), []) : Ox)) Ez := ⟨_, rfl, ⟨Nat.zero_le _, Nat.zero_le _, Nat.zero_le _, Nat.zero_le _⟩, by simp, by simp⟩
theorem Xhx (k : Nat) (b0 b1 b2 b3 b4 b5 b6 : Int) (b7 : List (den (.int .u8))) (b8 b9 : Int) (b10 : List (den Ap)) (b11 b12 : Int) (b13 : List (den (.int .u8))) (b14 : List (den Av)) (b15 b16 b17 : Bool) (b18 b19 b20 b21 b22 b23 : Int) (l : sgL) (q : Int) (on : Bool) (hE : Aq 1048576 b7 b10 b13 b14) (hl : l.length ≤ 41) (hs : ∀ s ∈ l, Bv 20 s) : Sm ((Jz k (b0, b1, b2, b3, b4, b5, (b6, b7, b8, b9, b10), (b11, b12, b13, b14), b15, b16, b17, b18, b19, b20, b21, b22, b23) q on).bind fun r => some (r, l)) Ez := by
 obtain ⟨D, T, ha⟩ := N9 k b0 b1 b2 b3 b4 b5 b6 b7 b8 b9 b10 b11 b12 b13 b14 b15 b16 b17 b18 b19 b20 b21 b22 b23 q on
 rw [ha, Option.bind_some]
 exact ⟨_, rfl, hE, hl, hs⟩
theorem Xdg (k : Nat) (v0 v1 v2 v3 v4 v5 v6 : Int) (v7 : List (den (.int .u8))) (v8 v9 : Int) (v10 : List (den Ap)) (v11 v12 : Int) (v13 : List (den (.int .u8))) (v14 : List (den Av)) (v15 v16 v17 : Bool) (v18 v19 v20 v21 v22 v23 : Int) (w p q : Int) (hE : Aq 1048576 v7 v10 v13 v14) (hk : 1048576 < k) : Sm (Xai k (v0, v1, v2, v3, v4, v5, (v6, v7, v8, v9, v10), (v11, v12, v13, v14), v15, v16, v17, v18, v19, v20, v21, v22, v23) w p q) Ez := by
 obtain ⟨b, hs, hbo⟩ := Cw k v0 v1 v2 v3 v4 v5 v6 v7 v8 v9 v10 v11 v12 v13 v14 v15 v16 v17 v18 v19 v20 v21 v22 v23 (by omega) hE.2.2.2 (by have := hE.2.2.2; omega)
 unfold Xai Sp; (try dsimp only)
 simp only [hs, Bf, Dq k v0 v1 v2 v3 v4 v5 v6 v7 v8 v9 v10 v11 v12 v13 v14 v15 v16 v17 v18 v19 v20 v21 v22 v23 hE, Option.bind_some]
 refine Sm.cond (fun _ => Fx) (fun _ => Sm.cond (fun _ => Fx) (fun _ => Sm.cond (fun _ => Fx) (fun _ => Sm.cond (fun _ => Fx) (fun _ => Sm.cond (fun _ => ⟨_, rfl, hE, by simp, by simp⟩) (fun _ => ?_)))))
 obtain ⟨D, T, ha⟩ := N9 k 2 v1 v2 w p v5 v6 v7 v8 v9 v10 v11 v12 v13 v14 v15 v16 v17 v18 v19 v20 v21 v22 v23 q true
 rw [ha, Option.bind_some]
 refine Sm.bind (G8 k 2 v1 v2 w p v5 v6 v7 v8 v9 v10 v11 v12 v13 v14 v15 v16 v17 v18 D T v21 v22 v23 hE.2.2.2 hk) fun s hs => ⟨_, rfl, hE, by simp, fun s' h' => ?_⟩
 rw [List.mem_singleton.1 h']; exact hs
theorem Xqc (k : Nat) (v0 v1 v2 v3 v4 v5 v6 : Int) (v7 : List (den (.int .u8))) (v8 v9 : Int) (v10 : List (den Ap)) (v11 v12 : Int) (v13 : List (den (.int .u8))) (v14 : List (den Av)) (v15 v16 v17 : Bool) (v18 v19 v20 v21 v22 v23 : Int) (w : Int) (hE : Aq 1048576 v7 v10 v13 v14) (hk : 1048576 < k) : Sm (Xbu k (v0, v1, v2, v3, v4, v5, (v6, v7, v8, v9, v10), (v11, v12, v13, v14), v15, v16, v17, v18, v19, v20, v21, v22, v23) w) Ez := by
 obtain ⟨b, hs, hbo⟩ := Cw k v0 v1 v2 v3 v4 v5 v6 v7 v8 v9 v10 v11 v12 v13 v14 v15 v16 v17 v18 v19 v20 v21 v22 v23 (by omega) hE.2.2.2 (by have := hE.2.2.2; omega)
 unfold Xbu Sc Kh; (try dsimp only [Bp])
 simp only [hs, Bf, Dq k v0 v1 v2 v3 v4 v5 v6 v7 v8 v9 v10 v11 v12 v13 v14 v15 v16 v17 v18 v19 v20 v21 v22 v23 hE, Option.bind_some]
 have ad := Xhx k v0 v1 v2 v3 v4 v5 v6 v7 v8 v9 v10 v11 v12 v13 v14 true v16 v17 v18 v19 v20 v21 v22 v23 [] w false hE (by simp) (by simp)
 refine Sm.cond (fun _ => Fx) (fun _ => Sm.cond (fun _ => Fx) (fun _ => Sm.cond (fun _ => Sm.cond (fun _ => Sm.cond (fun _ => ?_) (fun _ => ad)) (fun _ => ad)) (fun _ => ad)))
 refine Sm.bind (Ma k v0 v1 v2 v3 v4 v5 v6 v7 v8 v9 v10 v11 v12 v13 v14 true true v17 v18 v19 v20 v21 v22 v23 hE.2.2.2 hk) fun s hs => ?_
 refine Sm.ct (decide_eq_true (by simp)) ?_
 exact Xhx k v0 v1 v2 v3 v4 v5 v6 v7 v8 v9 v10 v11 v12 v13 v14 true true v17 v18 v19 v20 v21 v22 v23 ([] ++ [s]) w false hE (by simp) (fun s' h' => by simp only [List.nil_append] at h'; rw [List.mem_singleton.1 h']; exact hs)
theorem Xis (k : Nat) (v0 v1 v2 v3 v4 v5 v6 : Int) (v7 : List (den (.int .u8))) (v8 v9 : Int) (v10 : List (den Ap)) (v11 v12 : Int) (v13 : List (den (.int .u8))) (v14 : List (den Av)) (v15 v16 v17 : Bool) (v18 v19 v20 v21 v22 v23 : Int) (hE : Aq 1048576 v7 v10 v13 v14) (hk : 1048576 < k) : ∃ (r0 r1 r2 r3 r4 r5 r6 : Int) (r7 : List (den (.int .u8))) (r8 r9 : Int) (r10 : List (den Ap)) (r11 r12 : Int) (r13 : List (den (.int .u8))) (r14 : List (den Av)) (r15 r16 r17 : Bool) (r18 r19 r20 r21 r22 r23 : Int) (c : Bool), Xg k (v0, v1, v2, v3, v4, v5, (v6, v7, v8, v9, v10), (v11, v12, v13, v14), v15, v16, v17, v18, v19, v20, v21, v22, v23) = some ((r0, r1, r2, r3, r4, r5, (r6, r7, r8, r9, r10), (r11, r12, r13, r14), r15, r16, r17, r18, r19, r20, r21, r22, r23), c) ∧ Aq 1048576 r7 r10 r13 r14 := by
 obtain ⟨b, hs, hbo⟩ := Cw k v0 v1 v2 v3 v4 v5 v6 v7 v8 v9 v10 v11 v12 v13 v14 v15 v16 v17 v18 v19 v20 v21 v22 v23 (by omega) hE.2.2.2 (by have := hE.2.2.2; omega)
 unfold Xg R5; (try dsimp only)
 simp only [hs, Dq k v0 v1 v2 v3 v4 v5 v6 v7 v8 v9 v10 v11 v12 v13 v14 v15 v16 v17 v18 v19 v20 v21 v22 v23 hE, Option.bind_some]
 cases b with
 | false => exact ⟨_, _, _, _, _, _, _, _, _, _, _, _, _, _, _, _, _, _, _, _, _, _, _, _, _, rfl, Nat.zero_le _, Nat.zero_le _, Nat.zero_le _, Nat.zero_le _⟩
 | true =>
  cases (v0 != 0) with
  | true => exact ⟨_, _, _, _, _, _, _, _, _, _, _, _, _, _, _, _, _, _, _, _, _, _, _, _, _, rfl, hE⟩
  | false => exact ⟨_, _, _, _, _, _, _, _, _, _, _, _, _, _, _, _, _, _, _, _, _, _, _, _, _, rfl, hE⟩
theorem Xzx (k : Nat) (v w p q : Int) (hk : 1048576 < k) : ∃ (r0 r1 r2 r3 r4 r5 r6 : Int) (r7 : List (den (.int .u8))) (r8 r9 : Int) (r10 : List (den Ap)) (r11 r12 : Int) (r13 : List (den (.int .u8))) (r14 : List (den Av)) (r15 r16 r17 : Bool) (r18 r19 r20 r21 r22 r23 : Int), U0 k v w p q = some (r0, r1, r2, r3, r4, r5, (r6, r7, r8, r9, r10), (r11, r12, r13, r14), r15, r16, r17, r18, r19, r20, r21, r22, r23) ∧ Aq 1048576 r7 r10 r13 r14 := by
 obtain ⟨b, hs, hbo⟩ := Cw k 0 v w 0 0 p (IntKind.i64.wrap (p + 1)) [] 0 0 [] 0 q [] [] false false false (-1) 0 0 0 0 24 (by omega) (Nat.zero_le _) (by simp; omega)
 unfold U0 Sa Xkh; (try dsimp only)
 rw [Option.bind_some, hs, Option.bind_some]
 cases b <;> exact ⟨_, _, _, _, _, _, _, _, _, _, _, _, _, _, _, _, _, _, _, _, _, _, _, _, rfl, Nat.zero_le _, Nat.zero_le _, Nat.zero_le _, Nat.zero_le _⟩
theorem S2 (k : Nat) (e0 e1 : Int) (e2 : List (den (.int .u8))) (e3 : List (den Av)) (w : Int) (h2 : e2.length ≤ 1048576) (h3 : e3.length ≤ 1048576) (hk : 1048576 < k) : ∃ (f0 f1 : Int) (f2 : Br) (f3 : Kb) (b : Br), Xce k (e0, e1, e2, e3) w = some ((f0, f1, f2, f3), b) ∧ f2.length ≤ 1048576 ∧ f3.length ≤ 1048576 := by
 unfold Xce Rq; (try dsimp only [Bp, Bs])
 rw [Ch k e0 e1 e2 e3 h3 (by omega), Option.bind_some]
 cases Ba e0 e1 e2 e3 with
 | false => exact ⟨_, _, _, _, _, rfl, Nat.zero_le _, Nat.zero_le _⟩
 | true =>
  rw [Bool.not_true, cond_false]
  by_cases hw : w < 0
  ·rw [decide_eq_true hw, cond_true]
   exact ⟨_, _, _, _, _, rfl, Nat.zero_le _, Nat.zero_le _⟩
  ·rw [decide_eq_false hw, cond_false]
   obtain ⟨m, hm, hm0, hm1⟩ : ∃ m : Int, (if ((e2.length : Nat) : Int) < w then ((e2.length : Nat) : Int) else w) = m ∧ 0 ≤ m ∧ m ≤ ((e2.length : Nat) : Int) := by
    split
    ·exact ⟨_, rfl, by omega, by omega⟩
    ·exact ⟨_, rfl, by omega, by omega⟩
   rw [hm, decide_eq_true hm0, decide_eq_true hm1]
   simp only [Bool.and_self, cond_true]
   rw [decide_eq_true (by simp only [List.length_nil, List.length_drop]; omega), decide_eq_true (by simp only [List.length_nil]; omega), decide_eq_true (by simp only [List.length_nil, List.length_take]; omega)]
   refine ⟨_, _, _, _, _, rfl, ?_, ?_⟩
   ·rw [List.nil_append, List.length_drop]; omega
   ·rw [List.nil_append]; exact h3
theorem Xum (k : Nat) (v0 v1 v2 v3 v4 v5 v6 : Int) (v7 : List (den (.int .u8))) (v8 v9 : Int) (v10 : List (den Ap)) (v11 v12 : Int) (v13 : List (den (.int .u8))) (v14 : List (den Av)) (v15 v16 v17 : Bool) (v18 v19 v20 v21 v22 v23 : Int) (w p : Int) (hE : Aq 1048576 v7 v10 v13 v14) (hk : 1048576 < k) : ∃ (r0 r1 r2 r3 r4 r5 r6 : Int) (r7 : List (den (.int .u8))) (r8 r9 : Int) (r10 : List (den Ap)) (r11 r12 : Int) (r13 : List (den (.int .u8))) (r14 : List (den Av)) (r15 r16 r17 : Bool) (r18 r19 r20 r21 r22 r23 : Int) (b : Br) (l : sgL), Zy k (v0, v1, v2, v3, v4, v5, (v6, v7, v8, v9, v10), (v11, v12, v13, v14), v15, v16, v17, v18, v19, v20, v21, v22, v23) w p = some ((r0, r1, r2, r3, r4, r5, (r6, r7, r8, r9, r10), (r11, r12, r13, r14), r15, r16, r17, r18, r19, r20, r21, r22, r23), b, l) ∧ Ez ((r0, r1, r2, r3, r4, r5, (r6, r7, r8, r9, r10), (r11, r12, r13, r14), r15, r16, r17, r18, r19, r20, r21, r22, r23), l) := by
 obtain ⟨h7, h10, h13, h14⟩ := hE
 have hE : Aq 1048576 v7 v10 v13 v14 := ⟨h7, h10, h13, h14⟩
 obtain ⟨b, hs, hbo⟩ := Cw k v0 v1 v2 v3 v4 v5 v6 v7 v8 v9 v10 v11 v12 v13 v14 v15 v16 v17 v18 v19 v20 v21 v22 v23 (by omega) h14 (by omega)
 have zz : ∃ (r0 r1 r2 r3 r4 r5 r6 : Int) (r7 : List (den (.int .u8))) (r8 r9 : Int) (r10 : List (den Ap)) (r11 r12 : Int) (r13 : List (den (.int .u8))) (r14 : List (den Av)) (r15 r16 r17 : Bool) (r18 r19 r20 r21 r22 r23 : Int) (b : Br) (l : sgL), some (((0, 0, 0, 0, 0, 0, (0, [], 0, 0, []), (0, 0, [], []), false, false, false, 0, 0, 0, 0, 0, 0), [], []) : F138_O.T) = some ((r0, r1, r2, r3, r4, r5, (r6, r7, r8, r9, r10), (r11, r12, r13, r14), r15, r16, r17, r18, r19, r20, r21, r22, r23), b, l) ∧ Ez ((r0, r1, r2, r3, r4, r5, (r6, r7, r8, r9, r10), (r11, r12, r13, r14), r15, r16, r17, r18, r19, r20, r21, r22, r23), l) := ⟨_, _, _, _, _, _, _, _, _, _, _, _, _, _, _, _, _, _, _, _, _, _, _, _, _, _, rfl, ⟨Nat.zero_le _, Nat.zero_le _, Nat.zero_le _, Nat.zero_le _⟩, by simp, by simp⟩
 unfold Zy Sx; (try dsimp only)
 rw [hs, Option.bind_some]
 cases b with
 | false => exact zz
 | true =>
  rw [Bool.not_true, cond_false]
  cases decide (w < 0) with
  | true => exact zz
  | false =>
   rw [cond_false, Bf, Option.bind_some]
   cases Bq p 0 900000 with
   | false => exact zz
   | true =>
    rw [Bool.not_true, cond_false, Dq k v0 v1 v2 v3 v4 v5 v6 v7 v8 v9 v10 v11 v12 v13 v14 v15 v16 v17 v18 v19 v20 v21 v22 v23 hE, Option.bind_some]
    dsimp only
    obtain ⟨f0, f1, f2, f3, d, er, r2, r3⟩ := S2 k v11 v12 v13 v14 w h13 h14 hk
    have hF : Aq 1048576 v7 v10 f2 f3 := ⟨h7, h10, r2, r3⟩
    rw [er, Option.bind_some]
    dsimp only
    have nn : ∃ (r0 r1 r2 r3 r4 r5 r6 : Int) (r7 : List (den (.int .u8))) (r8 r9 : Int) (r10 : List (den Ap)) (r11 r12 : Int) (r13 : List (den (.int .u8))) (r14 : List (den Av)) (r15 r16 r17 : Bool) (r18 r19 r20 r21 r22 r23 : Int) (b : Br) (l : sgL), some (((v0, v1, v2, v3, v4, v5, (v6, v7, v8, v9, v10), (f0, f1, f2, f3), v15, v16, v17, v18, v19, v20, v21, v22, v23), d, []) : F138_O.T) = some ((r0, r1, r2, r3, r4, r5, (r6, r7, r8, r9, r10), (r11, r12, r13, r14), r15, r16, r17, r18, r19, r20, r21, r22, r23), b, l) ∧ Ez ((r0, r1, r2, r3, r4, r5, (r6, r7, r8, r9, r10), (r11, r12, r13, r14), r15, r16, r17, r18, r19, r20, r21, r22, r23), l) := ⟨_, _, _, _, _, _, _, _, _, _, _, _, _, _, _, _, _, _, _, _, _, _, _, _, _, _, rfl, hF, by simp, by simp⟩
    cases (v0 == 4) with
    | false => exact nn
    | true =>
     obtain ⟨g1, hg1⟩ := Kj k v11 v12 v13 v14 h14 (by omega)
     obtain ⟨g2, hg2⟩ := Kj k f0 f1 f2 f3 r3 (by omega)
     rw [cond_true, hg1, Option.bind_some]
     cases (g1 == 0) with
     | false => exact nn
     | true =>
      rw [cond_true, hg2, Option.bind_some]
      cases decide (g2 > 0) with
      | false => exact nn
      | true =>
       obtain ⟨t, ht⟩ := Y5 k v0 v1 v2 v3 v4 v5 v6 v7 v8 v9 v10 f0 f1 f2 f3 v15 v16 v17 v18 v19 v20 v21 v22 v23
       obtain ⟨s, es, hs1, hs2⟩ := Lf k v0 v1 v2 v3 v4 v5 v6 v7 v8 v9 v10 f0 f1 f2 f3 v15 v16 v17 v18 v19 v20 v21 v22 v23 (IntKind.i64.wrap (IntKind.i64.wrap (v6 + v8) + t)) r3 hk
       rw [cond_true, ht, Option.bind_some, es, Option.bind_some]
       exact ⟨_, _, _, _, _, _, _, _, _, _, _, _, _, _, _, _, _, _, _, _, _, _, _, _, _, _, rfl, hF, by simp, fun s' h' => by rw [List.mem_singleton.1 h']; exact G7 ⟨hs1, hs2⟩⟩
theorem Xg2 (k : Nat) (c0 c1 c2 : Int) (h : Na c0 c1 c2 = true) : ∃ v, Xby k (c0, c1, c2) = some (c0, c1, v) := by
 unfold Xby Ta; (try dsimp only [Wo])
 rw [Xr, h]
 exact ⟨_, rfl⟩
theorem Vv (k : Nat) (m0 : Int) (m1 : List (den (.int .u8))) (m2 m3 : Int) (m4 : List (den Ap)) (hok : Bw m0 m1 m2 m3 m4 = true) (hk : 4 ≤ k) : ∃ b : Br, Xjl k (m0, m1, m2, m3, m4) 12 = some (m0, b) ∧ b.length ≤ 12 := by
 obtain ⟨h0, h1, h2, h3, h4, h5⟩ := An.1 hok
 obtain ⟨n, e1, e3⟩ : ∃ n : Int, (if 12 < m2 then (12 : Int) else m2) = n ∧ (n ≤ 12 ∧ n ≤ m2 ∧ 0 ≤ n) := by
  by_cases c2 : 12 < m2
  ·exact ⟨12, if_pos c2, by omega⟩
  ·exact ⟨m2, if_neg c2, by omega⟩
 unfold Xjl Yw; (try dsimp only [Bp, Bn])
 rw [D6 k m0 m1 m2 m3 m4 hk, hok, Bf, e1]
 simp only [Option.bind_some, Bool.not_true, cond_false, List.nil_append, List.length_nil, Nat.zero_add]
 rw [show Bq 12 1 12 = true from rfl]
 simp only [Bool.not_true, cond_false]
 have main : ∀ x : Int, 0 ≤ x → x ≤ n →
   ∃ b : Br, (cond (decide (0 ≤ x) && decide (x ≤ ((m1.length : Nat) : Int))) (cond (decide ((m1.take x.toNat).length * 1 ≤ 140737488355328)) (some (m0, m1.take x.toNat)) none) none) = some (m0, b) ∧ b.length ≤ 12 := by
  intro x hx hxn
  have hlen : (m1.take x.toNat).length = x.toNat := by rw [List.length_take]; omega
  rw [decide_eq_true hx, decide_eq_true (by omega : x ≤ ((m1.length : Nat) : Int)), decide_eq_true (by omega : (m1.take x.toNat).length * 1 ≤ 140737488355328)]
  exact ⟨m1.take x.toNat, rfl, by omega⟩
 cases m4 with
 | nil =>
  rw [show decide (((([] : Ek).length : Nat) : Int) > 0) = false from rfl]
  simp only [cond_false]
  exact main n (by omega) (by omega)
 | cons r l =>
  obtain ⟨u, v⟩ := r
  have e0 : Bd ((u, v) :: l : Ek) 0 = (u, v) := rfl
  simp only [Gl, Bool.and_eq_true, decide_eq_true_eq] at h5
  rw [e0, decide_eq_true (by simp only [List.length_cons]; omega : ((((u, v) :: l : Ek).length : Nat) : Int) > 0)]
  simp only
  rw [i64_in (u - m0) (by omega)]
  simp only [cond_true]
  by_cases c : u - m0 < n
  ·simp only [if_pos c]
   exact main (u - m0) (by omega) (Int.le_of_lt c)
  ·simp only [if_neg c]
   exact main n (by omega) (Int.le_refl _)
theorem Z9 (k : Nat) (m0 : Int) (m1 : List (den (.int .u8))) (m2 m3 : Int) (m4 : List (den Ap)) (data : Br) (hok : Bw m0 m1 m2 m3 m4 = true) (hd : data.length ≤ 1048576) (hk : 4 ≤ k) :
  ∃ d : Br, Xjy k (m0, m1, m2, m3, m4) data = some ((m0, m1 ++ d, m2, m3, m4), ((d.length : Nat) : Int)) ∧ m1.length + d.length ≤ 32 := by
 obtain ⟨h0, h1, h2, h3, h4, h5⟩ := An.1 hok
 unfold Xjy Yl; (try dsimp only [Bp, Bn])
 rw [D6 k m0 m1 m2 m3 m4 (by omega), hok, Qx k m0 m1 m2 m3 m4 (by omega) (by omega), i64_in (32 - ((m1.length : Nat) : Int)) (by omega)]
 simp only [Option.bind_some, Bool.not_true, cond_false]
 have hb : ∀ x : Int, (if 32 - ((m1.length : Nat) : Int) < ((data.length : Nat) : Int) then 32 - ((m1.length : Nat) : Int) else ((data.length : Nat) : Int)) = x → 0 ≤ x ∧ x ≤ ((data.length : Nat) : Int) ∧ x ≤ 32 - ((m1.length : Nat) : Int) := by
  intro x hx
  split at hx <;> subst hx <;> omega
 obtain ⟨x1, x2, x3⟩ := hb _ rfl
 generalize (if 32 - ((m1.length : Nat) : Int) < ((data.length : Nat) : Int) then 32 - ((m1.length : Nat) : Int) else ((data.length : Nat) : Int)) = x at *
 have hlen : (data.take x.toNat).length = x.toNat := by rw [List.length_take]; omega
 have e : x = (((data.take x.toNat).length : Nat) : Int) := by omega
 rw [decide_eq_true x1, decide_eq_true x2, decide_eq_true (by omega : (m1.length + (data.take x.toNat).length) * 1 ≤ 140737488355328)]
 refine ⟨data.take x.toNat, ?_, by omega⟩
 rw [← e]
 rfl
theorem G0 {s : den seg} (h : Bv 20 s) : ∀ s' ∈ ([s] : sgL), Bv 20 s' := fun s' h' => by rw [List.mem_singleton.1 h']; exact h
theorem Xio (k : Nat) (v0 v1 v2 v3 v4 v5 v6 : Int) (v7 : List (den (.int .u8))) (v8 v9 : Int) (v10 : List (den Ap)) (v11 v12 : Int) (v13 : List (den (.int .u8))) (v14 : List (den Av)) (v15 v16 v17 : Bool) (v18 v19 v20 v21 v22 v23 : Int) (w : Int) (hE : Aq 1048576 v7 v10 v13 v14) (hk : 1048576 < k) : Sm (Zs k (v0, v1, v2, v3, v4, v5, (v6, v7, v8, v9, v10), (v11, v12, v13, v14), v15, v16, v17, v18, v19, v20, v21, v22, v23) w) Ez := by
 obtain ⟨h7, h10, h13, h14⟩ := hE
 have hE : Aq 1048576 v7 v10 v13 v14 := ⟨h7, h10, h13, h14⟩
 obtain ⟨b, hs, hbo⟩ := Cw k v0 v1 v2 v3 v4 v5 v6 v7 v8 v9 v10 v11 v12 v13 v14 v15 v16 v17 v18 v19 v20 v21 v22 v23 (by omega) h14 (by omega)
 unfold Zs Tx L7 Nd; (try dsimp only [Ao])
 rw [hs]
 simp only [Option.bind_some, Bf]
 cases b with
 | false => exact Fx
 | true =>
  obtain ⟨_, _, _, _, _, _, c7, _, _, c10, _⟩ := hbo.1 rfl
  obtain ⟨u, eu⟩ := Xg2 k v21 v22 v23 c10
  obtain ⟨d, ed, hd⟩ := Vv k v6 v7 v8 v9 v10 c7 (by omega)
  rw [Dq k v0 v1 v2 v3 v4 v5 v6 v7 v8 v9 v10 v11 v12 v13 v14 v15 v16 v17 v18 v19 v20 v21 v22 v23 hE, eu]
  simp only [Option.bind_some, ed]
  have f1 := G8 k v0 v1 v2 v3 v4 v5 v6 v7 v8 v9 v10 v11 v12 v13 v14 v15 v16 v17 v18 (IntKind.i64.wrap (w + u)) (IntKind.i64.wrap (v20 + 1)) v21 v22 u h14 hk
  have f2 := Ma k v0 v1 v2 v3 v4 v5 v6 v7 v8 v9 v10 v11 v12 v13 v14 v15 v16 v17 v18 (IntKind.i64.wrap (w + u)) (IntKind.i64.wrap (v20 + 1)) v21 v22 u h14 hk
  have f3 := fun x => Lf k v0 v1 v2 v3 v4 v5 v6 v7 v8 v9 v10 v11 v12 v13 v14 v15 v16 v17 v18 (IntKind.i64.wrap (w + u)) (IntKind.i64.wrap (v20 + 1)) v21 v22 u x h14 hk
  refine Sm.cf rfl (Sm.cond (fun _ => Fx) (fun _ => Sm.cond (fun _ => ⟨_, rfl, hE, by simp, by simp⟩) (fun _ => Sm.cond (fun _ => ⟨_, rfl, hE, by simp, by simp⟩) (fun _ => Sm.cond (fun _ => ⟨_, rfl, hE, by simp, by simp⟩) (fun _ => ?_)))))
  refine Sm.cond (fun _ => Sm.bind f1 fun s hs => ⟨_, rfl, hE, by simp, G0 hs⟩) (fun _ => Sm.cond (fun _ => Sm.bind f1 fun s hs => ⟨_, rfl, hE, by simp, G0 hs⟩) (fun _ => Sm.cond (fun _ => ⟨_, rfl, hE, by simp, by simp⟩) (fun _ => Sm.cond (fun _ => ?_) (fun _ => ?_))))
  ·exact Sm.bind (f3 _) fun s hs => ⟨_, rfl, hE, by simp, G0 ⟨by have := hs.1; show s.2.2.2.2.2.2.2.2.2.1.length ≤ 20; omega, by show d.length ≤ 20; omega⟩⟩
  ·have g3 : Sm ((Wd k (v0, v1, v2, v3, v4, v5, (v6, v7, v8, v9, v10), (v11, v12, v13, v14), v15, v16, v17, v18, IntKind.i64.wrap (w + u), IntKind.i64.wrap (v20 + 1), v21, v22, u) (IntKind.i64.wrap (v6 - 1))).bind fun s => some (((v0, v1, v2, v3, v4, v5, (v6, v7, v8, v9, v10), (v11, v12, v13, v14), v15, v16, v17, v18, IntKind.i64.wrap (w + u), IntKind.i64.wrap (v20 + 1), v21, v22, u), [s]) : Ox)) Ez := Sm.bind (f3 _) fun s hs => ⟨_, rfl, hE, by simp, G0 (G7 ⟨hs.1, hs.2⟩)⟩
   exact Sm.cond (fun _ => Sm.cond (fun _ => Sm.bind f2 fun s hs => ⟨_, rfl, hE, by simp, G0 hs⟩) (fun _ => g3)) (fun _ => g3)
theorem Xoo (n : Nat) (v0 v1 v2 v3 v4 v5 v6 : Int) (v7 : List (den (.int .u8))) (v8 v9 : Int) (v10 : List (den Ap)) (v11 v12 : Int) (v13 : List (den (.int .u8))) (v14 : List (den Av)) (v15 v16 v17 : Bool) (v18 v19 v20 v21 v22 v23 : Int) (data : Br) (w : Int) (hE : Aq 1048576 v7 v10 v13 v14) (hd : data.length ≤ 1048576) (hk : 1048576 < n + 4) (hk2 : n + 4 ≤ 4194304) : ∃ (r0 r1 r2 r3 r4 r5 r6 : Int) (r7 : List (den (.int .u8))) (r8 r9 : Int) (r10 : List (den Ap)) (r11 r12 : Int) (r13 : List (den (.int .u8))) (r14 : List (den Av)) (r15 r16 r17 : Bool) (r18 r19 r20 r21 r22 r23 : Int) (c : Int) (l : sgL), Tw (n + 4) (v0, v1, v2, v3, v4, v5, (v6, v7, v8, v9, v10), (v11, v12, v13, v14), v15, v16, v17, v18, v19, v20, v21, v22, v23) data w = some ((r0, r1, r2, r3, r4, r5, (r6, r7, r8, r9, r10), (r11, r12, r13, r14), r15, r16, r17, r18, r19, r20, r21, r22, r23), c, l) ∧ Ez ((r0, r1, r2, r3, r4, r5, (r6, r7, r8, r9, r10), (r11, r12, r13, r14), r15, r16, r17, r18, r19, r20, r21, r22, r23), l) := by
 obtain ⟨h7, h10, h13, h14⟩ := hE
 have hE : Aq 1048576 v7 v10 v13 v14 := ⟨h7, h10, h13, h14⟩
 obtain ⟨b, hs, hbo⟩ := Cw (n + 4) v0 v1 v2 v3 v4 v5 v6 v7 v8 v9 v10 v11 v12 v13 v14 v15 v16 v17 v18 v19 v20 v21 v22 v23 (by omega) h14 (by omega)
 suffices h : Sm (Tw (n + 4) (v0, v1, v2, v3, v4, v5, (v6, v7, v8, v9, v10), (v11, v12, v13, v14), v15, v16, v17, v18, v19, v20, v21, v22, v23) data w) fun r => Ez (r.1, r.2.2) by
  obtain ⟨⟨⟨_, _, _, _, _, _, ⟨_, _, _, _, _⟩, ⟨_, _, _, _⟩, _, _, _, _, _, _, _, _, _⟩, _, _⟩, e, h⟩ := h
  exact ⟨_, _, _, _, _, _, _, _, _, _, _, _, _, _, _, _, _, _, _, _, _, _, _, _, _, _, e, h⟩
 unfold Tw R6; (try dsimp only)
 rw [hs]
 simp only [Option.bind_some, Bf]
 cases b with
 | false => exact ⟨_, rfl, ⟨Nat.zero_le _, Nat.zero_le _, Nat.zero_le _, Nat.zero_le _⟩, by simp, by simp⟩
 | true =>
  obtain ⟨_, _, _, _, _, _, c7, _, c9, _⟩ := hbo.1 rfl
  obtain ⟨d, ed, hd2⟩ := Z9 (n + 4) v6 v7 v8 v9 v10 data c7 hd (by omega)
  obtain ⟨q0, q1, q2, q3, q4, q5⟩ := An.1 c7
  have hm2 : Bw v6 (v7 ++ d) v8 v9 v10 = true := An.2 ⟨q0, by rw [List.length_append]; omega, ⟨q2.1, by rw [List.length_append]; omega⟩, q3, q4, q5⟩
  have hE2 : Aq 1048576 (v7 ++ d) v10 v13 v14 := ⟨by rw [List.length_append]; omega, h10, h13, h14⟩
  rw [Dq (n + 4) v0 v1 v2 v3 v4 v5 v6 v7 v8 v9 v10 v11 v12 v13 v14 v15 v16 v17 v18 v19 v20 v21 v22 v23 hE]
  simp only [Option.bind_some, ed]
  have g : ∀ (m : Br) (c : Int), Bw v6 m v8 v9 v10 = true → Aq 1048576 m v10 v13 v14 → Sm (cond (v0 != 4) (some (((v0, v1, v2, v3, v4, v5, (v6, m, v8, v9, v10), (v11, v12, v13, v14), v15, v16, v17, v18, v19, v20, v21, v22, v23), c, []) : den fin × Int × sgL)) ((Nv (n + 4) (v0, v1, v2, v3, v4, v5, (v6, m, v8, v9, v10), (v11, v12, v13, v14), v15, v16, v17, v18, v19, v20, v21, v22, v23)).bind fun b5 => (Jz (n + 4) b5.1 w false).bind fun b6 => some (b6, c, b5.2))) fun r => Ez (r.1, r.2.2) := by
   intro m c hm hE3
   refine Sm.cond (fun _ => ⟨_, rfl, hE3, by simp, by simp⟩) (fun _ => ?_)
   obtain ⟨x, l, eb, hl, hs⟩ := Xbn (n + 4) v0 v1 v2 v3 v4 v5 v6 m v8 v9 v10 v11 v12 v13 v14 v15 v16 v17 v18 v19 v20 v21 v22 v23 hm c9 hk hk2
   obtain ⟨D, T, ea⟩ := N9 (n + 4) v0 v1 v2 v3 v4 v5 v6 m x v9 v10 v11 v12 v13 v14 v15 v16 v17 v18 v19 v20 v21 v22 v23 w false
   rw [eb, Option.bind_some, ea, Option.bind_some]
   exact ⟨_, rfl, hE3, by show l.length ≤ 41; omega, hs⟩
  refine Sm.cf rfl (Sm.cond (fun _ => ⟨_, rfl, ⟨Nat.zero_le _, Nat.zero_le _, Nat.zero_le _, Nat.zero_le _⟩, by simp, by simp⟩) (fun _ => ?_))
  exact Sm.cond (fun _ => Sm.cond (fun _ => g (v7 ++ d) _ hm2 hE2) (fun _ => g v7 0 c7 hE)) (fun _ => g v7 0 c7 hE)
end Go.Proofs.YtjkkbmkkljpcjaaGreat.Gn
end

section
namespace Go.Proofs.YtjkkbmkkljpcjaaGreat.Gn
open Go.Rf Go.IntWalk
set_option linter.unusedVariables false
set_option linter.unusedSimpArgs false
def Ls (c : Nat) (l : sgL) : Prop := l.length + 41 * c ≤ 2000 ∧ ∀ s ∈ l, Bv 20 s
theorem Ls.pre {c : Nat} {l : sgL} (h : Ls (c + 1) l) : Ls c l := ⟨by have := h.1; omega, h.2⟩
theorem Ls.app {c : Nat} {l r : sgL} (h : Ls (c + 1) l) (hr : r.length ≤ 41) (hs : ∀ s ∈ r, Bv 20 s) : Ls c (l ++ r) :=
 ⟨by rw [List.length_append]; have := h.1; omega, fun s hs' => (List.mem_append.1 hs').elim (h.2 s) (hs s)⟩
theorem Ls.cut {c i j : Nat} {l : sgL} (h : Ls (c + 1) l) : Ls c ((l.take i).drop j) :=
 ⟨by rw [List.length_drop, List.length_take]; have := h.1; omega, fun s hs => h.2 s (List.mem_of_mem_take (List.mem_of_mem_drop hs))⟩
def Ezw : den fin × Int × sgL → Prop
 | ((r0, r1, r2, r3, r4, r5, (r6, r7, r8, r9, r10), (r11, r12, r13, r14), r15, r16, r17, r18, r19, r20, r21, r22, r23), _, l) => Ez ((r0, r1, r2, r3, r4, r5, (r6, r7, r8, r9, r10), (r11, r12, r13, r14), r15, r16, r17, r18, r19, r20, r21, r22, r23), l)
def Ezr : den fin × Br × sgL → Prop
 | ((r0, r1, r2, r3, r4, r5, (r6, r7, r8, r9, r10), (r11, r12, r13, r14), r15, r16, r17, r18, r19, r20, r21, r22, r23), _, l) => Ez ((r0, r1, r2, r3, r4, r5, (r6, r7, r8, r9, r10), (r11, r12, r13, r14), r15, r16, r17, r18, r19, r20, r21, r22, r23), l)
theorem Xlk (n : Nat) (v0 v1 v2 v3 v4 v5 v6 : Int) (v7 : List (den (.int .u8))) (v8 v9 : Int) (v10 : List (den Ap)) (v11 v12 : Int) (v13 : List (den (.int .u8))) (v14 : List (den Av)) (v15 v16 v17 : Bool) (v18 v19 v20 v21 v22 v23 : Int) (data : Br) (w : Int) (hE : Aq 1048576 v7 v10 v13 v14) (hd : data.length ≤ 1048576) (hk : 1048576 < n + 4) (hk2 : n + 4 ≤ 4194304) : Sm (Tw (n + 4) (v0, v1, v2, v3, v4, v5, (v6, v7, v8, v9, v10), (v11, v12, v13, v14), v15, v16, v17, v18, v19, v20, v21, v22, v23) data w) Ezw := by
 obtain ⟨r0, r1, r2, r3, r4, r5, r6, r7, r8, r9, r10, r11, r12, r13, r14, r15, r16, r17, r18, r19, r20, r21, r22, r23, c, l, e, hz⟩ := Xoo n v0 v1 v2 v3 v4 v5 v6 v7 v8 v9 v10 v11 v12 v13 v14 v15 v16 v17 v18 v19 v20 v21 v22 v23 data w hE hd hk hk2
 exact ⟨_, e, hz⟩
theorem X6w (k : Nat) (v0 v1 v2 v3 v4 v5 v6 : Int) (v7 : List (den (.int .u8))) (v8 v9 : Int) (v10 : List (den Ap)) (v11 v12 : Int) (v13 : List (den (.int .u8))) (v14 : List (den Av)) (v15 v16 v17 : Bool) (v18 v19 v20 v21 v22 v23 : Int) (w p : Int) (hE : Aq 1048576 v7 v10 v13 v14) (hk : 1048576 < k) : Sm (Zy k (v0, v1, v2, v3, v4, v5, (v6, v7, v8, v9, v10), (v11, v12, v13, v14), v15, v16, v17, v18, v19, v20, v21, v22, v23) w p) Ezr := by
 obtain ⟨r0, r1, r2, r3, r4, r5, r6, r7, r8, r9, r10, r11, r12, r13, r14, r15, r16, r17, r18, r19, r20, r21, r22, r23, b, l, e, hz⟩ := Xum k v0 v1 v2 v3 v4 v5 v6 v7 v8 v9 v10 v11 v12 v13 v14 v15 v16 v17 v18 v19 v20 v21 v22 v23 w p hE hk
 exact ⟨_, e, hz⟩
theorem Xyg (k : Nat) (v0 v1 v2 v3 v4 v5 v6 : Int) (v7 : List (den (.int .u8))) (v8 v9 : Int) (v10 : List (den Ap)) (v11 v12 : Int) (v13 : List (den (.int .u8))) (v14 : List (den Av)) (v15 v16 v17 : Bool) (v18 v19 v20 v21 v22 v23 : Int) (w : Int) (s : den seg) (q : Int) (hE : Aq 1048576 v7 v10 v13 v14) (hs : Bv 20 s) (hk : 1048576 < k) (hk2 : k ≤ 4194304) : Sm (F9 k (v0, v1, v2, v3, v4, v5, (v6, v7, v8, v9, v10), (v11, v12, v13, v14), v15, v16, v17, v18, v19, v20, v21, v22, v23) w s q) Ez := by
 obtain ⟨r, e, h⟩ := Xwt k v0 v1 v2 v3 v4 v5 v6 v7 v8 v9 v10 v11 v12 v13 v14 v15 v16 v17 v18 v19 v20 v21 v22 v23 w s.1 s.2.1 s.2.2.1 s.2.2.2.1 s.2.2.2.2.1 s.2.2.2.2.2.1 s.2.2.2.2.2.2.1 s.2.2.2.2.2.2.2.1 s.2.2.2.2.2.2.2.2.1 s.2.2.2.2.2.2.2.2.2.1 s.2.2.2.2.2.2.2.2.2.2 q hE (Nat.le_trans hs.1 (by omega)) (Nat.le_trans hs.2 (by omega)) hk hk2
 exact ⟨r, e, h.z⟩
def Ze : den fin × den fin × sgL × sgL × Br × Int → Prop
 | ((_, _, _, _, _, _, (_, a7, _, _, a10), (_, _, a13, a14), _, _, _, _, _, _, _, _, _), (_, _, _, _, _, _, (_, b7, _, _, b10), (_, _, b13, b14), _, _, _, _, _, _, _, _, _), la, lb, bb, p) =>
  Aq 1048576 a7 a10 a13 a14 ∧ Aq 1048576 b7 b10 b13 b14 ∧ Ls 0 la ∧ Ls 0 lb ∧ BOk bb ∧ bb.length ≤ 2000 ∧ 0 ≤ p ∧ p ≤ 3000
def Zl : den fin × Bool → Prop
 | ((r0, r1, r2, r3, r4, r5, (r6, r7, r8, r9, r10), (r11, r12, r13, r14), r15, r16, r17, r18, r19, r20, r21, r22, r23), _) => Aq 1048576 r7 r10 r13 r14
def Zn : den fin → Prop
 | (r0, r1, r2, r3, r4, r5, (r6, r7, r8, r9, r10), (r11, r12, r13, r14), r15, r16, r17, r18, r19, r20, r21, r22, r23) => Aq 1048576 r7 r10 r13 r14
theorem Xs6 (k : Nat) (v0 v1 v2 v3 v4 v5 v6 : Int) (v7 : List (den (.int .u8))) (v8 v9 : Int) (v10 : List (den Ap)) (v11 v12 : Int) (v13 : List (den (.int .u8))) (v14 : List (den Av)) (v15 v16 v17 : Bool) (v18 v19 v20 v21 v22 v23 : Int) (hE : Aq 1048576 v7 v10 v13 v14) (hk : 1048576 < k) : Sm (Xg k (v0, v1, v2, v3, v4, v5, (v6, v7, v8, v9, v10), (v11, v12, v13, v14), v15, v16, v17, v18, v19, v20, v21, v22, v23)) Zl := by
 obtain ⟨r0, r1, r2, r3, r4, r5, r6, r7, r8, r9, r10, r11, r12, r13, r14, r15, r16, r17, r18, r19, r20, r21, r22, r23, c, e, hz⟩ := Xis k v0 v1 v2 v3 v4 v5 v6 v7 v8 v9 v10 v11 v12 v13 v14 v15 v16 v17 v18 v19 v20 v21 v22 v23 hE hk
 exact ⟨_, e, hz⟩
theorem newS (k : Nat) (v w p q : Int) (hk : 1048576 < k) : Sm (U0 k v w p q) Zn := by
 obtain ⟨r0, r1, r2, r3, r4, r5, r6, r7, r8, r9, r10, r11, r12, r13, r14, r15, r16, r17, r18, r19, r20, r21, r22, r23, e, hz⟩ := Xzx k v w p q hk
 exact ⟨_, e, hz⟩
end Go.Proofs.YtjkkbmkkljpcjaaGreat.Gn
end

section
namespace Go.Proofs.YtjkkbmkkljpcjaaGreat.Gn
open Go.Rf Go.IntWalk
set_option linter.unusedVariables false
set_option linter.unusedSimpArgs false
theorem Wk (k : Nat) (a : Ek) (h9 : a.length ≤ 4194304) (k9 : a.length < k) : Xfr k a a = some true := by
 have := Js a (fun n (_ : Unit) j => Id k a a n j) (fun s _ => s) (fun _ => true)
  (fun n s j h => by
   simp only [Id, G6, Bi]
   rw [Ax a j h, Iv j (by omega), Xg5]
   simp [h])
  (fun n s => by simp [Id, G6]) k () 0 (Nat.zero_le _) (by omega)
 simp only [Xfr, Xl, bne_self_eq_false, cond_false]
 exact this
theorem Xp2 (k : Nat) (a0 a1 a2 a3 a4 : Int) (a5 a6 a7 a8 : Bool) (a9 : List (den Ap)) (a10 : List (den (.int .u8))) (h9 : a9.length ≤ 4194304) (k9 : a9.length < k) : F84 k (a0, a1, a2, a3, a4, a5, a6, a7, a8, a9, a10) (a0, a1, a2, a3, a4, a5, a6, a7, a8, a9, a10) = some true := by
 unfold F84 Xif; (try dsimp only [A8])
 simp only [beq_self_eq_true, cond_true, Wk k a9 h9 k9, Option.bind_some, F27]
theorem Xa5 (k : Nat) (hk : 100 ≤ k) : F26 k = some true := by
 obtain ⟨n, rfl⟩ : ∃ n, k = n + 2 := ⟨k - 2, by omega⟩
 unfold F26 Xh9 F94 Xgt; (try dsimp only)
 have h1 : Bq 1 1 4 = true := by decide
 have h2 : Bq 5 0 (IntKind.i64.wrap ((IntKind.i64.wrap (1 * 2 ^ (min (IntKind.i64.wrap (8 * 1)).toNat 64))) - 1)) = true := by decide
 have h3 : Bq 256 0 (IntKind.i64.wrap ((IntKind.i64.wrap (1 * 2 ^ (min (IntKind.i64.wrap (8 * 1)).toNat 64))) - 1)) = false := by decide
 simp only [Cg, Option.bind_some, h1, h2, h3]
 rfl
theorem Ce (a : Int) : A3 a = a % 65536 := by
 unfold A3
 have e : a.tmod 65536 = if 0 ≤ a then a % 65536 else -((-a) % 65536) := by
  split
  ·rw [Int.tmod_eq_emod_of_nonneg (by omega)]
  ·have : a = -(-a) := by omega
   rw [this, Int.neg_tmod, Int.tmod_eq_emod_of_nonneg (by omega)]
   simp
 rw [e]
 split
 ·rw [decide_eq_false (by omega)]; rfl
 ·by_cases c : -((-a) % 65536) < 0
  ·rw [decide_eq_true c, cond_true, i64_in _ (by omega)]; omega
  ·rw [decide_eq_false c, cond_false]; omega
theorem Vy (k : Nat) (e0 e1 : Int) (e2 : List (den (.int .u8))) (e3 : List (den Av)) (hok : Ba e0 e1 e2 e3 = true) : Fs k (e0, e1, e2, e3) = some (e1 - ((e2.length : Nat) : Int)) := by
 obtain ⟨_, h1, h2, _⟩ := A4.1 hok
 unfold Fs; (try dsimp only)
 rw [i64_in _ (by omega)]
theorem Xf0 (k : Nat) (v0 v1 v2 v3 v4 v5 v6 : Int) (v7 : List (den (.int .u8))) (v8 v9 : Int) (v10 : List (den Ap)) (v11 v12 : Int) (v13 : List (den (.int .u8))) (v14 : List (den Av)) (v15 v16 v17 : Bool) (v18 v19 v20 v21 v22 v23 : Int) (now : Int) {b : Bool} (hi : F24 k (v0, v1, v2, v3, v4, v5, (v6, v7, v8, v9, v10), (v11, v12, v13, v14), v15, v16, v17, v18, v19, v20, v21, v22, v23) = some b) : F62 k (v0, v1, v2, v3, v4, v5, (v6, v7, v8, v9, v10), (v11, v12, v13, v14), v15, v16, v17, v18, v19, v20, v21, v22, v23) now = some (b && Bq now 0 900000) := by
 unfold F62; (try dsimp only)
 rw [hi, Option.bind_some]
 cases b with
 | false => rfl
 | true => rw [Cg]; rfl
def pl (v w : Int) : Int := v + (if (w - v) % 65536 < 32768 then (w - v) % 65536 else (w - v) % 65536 - 65536)
theorem Ro (v w : Int) : v - 32768 ≤ pl v w ∧ pl v w ≤ v + 32767 := by unfold pl; split <;> omega
theorem H7 (k : Nat) (v w : Int) (hv : 0 ≤ v ∧ v ≤ 1000000) (hw : 0 ≤ w ∧ w ≤ 65535) : Tg k v w = some (pl v w) := by
 unfold Tg R9; (try dsimp only)
 simp only [Bf, Bt, Option.bind_some]
 rw [Am.2 hv, Am.2 hw]
 simp only [Bool.not_true, cond_false]
 rw [Ce, Ce, i64_in (w - v % 65536) (by omega)]
 have e : (w - v % 65536) % 65536 = (w - v) % 65536 := by omega
 rw [e]
 unfold pl
 by_cases c : (w - v) % 65536 < 32768
 ·rw [if_pos c, decide_eq_false (by omega), cond_false, i64_in _ (by omega)]
 ·rw [if_neg c, decide_eq_true (by omega), cond_true, i64_in ((w - v) % 65536 - 65536) (by omega), i64_in _ (by omega)]
theorem Hy (k : Nat) (v w : Int) (hv : 0 ≤ v ∧ v ≤ 2000000) (hw : 0 ≤ w ∧ w ≤ 65535) : Zt k v w = some (pl v w) := by
 unfold Zt X4; (try dsimp only)
 rw [Mu, Option.bind_some, Ce, i64_in (w - v) (by omega), i64_in (w - v + 32768) (by omega), i64_in (v - 32768) (by omega), i64_in _ (by omega)]
 unfold pl
 congr 1
 split <;> omega
def Py (v w : Int) : Bool := decide (1 ≤ (w - v) % 65536) && decide ((w - v) % 65536 ≤ 32767)
theorem Xkv (k : Nat) (v w : Int) (hv : 0 ≤ v ∧ v ≤ 65535) (hw : 0 ≤ w ∧ w ≤ 2000000) : F56 k v w = some (Py v w) := by
 unfold F56 Xcf; (try dsimp only)
 simp only [Bt, Option.bind_some, Ce]
 rw [i64_in (w % 65536 - v % 65536) (by omega)]
 have e : (w % 65536 - v % 65536) % 65536 = (w - v) % 65536 := by omega
 rw [e]
 unfold Py
 by_cases c : 1 ≤ (w - v) % 65536
 ·rw [decide_eq_true c, cond_true, Bool.true_and]
  congr 1
  by_cases c2 : (w - v) % 65536 ≤ 32767
  ·rw [decide_eq_true c2, decide_eq_true (by omega)]
  ·rw [decide_eq_false c2, decide_eq_false (by omega)]
 ·rw [decide_eq_false c]
  rfl
theorem Xiu (k : Nat) (v w : Int) (hv : 0 ≤ v ∧ v ≤ 65535) (hw : 0 ≤ w ∧ w ≤ 2000000) : Xbi k v (A3 w) = some (Py v w) := by
 unfold Xbi Ye; (try dsimp only)
 simp only [Mu, Option.bind_some, Ce, Cg]
 rw [i64_in _ (by omega)]
 have e : (w % 65536 % 65536 - v % 65536) % 65536 = (w - v) % 65536 := by omega
 rw [e]
 rfl
theorem Ks {α : Type} (c : Bool) (a : α) : cond c a a = a := by cases c <;> rfl
def K0 (hi : Int) : Ek → Int → Ek → Ek
 | [], _, m => m
 | r :: q, lo, m => if lo < r.1 ∧ r.1 < r.2 ∧ r.2 ≤ hi ∧ m.length < 2 then K0 hi q r.2 (m ++ [r]) else K0 hi q lo m
theorem Cm {α : Type} {l : List α} {j : Nat} (h : j < l.length) : l.drop j = l[j] :: l.drop (j + 1) := by rw [List.drop_eq_getElem_cons h]
theorem Pi (k : Nat) (v : den Co) (w p : Int) (q : Ek) (hq : q.length ≤ 100000) (a b c : Int) (g : Br) (hi : Int) (he : IntKind.i64.wrap (w + b) = hi) (hw : w ≤ 1000000) : ∀ (n j : Nat) (m : Ek) (lo : Int), j ≤ q.length → q.length - j < n → m.length ≤ 2 →
  lo = (if m = [] then w else (Bd m ((m.length : Int) - 1)).2) → w ≤ lo →
  C5 k v w p q n (j : Int) ((a, g, b, c, m) : den Co) = some ((a, g, b, c, K0 hi (q.drop j) lo m), IntKind.i64.wrap (w - v.1))
 | 0, j, m, lo, _, h, _, _, _ => by omega
 | n + 1, j, m, lo, hj, h, hm, hlo, hlw => by
  rw [C5]
  unfold E7 D0; (try dsimp only [Bi, Bp])
  rcases Nat.lt_or_ge j q.length with hlt | hge
  ·have d1 : decide ((j : Int) < ((q.length : Nat) : Int)) = true := decide_eq_true (by omega)
   have d0 : decide ((0 : Int) ≤ ((j : Nat) : Int)) = true := decide_eq_true (by omega)
   rw [Iv j (by omega), i64_in (((m.length : Nat) : Int) - 1) (by omega), d1, d0, he, Cm hlt, Ax q j hlt]
   simp only [cond_true]
   generalize q[j] = r at *
   obtain ⟨(r1 : Int), (r2 : Int)⟩ := r
   rw [K0]
   have nx := Pi k v w p q hq a b c g hi he hw n (j + 1) m lo hlt (by omega) hm hlo hlw
   have s1 : decide ((m.length + [((r1, r2) : Int × Int)].length) * 16 ≤ 140737488355328) = true := decide_eq_true (by simp only [List.length_singleton]; omega)
   dsimp only
   by_cases c1 : r1 > w
   ·rw [decide_eq_true c1, cond_true]
    by_cases c2 : r2 > r1
    ·rw [decide_eq_true c2, cond_true]
     by_cases c3 : r2 ≤ hi
     ·rw [decide_eq_true c3, cond_true]
      by_cases c4 : ((m.length : Nat) : Int) < 2
      ·rw [decide_eq_true c4, cond_true]
       have ad : ∀ (_ : lo < r1), C5 k v w p q n ((j + 1 : Nat) : Int) ((a, g, b, c, m ++ [(r1, r2)]) : den Co) = some ((a, g, b, c, K0 hi (q.drop (j + 1)) r2 (m ++ [(r1, r2)])), IntKind.i64.wrap (w - v.1)) := fun hl => by
        refine Pi k v w p q hq a b c g hi he hw n (j + 1) (m ++ [(r1, r2)]) r2 hlt (by omega) (by simp only [List.length_append, List.length_singleton]; omega) ?_ (by omega)
        rw [if_neg (by simp)]
        have : ((m ++ [((r1, r2) : Int × Int)]).length : Int) - 1 = (m.length : Int) := by simp only [List.length_append, List.length_singleton]; omega
        rw [this, Ax _ m.length (by simp)]
        simp
       by_cases c5 : ((m.length : Nat) : Int) - 1 < 0
       ·rw [decide_eq_true c5, cond_true, s1, cond_true]
        have hm0 : m = [] := List.length_eq_zero_iff.1 (by omega)
        rw [if_pos hm0] at hlo
        rw [if_pos ⟨by omega, c2, c3, by omega⟩]
        exact ad (by omega)
       ·have hm0 : ¬ m = [] := fun e => c5 (by rw [e]; simp)
        rw [if_neg hm0] at hlo
        rw [decide_eq_false c5, cond_false, decide_eq_true (by omega : (0 : Int) ≤ ((m.length : Nat) : Int) - 1), cond_true, decide_eq_true (by omega : ((m.length : Nat) : Int) - 1 < ((m.length : Nat) : Int)), cond_true, ← hlo]
        by_cases c6 : r1 > lo
        ·rw [decide_eq_true c6, cond_true, s1, cond_true, if_pos ⟨c6, c2, c3, by omega⟩]
         exact ad c6
        ·rw [decide_eq_false c6, cond_false, if_neg (fun h => c6 h.1)]
         exact nx
      ·rw [decide_eq_false c4, cond_false, if_neg (fun h => c4 (by omega))]
       exact nx
     ·rw [decide_eq_false c3, cond_false, if_neg (fun h => c3 h.2.2.1)]
      exact nx
    ·rw [decide_eq_false c2, cond_false, if_neg (fun h => c2 h.2.1)]
     exact nx
   ·rw [decide_eq_false c1, cond_false, if_neg (fun h => c1 (by omega))]
    exact nx
  ·rw [decide_eq_false (by omega), cond_false, decide_eq_false (by omega), cond_false, List.drop_eq_nil_of_le hge, K0]
theorem I1 (hi : Int) : ∀ (q : Ek) (lo : Int) (m : Ek), m.length ≤ 2 → (K0 hi q lo m).length ≤ 2
 | [], _, m, h => h
 | r :: q, lo, m, h => by
  rw [K0]
  split
  ·next c => exact I1 hi q r.2 _ (by rw [List.length_append, List.length_singleton]; omega)
  ·exact I1 hi q lo m h
theorem Ov (k : Nat) (q : Ek) (w hi : Int) (hq : q.length ≤ 100000) : ∀ (n j : Nat) (m : Ek) (lo : Int), j ≤ q.length → q.length - j < n → m.length ≤ 2 →
  Ey k q w hi n lo (j : Int) m = some (K0 hi (q.drop j) lo m)
 | 0, j, m, lo, _, h, _ => by omega
 | n + 1, j, m, lo, hj, h, hm => by
  rw [Ey]
  unfold E6; (try dsimp only [Bi, Bp])
  rcases Nat.lt_or_ge j q.length with hlt | hge
  ·have d1 : decide ((j : Int) < ((q.length : Nat) : Int)) = true := decide_eq_true (by omega)
   have d0 : decide ((0 : Int) ≤ ((j : Nat) : Int)) = true := decide_eq_true (by omega)
   rw [Iv j (by omega), d1, d0, Cm hlt, Ax q j hlt]
   simp only [cond_true]
   generalize q[j] = r at *
   obtain ⟨(r1 : Int), (r2 : Int)⟩ := r
   rw [K0]
   have nx := Ov k q w hi hq n (j + 1) m lo hlt (by omega) hm
   dsimp only
   by_cases c1 : r1 > lo
   ·rw [decide_eq_true c1, cond_true]
    by_cases c2 : r2 > r1
    ·rw [decide_eq_true c2, cond_true]
     by_cases c3 : r2 ≤ hi
     ·rw [decide_eq_true c3, cond_true]
      by_cases c4 : ((m.length : Nat) : Int) < 2
      ·rw [decide_eq_true c4, cond_true, decide_eq_true (by simp only [List.length_singleton]; omega), cond_true, if_pos ⟨c1, c2, c3, by omega⟩]
       exact Ov k q w hi hq n (j + 1) _ r2 hlt (by omega) (by simp only [List.length_append, List.length_singleton]; omega)
      ·rw [decide_eq_false c4, cond_false, if_neg (fun h => c4 (by omega))]
       exact nx
     ·rw [decide_eq_false c3, cond_false, if_neg (fun h => c3 h.2.2.1)]
      exact nx
    ·rw [decide_eq_false c2, cond_false, if_neg (fun h => c2 h.2.1)]
     exact nx
   ·rw [decide_eq_false c1, cond_false, if_neg (fun h => c1 h.1)]
    exact nx
  ·rw [decide_eq_false (by omega), cond_false, List.drop_eq_nil_of_le hge, K0, Hu k m (by omega), Option.bind_some]
def mhP (v0 : Int) (v1 : List (den (.int .u8))) (v2 v3 : Int) (v4 : List (den Ap)) (w p : Int) (q : Ek) : den Co × Int :=
 if v0 ≤ w ∧ w ≤ v0 + v2 then (if w > 1000000 then ((0, [], 0, 0, []), 0) else ((w, v1.drop (w - v0).toNat, v2 - (w - v0), p, K0 (w + (v2 - (w - v0))) q w []), w - v0)) else ((v0, v1, v2, v3, v4), 0)
theorem Xtx (k : Nat) (v0 : Int) (v1 : List (den (.int .u8))) (v2 v3 : Int) (v4 : List (den Ap)) (w p : Int) (q : Ek) (hm : Bw v0 v1 v2 v3 v4 = true) (hw : -1000000 ≤ w ∧ w ≤ 3000000) (hp : 0 ≤ p ∧ p ≤ 255) (hq : q.length ≤ 100000) (hk : 1048576 < k) : Xbv k (v0, v1, v2, v3, v4) w p q = some (mhP v0 v1 v2 v3 v4 w p q) := by
 obtain ⟨h0, h1, h2, h3, h4, _⟩ := An.1 hm
 unfold Xbv T6; (try dsimp only [Bp, Bn])
 rw [D6 k v0 v1 v2 v3 v4 (by omega), hm, Option.bind_some, Bf, Am.2 hp, Option.bind_some, Qx k v0 v1 v2 v3 v4 (by omega) (by omega), Option.bind_some]
 simp only [Bool.not_true, cond_false]
 rw [i64_in (w - v0) (by omega)]
 unfold mhP
 by_cases c1 : w < v0
 ·rw [decide_eq_true c1, cond_true, if_neg (by omega)]
 ·rw [decide_eq_false c1, cond_false]
  by_cases c2 : w - v0 > v2
  ·rw [decide_eq_true c2, cond_true, if_neg (by omega)]
  ·rw [decide_eq_false c2, cond_false, if_pos (by omega), decide_eq_true (by omega : (0 : Int) ≤ w - v0), decide_eq_true (by omega : w - v0 ≤ ((v1.length : Nat) : Int))]
   simp only [Bool.and_self, cond_true]
   rw [decide_eq_true (by simp only [List.length_nil, List.length_drop]; omega), cond_true, List.nil_append, i64_in (v2 - (w - v0)) (by omega)]
   by_cases c3 : w > 1000000
   ·rw [if_pos c3]
    have z : ∀ (n j : Nat) (m : Ek), j ≤ q.length → q.length - j < n → m.length ≤ 2 → C5 k (v0, v1, v2, v3, v4) w p q n (j : Int) ((w, v1.drop (w - v0).toNat, v2 - (w - v0), p, m) : den Co) = some ((0, [], 0, 0, []), 0) := by
     intro n
     induction n with
     | zero => intro j m _ h _; omega
     | succ n ih =>
      intro j m hj h hml
      rw [C5]
      unfold E7 D0; (try dsimp only [Bi, Bp])
      rcases Nat.lt_or_ge j q.length with hlt | hge
      ·have nx := fun m (hml : m.length ≤ 2) => ih (j + 1) m hlt (by omega) hml
       have s1 : ∀ x : den Ap, decide ((m.length + [x].length) * 16 ≤ 140737488355328) = true := fun x => decide_eq_true (by simp only [List.length_singleton]; omega)
       rw [Iv j (by omega), i64_in (((m.length : Nat) : Int) - 1) (by omega), decide_eq_true (by omega : (j : Int) < ((q.length : Nat) : Int)), decide_eq_true (by omega : (0 : Int) ≤ ((j : Nat) : Int))]
       simp only [cond_true, nx m hml, s1]
       by_cases c4 : ((m.length : Nat) : Int) < 2
       ·have ad : ∀ x, C5 k (v0, v1, v2, v3, v4) w p q n ((j + 1 : Nat) : Int) ((w, v1.drop (w - v0).toNat, v2 - (w - v0), p, m ++ [x]) : den Co) = some ((0, [], 0, 0, []), 0) := fun x => nx (m ++ [x]) (by simp only [List.length_append, List.length_singleton]; omega)
        simp only [ad]
        by_cases c5 : ((m.length : Nat) : Int) - 1 < 0
        ·rw [decide_eq_true c5]
         simp only [cond_true, Ks]
        ·rw [decide_eq_false c5, decide_eq_true (by omega : (0 : Int) ≤ ((m.length : Nat) : Int) - 1), decide_eq_true (by omega : ((m.length : Nat) : Int) - 1 < ((m.length : Nat) : Int))]
         simp only [cond_true, cond_false, Ks]
       ·rw [decide_eq_false c4]
        simp only [cond_false, Ks]
      ·rw [decide_eq_false (by omega), cond_false, decide_eq_true c3, cond_true]
    exact z k 0 [] (Nat.zero_le _) (by omega) (by simp)
   ·rw [if_neg c3]
    have := Pi k (v0, v1, v2, v3, v4) w p q hq w (v2 - (w - v0)) p (v1.drop (w - v0).toNat) (w + (v2 - (w - v0))) (i64_in _ (by omega)) (by omega) k 0 [] w (Nat.zero_le _) (by omega) (by simp) (by simp) (Int.le_refl _)
    rw [List.drop_zero, i64_in (w - v0) (by omega)] at this
    exact this
theorem Xw0 (k : Nat) (v0 : Int) (v1 : List (den (.int .u8))) (v2 v3 : Int) (v4 : List (den Ap)) (w p : Int) (q : Ek) (hm : Bw v0 v1 v2 v3 v4 = true) (hw : -1000000 ≤ w ∧ w ≤ 3000000) (hp : 0 ≤ p ∧ p ≤ 255) (hq : q.length ≤ 100000) (hk : 1048576 < k) : Xjs k (v0, v1, v2, v3, v4) w p q = some (mhP v0 v1 v2 v3 v4 w p q) := by
 obtain ⟨h0, h1, h2, h3, h4, _⟩ := An.1 hm
 unfold Xjs Zw; (try dsimp only [Bn])
 rw [Xpv k v0 v1 v2 v3 v4 (by omega), hm, Option.bind_some, Cg, Am.2 hp, Option.bind_some, Xg7 k v0 v1 v2 v3 v4 (by omega) (by omega), Option.bind_some, Cg, Option.bind_some]
 simp only [Bool.not_true, cond_false]
 rw [i64_in (v0 + v2) (by omega), i64_in (w - v0) (by omega)]
 unfold mhP
 by_cases c1 : v0 ≤ w ∧ w ≤ v0 + v2
 ·rw [Am.2 c1, if_pos c1]
  simp only [Bool.not_true, cond_false]
  by_cases c3 : w > 1000000
  ·rw [decide_eq_true c3, cond_true, if_pos c3]
  ·have hi := Ov k q w (w + (v2 - (w - v0))) hq k 0 [] w (Nat.zero_le _) (by omega) (by simp)
   rw [List.drop_zero] at hi
   rw [decide_eq_false c3, cond_false, if_neg c3, decide_eq_true (by omega : (0 : Int) ≤ w - v0), decide_eq_true (by omega : w - v0 ≤ ((v1.length : Nat) : Int)), i64_in (v2 - (w - v0)) (by omega), i64_in (w + (v2 - (w - v0))) (by omega)]
   simp only [Bool.and_self, cond_true]
   unfold Xet W6; (try dsimp only)
   rw [show ((0 : Nat) : Int) = 0 from rfl] at hi
   rw [hi, Option.bind_some, show (v1.take (((v1.length : Nat) : Int)).toNat) = v1 by simp, Xg7 k w (v1.drop (w - v0).toNat) (v2 - (w - v0)) p _ (by rw [List.length_drop]; omega) (by have := I1 (w + (v2 - (w - v0))) q w [] (by simp); omega), Option.bind_some]
 ·rw [Bool.eq_false_iff.2 (fun h => c1 (Am.1 h)), if_neg c1]
  rfl
end Go.Proofs.YtjkkbmkkljpcjaaGreat.Gn
end
