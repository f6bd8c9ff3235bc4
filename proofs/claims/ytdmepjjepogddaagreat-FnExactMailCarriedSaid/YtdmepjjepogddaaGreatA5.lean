/-
  What the proof of this row needs, part 5: the typed evaluator of the translated code, the functions that the law reaches as plain functions, and what they answer.
-/
import Derived.KernelRfl
import Derived.Test.YtdmepjjepogddaaGreatA4
section
set_option linter.unusedVariables false
set_option linter.unusedSimpArgs false
namespace Go.Proofs.YtdmepjjepogddaaGreat.Gn
open Go.Rf IntKind
noncomputable section
abbrev Yc4 (k : Nat) : Env := A6 (Aw [Iv k, Mb k]) Ap .own [] k
abbrev Xx9 : List PA := [.agg (.pair mI Qj)]
abbrev F374_O : RO := ⟨[.v], [mB]⟩
def Xa9 {β : Type} (RET : Bool → Option β) (k : Nat) (v : (Int × (Int × Aj))) : Option β := (S6 k v.1 1 6).bind fun b1 => cond b1 ((F65 k v.2.1).bind fun b2 => cond b2 (RET (decide ((v.2.2.length : Int) ≤ 20))) (RET false)) (RET false)
def Xn9 := Xa9 (β := Bool) some
theorem X3b {β : Type} (k : Nat) (v : (Int × (Int × Aj))) (K : KT β) : Ag (Yc4 k) Tryz.f374 (PsT.put Xx9 (v, ())) K = (Xn9 k v).bind fun r => K (F374_O.put r) :=
 Eq.trans (b := Xa9 (fun r => K (F374_O.put r)) k v) (by kernel_rfl) (by simp only [Xn9, Xa9, z1, z2, z3, z4, z5, z6, z7, z8, u_3])
def Xt7 (k : Nat) : FD := ⟨374, Xx9, F374_O, Xn9 k⟩
theorem Ye7 (k : Nat) : (Xt7 k).Ok Tryz.prog := ⟨fun x => Aa (Ai (Af (.c (Je k) (.c (N0 k) .n))) _ _ _ _) Ah Tryz.func374 rfl rfl (X3b k _ some), .of (by kernel_rfl)⟩
abbrev X8s (k : Nat) : Env := A6 (Aw [Xt7 k, Xcs k, Xc3 k]) Ap .own [] k
abbrev Xwl : List PA := [.agg (.pair mI Qj)]
abbrev F366_O : RO := ⟨[.v], [.sl .own (.int .u8)]⟩
def Yh {β : Type} (RET : Aj → Option β) (k : Nat) (v : (Int × (Int × Aj))) : Option β := u_3 v fun v0 v1 v2 => (Xn9 k v).bind fun b1 => cond (!b1) (RET []) ((F93 k v1 2).bind fun b2 => (F92 k [[u8.wrap v0], b2, [u8.wrap (v2.length : Int)], v2]).bind fun b3 => RET b3)
def Xde := Yh (β := Aj) some
theorem X09 {β : Type} (k : Nat) (v : (Int × (Int × Aj))) (K : KT β) : Ag (X8s k) Tryz.f366 (PsT.put Xwl (v, ())) K = (Xde k v).bind fun r => K (F366_O.put r) :=
 Eq.trans (b := Yh (fun r => K (F366_O.put r)) k v) (by kernel_rfl) (by simp only [Xde, Yh, z1, z2, z3, z4, z5, z6, z7, z8, u_3])
def Xg9 (k : Nat) : FD := ⟨366, Xwl, F366_O, Xde k⟩
theorem Xt2 (k : Nat) : (Xg9 k).Ok Tryz.prog := ⟨fun x => Aa (Ai (Af (.c (Ye7 k) (.c (Xkn k) (.c (Xj1 k) .n)))) _ _ _ _) Ah Tryz.func366 rfl rfl (X09 k _ some), .of (by kernel_rfl)⟩
def Yby : Nat → Hint
 | 0 => ⟨pl 0 2 (pl 12 2 []), []⟩
 | _ => ⟨[], []⟩
abbrev Xat (k : Nat) : Env := A6 Bn Yby .own [] k
abbrev Xho : List PA := [.one (.sl .ro (.int .u8)), .one (.sl .ro (.int .u8))]
abbrev F159_O : RO := ⟨[.v], [mB]⟩
noncomputable def X96 {β : Type} (k : Nat) (v w : Aj) (K : KT β) : Ex → St → Option β := Be (Xat k) Tryz.f159 (PsT.put Xho (v, w, ())) K
def X12 (v w : Aj) (x13_0 : Int) : St := ⟨(.one (.s .ro (.int .u8) v)) :: (.one (.s .ro (.int .u8) w)) :: dz 10 ((.one (vI (v.length : Int))) :: (.one (vI x13_0)) :: dz 12 []), []⟩
noncomputable def Qh {β : Type} (k : Nat) (v w : Aj) (K : KT β) (n : Nat) (x13_0 : Int) : Option β := A0 (Xat k) Tryz.f159 [1, 1, 0, 1, 0] 0 (Ad (Xat k) [1, 1, 0, 1, 0] (Ae Tryz.f159) 0 (X96 k v w K)) n (X12 v w x13_0)
def G4 {β : Type} (NX : Int → Option β) (RET : Bool → Option β) (k : Nat) (v w : Aj) (x13_0 : Int) : Option β := cond (decide (x13_0 < (v.length : Int))) (As x13_0 v (As x13_0 w (cond ((Ac v x13_0) != (Ac w x13_0)) (RET false) (NX (i64.wrap (x13_0 + 1)))))) (RET true)
def Hw (k : Nat) (v w : Aj) : Nat → Int → Option (Bool)
 | 0, _ => none
 | n + 1, x13_0 => G4 (Hw k v w n) some k v w x13_0
theorem Xim {β : Type} (k : Nat) (v w : Aj) (K : KT β) (n : Nat) : ∀ (x13_0 : Int), Qh k v w K n x13_0 =
  (Hw k v w n x13_0).bind fun r => K (F159_O.put r) := by
 induction n with
 | zero => intros; rfl
 | succ n ih =>
  intro x13_0
  refine Eq.trans (b := G4 (Qh k v w K n) (fun r => K (F159_O.put r)) k v w x13_0) (by kernel_rfl) ?_
  rw [Hw]
  simp only [G4, z1, z2, z3, z4, z5, z6, z7, z8, ih]
def Yf {β : Type} (LP0 : Int → Option β) (RET : Bool → Option β) (k : Nat) (v w : Aj) : Option β := cond ((v.length : Int) != (w.length : Int)) (RET false) (LP0 0)
def Xdb (k : Nat) (v w : Aj) : Option (Bool) := Yf (Hw k v w k) some k v w
theorem X2f {β : Type} (k : Nat) (v w : Aj) (K : KT β) : Ag (Xat k) Tryz.f159 (PsT.put Xho (v, w, ())) K = (Xdb k v w).bind fun r => K (F159_O.put r) :=
 Eq.trans (b := Yf (Qh k v w K k) (fun r => K (F159_O.put r)) k v w) (by kernel_rfl) (by simp only [Xdb, Yf, z1, z2, z3, z4, z5, z6, z7, z8, Xim])
def X1 (k : Nat) : FD := ⟨159, Xho, F159_O, Xdb k⟩
theorem Xhc (k : Nat) : (X1 k).Ok Tryz.prog := ⟨fun x => Aa (Ai .none _ _ _ _) Ah Tryz.func159 rfl rfl (X2f k _ _ some), .of (by kernel_rfl)⟩
abbrev X74 (k : Nat) : Env := A6 (Aw [Xub k, M0 k, Xg9 k, X1 k]) Ap .own [] k
abbrev Xuy : Type := (Int × (Int × Aj)) × Bool
abbrev Xtg : List PA := [.one (.sl .ro (.int .u8))]
abbrev F365_O : RO := ⟨[.a, .v], [.pair mI m_2, mB]⟩
def Y3 {β : Type} (RET : Xuy → Option β) (k : Nat) (v : Aj) : Option β := cond (decide ((v.length : Int) < 4)) (RET ((0, 0, []), false)) (cond (decide (0 < (v.length : Int))) ((Xo8 k v 1 2).bind fun b1 => cond (decide (0 ≤ 4) && decide (4 ≤ (v.length : Int))) ((Pu k (v.drop 4)).bind fun b2 => (Xde k (i64.wrap (Ac v 0), b1, b2)).bind fun b3 => (Xdb k b3 v).bind fun b4 => cond (!b4) (RET ((0, 0, []), false)) (RET ((i64.wrap (Ac v 0), b1, b2), true))) none) none)
def Xnk := Y3 (β := Xuy) some
theorem X1a {β : Type} (k : Nat) (v : Aj) (K : KT β) : Ag (X74 k) Tryz.f365 (PsT.put Xtg (v, ())) K = (Xnk k v).bind fun r => K (F365_O.put r) :=
 Eq.trans (b := Y3 (fun r => K (F365_O.put r)) k v) (by kernel_rfl) (by simp only [Xnk, Y3, z1, z2, z3, z4, z5, z6, z7, z8])
def Xp7 (k : Nat) : FD := ⟨365, Xtg, F365_O, Xnk k⟩
theorem Yc2 (k : Nat) : (Xp7 k).Ok Tryz.prog := ⟨fun x => Aa (Ai (Af (.c (X9q k) (.c (Qn k) (.c (Xt2 k) (.c (Xhc k) .n))))) _ _ _ _) Ah Tryz.func365 rfl rfl (X1a k _ some), .of (by kernel_rfl)⟩
abbrev X7x (k : Nat) : Env := A6 (Aw [Xp7 k]) Ap .own [] k
abbrev Xuo : List PA := [.agg (.pair mI Da)]
abbrev F350_O : RO := ⟨[.v], [mB]⟩
def Zu {β : Type} (RET : Bool → Option β) (k : Nat) (v : (den Al)) : Option β := (Xnk k v.2.2.2.2.2.2.2.2).bind fun b1 => cond b1.2 (cond (v.2.2.1 == 1) (RET (decide (b1.1.1 ≥ 3))) (RET false)) (RET false)
def Xox := Zu (β := Bool) some
theorem X0z {β : Type} (k : Nat) (v : (den Al)) (K : KT β) : Ag (X7x k) Tryz.f350 (PsT.put Xuo (v, ())) K = (Xox k v).bind fun r => K (F350_O.put r) :=
 Eq.trans (b := Zu (fun r => K (F350_O.put r)) k v) (by kernel_rfl) (by simp only [Xox, Zu, z1, z2, z3, z4, z5, z6, z7, z8, A1])
def Xul (k : Nat) : FD := ⟨350, Xuo, F350_O, Xox k⟩
theorem Yfi (k : Nat) : (Xul k).Ok Tryz.prog := ⟨fun x => Aa (Ai (Af (.c (Yc2 k) .n)) _ _ _ _) Ah Tryz.func350 rfl rfl (X0z k _ some), .of (by kernel_rfl)⟩
abbrev Ygl (k : Nat) : Env := A6 Bn Ap .own [] k
abbrev Xux : List PA := [.one mB, .one mI]
abbrev F199_O : RO := ⟨[.v], [mI]⟩
def Xi6 (k : Nat) (v : Bool) (w : Int) : Option (Int) := cond v (some w) (some 0)
theorem X1c {β : Type} (k : Nat) (v : Bool) (w : Int) (K : KT β) : Ag (Ygl k) Tryz.f199 (PsT.put Xux (v, w, ())) K = (Xi6 k v w).bind fun r => K (F199_O.put r) :=
 Eq.trans (b := cond v (K (F199_O.put w)) (K (F199_O.put 0))) (by kernel_rfl) (by simp only [Xi6, z1, z2, z3, z4, z5, z6, z7, z8])
def Xsc (k : Nat) : FD := ⟨199, Xux, F199_O, Xi6 k⟩
theorem Yan (k : Nat) : (Xsc k).Ok Tryz.prog := ⟨fun x => Aa (Ai .none _ _ _ _) Ah Tryz.func199 rfl rfl (X1c k _ _ some), .of (by kernel_rfl)⟩
abbrev X7g (k : Nat) : Env := A6 (Aw [Xcs k, Xsc k, Xc3 k, Xrh k]) Ap .own [] k
abbrev Xsl : List PA := [.agg (.pair mI Da)]
abbrev F351_O : RO := ⟨[.v], [.sl .own (.int .u8)]⟩
def Xa8 {β : Type} (RET : Aj → Option β) (k : Nat) (v : (den Al)) : Option β := A1 v fun v0 v1 v2 v3 v4 v5 v6 v7 v8 => (F93 k v0 2).bind fun b1 => (F93 k v1 2).bind fun b2 => (Xi6 k v6 1).bind fun b3 => (Xi6 k v7 2).bind fun b4 => (F92 k [b1, b2, [u8.wrap v2, u8.wrap v3, u8.wrap v4, u8.wrap v5, u8.wrap (i64.wrap (b3 + b4)), u8.wrap (v8.length : Int)]]).bind fun b5 => (F94 k b5).bind fun b6 => (F93 k b6 2).bind fun b7 => (F92 k [b5, b7, v8]).bind fun b8 => RET b8
def Xm9 := Xa8 (β := Aj) some
theorem X2i {β : Type} (k : Nat) (v : (den Al)) (K : KT β) : Ag (X7g k) Tryz.f351 (PsT.put Xsl (v, ())) K = (Xm9 k v).bind fun r => K (F351_O.put r) :=
 Eq.trans (b := Xa8 (fun r => K (F351_O.put r)) k v) (by kernel_rfl) (by simp only [Xm9, Xa8, z1, z2, z3, z4, z5, z6, z7, z8, A1])
def Xwn (k : Nat) : FD := ⟨351, Xsl, F351_O, Xm9 k⟩
theorem Yfk (k : Nat) : (Xwn k).Ok Tryz.prog := ⟨fun x => Aa (Ai (Af (.c (Xkn k) (.c (Yan k) (.c (Xj1 k) (.c (X6j k) .n))))) _ _ _ _) Ah Tryz.func351 rfl rfl (X2i k _ some), .of (by kernel_rfl)⟩
abbrev Yel (k : Nat) : Env := A6 (Aw [Xg9 k]) Ap .own [] k
abbrev Xtt : List PA := [.one mI, .agg (.pair mI Da), .agg (.pair mI Qj)]
abbrev F352_O : RO := ⟨[.a], [.pair mI m_9]⟩
def Xvv (k : Nat) (v : Int) (w : (den Al)) (p : (Int × (Int × Aj))) : Option ((den Al)) := (Xde k p).bind fun b1 => some (v, w.1, 1, 64, w.2.2.2.2.1, 0, false, false, b1)
theorem X1z {β : Type} (k : Nat) (v : Int) (w : (den Al)) (p : (Int × (Int × Aj))) (K : KT β) : Ag (Yel k) Tryz.f352 (PsT.put Xtt (v, w, p, ())) K = (Xvv k v w p).bind fun r => K (F352_O.put r) :=
 Eq.trans (b := (Xde k p).bind fun b1 => K (F352_O.put (v, w.1, 1, 64, w.2.2.2.2.1, 0, false, false, b1))) (by kernel_rfl) (by simp only [Xvv, z1, z2, z3, z4, z5, z6, z7, z8, u_3, A1])
def Xpn (k : Nat) : FD := ⟨352, Xtt, F352_O, Xvv k⟩
theorem X90 (k : Nat) : (Xpn k).Ok Tryz.prog := ⟨fun x => Aa (Ai (Af (.c (Xt2 k) .n)) _ _ _ _) Ah Tryz.func352 rfl rfl (X1z k _ _ _ some), .of (by kernel_rfl)⟩
abbrev Yf1 (k : Nat) : Env := A6 (Aw [Xc9 k, Mb k, Xul k, Iv k, Xwn k, Xpn k]) Ap .own [] k
abbrev Xvw : List PA := [.agg (.pair mI Da), .one mI, .one mI, .one mI]
abbrev F326_O : RO := ⟨[.a, .v], [.pair mI m_9, mB]⟩
def Ze {β : Type} (RET : (den Al) × Bool → Option β) (k : Nat) (v : (den Al)) (w p q : Int) : Option β := (F89 k v).bind fun b1 => cond (!b1) (RET ((0, 0, 0, 0, 0, 0, false, false, []), false)) ((F65 k w).bind fun b2 => cond (!b2) (RET ((0, 0, 0, 0, 0, 0, false, false, []), false)) (cond (v.2.2.2.2.2.1 != 0) (RET ((0, 0, 0, 0, 0, 0, false, false, []), false)) ((Xox k v).bind fun b3 => cond b3 (RET ((0, 0, 0, 0, 0, 0, false, false, []), false)) ((S6 k p 3 6).bind fun b4 => cond (!b4) (RET ((0, 0, 0, 0, 0, 0, false, false, []), false)) ((F65 k q).bind fun b5 => cond (!b5) (RET ((0, 0, 0, 0, 0, 0, false, false, []), false)) ((Xm9 k v).bind fun b6 => cond (decide (0 ≤ (if 20 < (b6.length : Int) then 20 else (b6.length : Int))) && decide ((if 20 < (b6.length : Int) then 20 else (b6.length : Int)) ≤ (b6.length : Int))) ((Xvv k w v (p, q, (b6.take ((if 20 < (b6.length : Int) then 20 else (b6.length : Int)).toNat)).drop 0)).bind fun b7 => RET (b7, true)) none))))))
def Xcv := Ze (β := (den Al) × Bool) some
theorem X04 {β : Type} (k : Nat) (v : (den Al)) (w p q : Int) (K : KT β) : Ag (Yf1 k) Tryz.f326 (PsT.put Xvw (v, w, p, q, ())) K = (Xcv k v w p q).bind fun r => K (F326_O.put r) :=
 Eq.trans (b := Ze (fun r => K (F326_O.put r)) k v w p q) (by kernel_rfl) (by simp only [Xcv, Ze, z1, z2, z3, z4, z5, z6, z7, z8, A1])
def Xsa (k : Nat) : FD := ⟨326, Xvw, F326_O, Xcv k⟩
theorem Ye5 (k : Nat) : (Xsa k).Ok Tryz.prog := ⟨fun x => Aa (Ai (Af (.c (Xk7 k) (.c (N0 k) (.c (Yfi k) (.c (Je k) (.c (Yfk k) (.c (X90 k) .n))))))) _ _ _ _) Ah Tryz.func326 rfl rfl (X04 k _ _ _ _ some), .of (by kernel_rfl)⟩
abbrev Ya6 (k : Nat) : Env := A6 (Aw [Xsa k]) Ap .own [] k
abbrev Xq1 : List PA := [.agg (.pair mI (.sl .ro Ce)), .agg (.pair mI Da), .one mI, .one mI]
abbrev F264_O : RO := ⟨[.a], [Xr4]⟩
def Xb2 (k : Nat) (v : (den sta)) (w : (den Al)) (p q : Int) : Option ((den So)) := (Xcv k w v.1 p q).bind fun b1 => cond (!b1.2) (some (0, 0, [])) (some (3, 0, [b1.1]))
theorem X26 {β : Type} (k : Nat) (v : (den sta)) (w : (den Al)) (p q : Int) (K : KT β) : Ag (Ya6 k) Tryz.f264 (PsT.put Xq1 (v, w, p, q, ())) K = (Xb2 k v w p q).bind fun r => K (F264_O.put r) :=
 Eq.trans (b := (Xcv k w v.1 p q).bind fun b1 => cond (!b1.2) (K (F264_O.put (0, 0, []))) (K (F264_O.put (3, 0, [b1.1])))) (by kernel_rfl) (by simp only [Xb2, z1, z2, z3, z4, z5, z6, z7, z8, A1])
def Xpq (k : Nat) : FD := ⟨264, Xq1, F264_O, Xb2 k⟩
theorem X95 (k : Nat) : (Xpq k).Ok Tryz.prog := ⟨fun x => Aa (Ai (Af (.c (Ye5 k) .n)) _ _ _ _) Ah Tryz.func264 rfl rfl (X26 k _ _ _ _ some), .of (by kernel_rfl)⟩
abbrev Yjw : List PA := [.one (.sl .ro Ce), .one mI, .one mI]
abbrev Yik : RO := ⟨[.a, .v], [m_3, mB]⟩
def F74 (k : Nat) (v : Az) (w p : Int) : Option (den Ce × Bool) := Rt.to v w p
def X4p (k : Nat) : FD := ⟨74, Yjw, Yik, F74 k⟩
theorem Yhw (k : Nat) : (X4p k).Ok Tryz.prog := ⟨fun x => Rt.con x.1 x.2.1 x.2.2.1, .of (by kernel_rfl)⟩
abbrev Ydq (k : Nat) : Env := A6 Bn Ap .own [] k
abbrev Xqe : List PA := [.one (.sl .own Al)]
abbrev F266_O : RO := ⟨[.v], [.sl .own Al]⟩
def Xw {β : Type} (RET : Aq → Option β) (k : Nat) (v : Aq) : Option β := cond (decide (0 ≤ (v.length : Int)) && decide ((v.length : Int) ≤ (v.length : Int))) (cond (decide ((v.length : Int) = (v.length : Int))) (RET ((v.take ((v.length : Int).toNat)).drop 0)) none) none
def Xcu := Xw (β := Aq) some
theorem X1q {β : Type} (k : Nat) (v : Aq) (K : KT β) : Ag (Ydq k) Tryz.f266 (PsT.put Xqe (v, ())) K = (Xcu k v).bind fun r => K (F266_O.put r) :=
 Eq.trans (b := Xw (fun r => K (F266_O.put r)) k v) (by kernel_rfl) (by simp only [Xcu, Xw, z1, z2, z3, z4, z5, z6, z7, z8])
def Xgc (k : Nat) : FD := ⟨266, Xqe, F266_O, Xcu k⟩
theorem Xtx (k : Nat) : (Xgc k).Ok Tryz.prog := ⟨fun x => Aa (Ai .none _ _ _ _) Ah Tryz.func266 rfl rfl (X1q k _ some), .of (by kernel_rfl)⟩
def X94 : Nat → Hint
 | 0 => ⟨pl 2 1 (pl 6 2 []), pl 2000 9 ((6000, .own .own Al []) :: (pl 7000 1 []))⟩
 | _ => ⟨[], []⟩
abbrev Ed (k : Nat) : Env := A6 (Aw [Qy k, M0 k, Xgc k]) X94 .own [] k
abbrev Xif : List PA := [.agg (.pair mI Da), .one mI]
abbrev F265_O : RO := ⟨[.v, .v], [.sl .own Al, mB]⟩
noncomputable def Ue {β : Type} (k : Nat) (v : (den Al)) (w : Int) (K : KT β) : Ex → St → Option β := Be (Ed k) Tryz.f265 (PsT.put Xif (v, w, ())) K
def On (v : (den Al)) (w : Int) (m6000_0 : Aq) (m7000_0 : Int) : St := ⟨(.one .d) :: (.one .d) :: (.one (.ptr (.cell 2000) 9 0)) :: dz 3 ((.one (.ptr (.cell 6000) 1 0)) :: (.one (.ptr (.cell 7000) 1 0)) :: dz 54 []), Bg 2000 (Cl (.pair mI Da) v) [eM 6000 (.s .own Al m6000_0), iM 7000 m7000_0]⟩
def F2 (k : Nat) (v : (den Al)) (w : Int) : List Aj → Aq → Int → Option (Aq × Bool)
 | [], m6000_0, m7000_0 => As (i64.wrap ((m6000_0.length : Int) - 1)) m6000_0 ((sto (m6000_0.set ((i64.wrap ((m6000_0.length : Int) - 1)).toNat) ((Ac m6000_0 (i64.wrap ((m6000_0.length : Int) - 1))).1, (Ac m6000_0 (i64.wrap ((m6000_0.length : Int) - 1))).2.1, (Ac m6000_0 (i64.wrap ((m6000_0.length : Int) - 1))).2.2.1, (Ac m6000_0 (i64.wrap ((m6000_0.length : Int) - 1))).2.2.2.1, (Ac m6000_0 (i64.wrap ((m6000_0.length : Int) - 1))).2.2.2.2.1, (Ac m6000_0 (i64.wrap ((m6000_0.length : Int) - 1))).2.2.2.2.2.1, v.2.2.2.2.2.2.1, (Ac m6000_0 (i64.wrap ((m6000_0.length : Int) - 1))).2.2.2.2.2.2.2))).bind fun b3 => cond v.2.2.2.2.2.2.2.1 (some ([], false)) (cond (decide ((Ac b3 (i64.wrap ((m6000_0.length : Int) - 1))).2.2.2.2.2.1 > 255)) (some ([], false)) ((Xcu k b3).bind fun b4 => some (b4, true))))
 | z0_0 :: r, m6000_0, m7000_0 => A1 v fun v0 v1 v2 v3 v4 _ _ v7 _ => (Pu k z0_0).bind fun b2 => Bt (m6000_0.length) ([(v0, v1, v2, v3, v4, m7000_0, true, v7, b2)].length) 80 (F2 k v w r (m6000_0 ++ [(v0, v1, v2, v3, v4, m7000_0, true, v7, b2)]) (i64.wrap (m7000_0 + (z0_0.length : Int))))
theorem Xe6 {β : Type} (k : Nat) (v : (den Al)) (w : Int) (m6000_0 : Aq) (m7000_0 : Int) (K : KT β) :
  Fj (Ed k) Tryz.f265 [1, 1, 1, 1, 0, 1, 0] 0 25 (Ad (Ed k) [1, 1, 1, 1, 0, 1, 0] (Ae Tryz.f265) 0 (Ue k v w K)) ([] : List Aj) (On v w m6000_0 m7000_0) =
  As (i64.wrap ((m6000_0.length : Int) - 1)) m6000_0 ((sto (m6000_0.set ((i64.wrap ((m6000_0.length : Int) - 1)).toNat) ((Ac m6000_0 (i64.wrap ((m6000_0.length : Int) - 1))).1, (Ac m6000_0 (i64.wrap ((m6000_0.length : Int) - 1))).2.1, (Ac m6000_0 (i64.wrap ((m6000_0.length : Int) - 1))).2.2.1, (Ac m6000_0 (i64.wrap ((m6000_0.length : Int) - 1))).2.2.2.1, (Ac m6000_0 (i64.wrap ((m6000_0.length : Int) - 1))).2.2.2.2.1, (Ac m6000_0 (i64.wrap ((m6000_0.length : Int) - 1))).2.2.2.2.2.1, v.2.2.2.2.2.2.1, (Ac m6000_0 (i64.wrap ((m6000_0.length : Int) - 1))).2.2.2.2.2.2.2))).bind fun b3 => cond v.2.2.2.2.2.2.2.1 (K (F265_O.put ([], false))) (cond (decide ((Ac b3 (i64.wrap ((m6000_0.length : Int) - 1))).2.2.2.2.2.1 > 255)) (K (F265_O.put ([], false))) ((Xcu k b3).bind fun b4 => K (F265_O.put (b4, true))))) := by kernel_rfl
theorem Xh7 {β : Type} (k : Nat) (v : (den Al)) (w : Int) (z0_0 : Aj) (r : List Aj) (m6000_0 : Aq) (m7000_0 : Int) (K : KT β) :
  Fj (Ed k) Tryz.f265 [1, 1, 1, 1, 0, 1, 0] 0 25 (Ad (Ed k) [1, 1, 1, 1, 0, 1, 0] (Ae Tryz.f265) 0 (Ue k v w K)) (z0_0 :: r) (On v w m6000_0 m7000_0) =
  A1 v fun v0 v1 v2 v3 v4 _ _ v7 _ => (Pu k z0_0).bind fun b2 => Bt (m6000_0.length) ([(v0, v1, v2, v3, v4, m7000_0, true, v7, b2)].length) 80 (Fj (Ed k) Tryz.f265 [1, 1, 1, 1, 0, 1, 0] 0 25 (Ad (Ed k) [1, 1, 1, 1, 0, 1, 0] (Ae Tryz.f265) 0 (Ue k v w K)) r (On v w (m6000_0 ++ [(v0, v1, v2, v3, v4, m7000_0, true, v7, b2)]) (i64.wrap (m7000_0 + (z0_0.length : Int))))) := by kernel_rfl
theorem Xf1 {β : Type} (k : Nat) (v : (den Al)) (w : Int) (K : KT β) (l : List Aj) : ∀ (m6000_0 : Aq) (m7000_0 : Int), Fj (Ed k) Tryz.f265 [1, 1, 1, 1, 0, 1, 0] 0 25 (Ad (Ed k) [1, 1, 1, 1, 0, 1, 0] (Ae Tryz.f265) 0 (Ue k v w K)) l (On v w m6000_0 m7000_0) =
  (F2 k v w l m6000_0 m7000_0).bind fun r => K (F265_O.put r) := by
 induction l with
 | nil => intros; rw [Xe6, F2]; simp only [z1, z2, z3, z4, z5, z6, z7, z8, A1]
 | cons z r ih =>
  intros
  rw [Xh7, F2]
  simp only [z1, z2, z3, z4, z5, z6, z7, z8, A1, ih]
def Xc7 (k : Nat) (v : (den Al)) (w : Int) : Option (Aq × Bool) := cond (decide ((v.2.2.2.2.2.2.2.2.length : Int) ≤ w)) ((Sj k v).bind fun b1 => some ([b1], true)) (cond (decide (1 ≤ w) && decide (w ≤ 9223372036854775807) && decide (v.2.2.2.2.2.2.2.2.length ≤ 140737488355328)) (F2 k v w (Ca ((w : Int).toNat) v.2.2.2.2.2.2.2.2) [] v.2.2.2.2.2.1) none)
theorem X3q {β : Type} (k : Nat) (v : (den Al)) (w : Int) (K : KT β) : Ag (Ed k) Tryz.f265 (PsT.put Xif (v, w, ())) K = (Xc7 k v w).bind fun r => K (F265_O.put r) :=
 Eq.trans (b := cond (decide ((v.2.2.2.2.2.2.2.2.length : Int) ≤ w)) ((Sj k v).bind fun b1 => K (F265_O.put ([b1], true))) (cond (decide (1 ≤ w) && decide (w ≤ 9223372036854775807) && decide (v.2.2.2.2.2.2.2.2.length ≤ 140737488355328)) (Fj (Ed k) Tryz.f265 [1, 1, 1, 1, 0, 1, 0] 0 25 (Ad (Ed k) [1, 1, 1, 1, 0, 1, 0] (Ae Tryz.f265) 0 (Ue k v w K)) (Ca ((w : Int).toNat) v.2.2.2.2.2.2.2.2) (On v w [] v.2.2.2.2.2.1)) none)) (by kernel_rfl) (by simp only [Xc7, z1, z2, z3, z4, z5, z6, z7, z8, A1, Xf1])
def Xsx (k : Nat) : FD := ⟨265, Xif, F265_O, Xc7 k⟩
theorem Yeq (k : Nat) : (Xsx k).Ok Tryz.prog := ⟨fun x => Aa (Ai (Af (.c (Va k) (.c (Qn k) (.c (Xtx k) .n)))) _ _ _ _) Ah Tryz.func265 rfl rfl (X3q k _ _ some), .of (by kernel_rfl)⟩
def Ycm : Nat → Hint
 | 1 => ⟨pl 4 2 (pl 7 1 (pl 66 2 [])), pl 4000 3 (pl 5000 4 (pl 59000 1 []))⟩
 | _ => ⟨[], []⟩
abbrev Xab (k : Nat) : Env := A6 (Aw [Qy k, Xpq k, X4p k, Xsx k]) Ycm .own [] k
abbrev Xfs : List PA := [.agg (.pair mI (.sl .ro Ce)), .agg (.pair mI Da)]
abbrev F208_O : RO := ⟨[.a], [Xr4]⟩
noncomputable def Ych {β : Type} (k : Nat) (v : (den sta)) (w : (den Al)) (K : KT β) : Ex → St → Option β := Be (Xab k) Tryz.f208 (PsT.put Xfs (v, w, ())) K
def X0m (v : (den sta)) (w : (den Al)) (x66_1 x67_1 : Int) (m5000_1 : (den Ce)) (m59000_1 : Aq) : St := ⟨dz 4 ((.one (.ptr (.cell 4000) 3 0)) :: (.one (.ptr (.cell 5000) 4 0)) :: (.one .d) :: (.one (.a (.cell 59000) 0 0 none)) :: dz 58 ((.one (vI x66_1)) :: (.one (vI x67_1)) :: dz 15 [])), Bg 4000 (Cl Xr4 (0, 0, [])) (Bg 5000 (Cl m_3 m5000_1) [eM 59000 (.s .own Al m59000_1)])⟩
noncomputable def P6 {β : Type} (k : Nat) (v : (den sta)) (w : (den Al)) (K : KT β) (n : Nat) (x66_1 x67_1 : Int) (m5000_1 : (den Ce)) (m59000_1 : Aq) : Option β := A0 (Xab k) Tryz.f208 [1, 1, 1, 1, 1, 1, 1, 0, 1, 0] 1 (Ad (Xab k) [1, 1, 1, 1, 1, 1, 1, 0, 1, 0] (Ae Tryz.f208) 0 (Ych k v w K)) n (X0m v w x66_1 x67_1 m5000_1 m59000_1)
def Gw {β : Type} (NX : Int → Int → (den Ce) → Aq → Option β) (RET : (den So) → Option β) (k : Nat) (v : (den sta)) (w : (den Al)) (x66_1 x67_1 : Int) (m5000_1 : (den Ce)) (m59000_1 : Aq) : Option β := cond (decide (x67_1 < x66_1)) (As x67_1 m59000_1 (As x67_1 m59000_1 (NX x66_1 (i64.wrap (x67_1 + 1)) m5000_1 (m59000_1.set x67_1.toNat ((Ac m59000_1 x67_1).1, (Ac m59000_1 x67_1).2.1, (Ac m59000_1 x67_1).2.2.1, i64.wrap ((Ac m59000_1 x67_1).2.2.2.1 - 1), (Ac m59000_1 x67_1).2.2.2.2))))) (RET (2, m5000_1.2.2.1, m59000_1))
def El (k : Nat) (v : (den sta)) (w : (den Al)) : Nat → Int → Int → (den Ce) → Aq → Option ((den So))
 | 0, _, _, _, _ => none
 | n + 1, x66_1, x67_1, m5000_1, m59000_1 => Gw (El k v w n) some k v w x66_1 x67_1 m5000_1 m59000_1
theorem Xhn {β : Type} (k : Nat) (v : (den sta)) (w : (den Al)) (K : KT β) (n : Nat) : ∀ (x66_1 x67_1 : Int) (m5000_1 : (den Ce)) (m59000_1 : Aq), P6 k v w K n x66_1 x67_1 m5000_1 m59000_1 =
  (El k v w n x66_1 x67_1 m5000_1 m59000_1).bind fun r => K (F208_O.put r) := by
 induction n with
 | zero => intros; rfl
 | succ n ih =>
  intro x66_1 x67_1 m5000_1 m59000_1
  refine Eq.trans (b := Gw (P6 k v w K n) (fun r => K (F208_O.put r)) k v w x66_1 x67_1 m5000_1 m59000_1) (by kernel_rfl) ?_
  rw [El]
  simp only [Gw, z1, z2, z3, z4, z5, z6, z7, z8, A1, ih]
def Up {β : Type} (LP1 : Int → Int → (den Ce) → Aq → Option β) (RET : (den So) → Option β) (k : Nat) (v : (den sta)) (w : (den Al)) : Option β := cond (w.2.1 == v.1) ((Sj k w).bind fun b1 => RET (1, 0, [b1])) (cond (decide (w.2.2.2.1 < 2)) ((Xb2 k v w 4 0).bind fun b2 => RET b2) ((F74 k v.2 w.2.1 17).bind fun b3 => cond (!b3.2) ((Xb2 k v w 3 0).bind fun b4 => RET b4) (cond (decide ((w.2.2.2.2.2.2.2.2.length : Int) > b3.1.2.2.2)) (cond w.2.2.2.2.2.2.2.1 ((Xb2 k v w 6 b3.1.2.2.2).bind fun b5 => RET b5) ((Xc7 k w b3.1.2.2.2).bind fun b6 => cond (!b6.2) (RET (0, 0, [])) (LP1 (b6.1.length : Int) 0 b3.1 b6.1))) ((Xc7 k w b3.1.2.2.2).bind fun b7 => cond (!b7.2) (RET (0, 0, [])) (LP1 (b7.1.length : Int) 0 b3.1 b7.1)))))
def Zb (k : Nat) (v : (den sta)) (w : (den Al)) : Option ((den So)) := Up (El k v w k) some k v w
theorem X2s {β : Type} (k : Nat) (v : (den sta)) (w : (den Al)) (K : KT β) : Ag (Xab k) Tryz.f208 (PsT.put Xfs (v, w, ())) K = (Zb k v w).bind fun r => K (F208_O.put r) :=
 Eq.trans (b := Up (P6 k v w K k) (fun r => K (F208_O.put r)) k v w) (by kernel_rfl) (by simp only [Zb, Up, z1, z2, z3, z4, z5, z6, z7, z8, A1, Xhn])
def Xr6 (k : Nat) : FD := ⟨208, Xfs, F208_O, Zb k⟩
theorem X67 (k : Nat) : (Xr6 k).Ok Tryz.prog := ⟨fun x => Aa (Ai (Af (.c (Va k) (.c (X95 k) (.c (Yhw k) (.c (Yeq k) .n))))) _ _ _ _) Ah Tryz.func208 rfl rfl (X2s k _ _ some), .of (by kernel_rfl)⟩
def Ybc : Nat → Hint
 | 0 => ⟨(3, .own .own Al []) :: (pl 6 3 []), []⟩
 | _ => ⟨[], []⟩
abbrev Za (k : Nat) : Env := A6 (Aw [Qy k, Xgc k]) Ybc .own [] k
abbrev Xe0 : List PA := [.one (.sl .ro Al)]
abbrev F209_O : RO := ⟨[.v], [.sl .own Al]⟩
noncomputable def Yam {β : Type} (k : Nat) (v : Aq) (K : KT β) : Ex → St → Option β := Be (Za k) Tryz.f209 (PsT.put Xe0 (v, ())) K
def X3j (v : Aq) (x8_0 : Int) (m3900_0 : Aq) : St := ⟨dz 3 ((.one (.a (.cell 3900) 0 0 none)) :: (.one .d) :: (.one .d) :: (.one (.s .ro Al v)) :: (.one (vI (v.length : Int))) :: (.one (vI x8_0)) :: dz 11 []), [eM 3900 (.s .own Al m3900_0)]⟩
noncomputable def Qi {β : Type} (k : Nat) (v : Aq) (K : KT β) (n : Nat) (x8_0 : Int) (m3900_0 : Aq) : Option β := A0 (Za k) Tryz.f209 [1, 1, 0, 1, 0] 0 (Ad (Za k) [1, 1, 0, 1, 0] (Ae Tryz.f209) 0 (Yam k v K)) n (X3j v x8_0 m3900_0)
def Ky {β : Type} (NX : Int → Aq → Option β) (RET : Aq → Option β) (k : Nat) (v : Aq) (x8_0 : Int) (m3900_0 : Aq) : Option β := cond (decide (x8_0 < (v.length : Int))) (As x8_0 v ((Sj k (Ac v x8_0)).bind fun b1 => Bt (m3900_0.length) ([b1].length) 80 (NX (i64.wrap (x8_0 + 1)) (m3900_0 ++ [b1])))) ((Xcu k m3900_0).bind fun b2 => RET b2)
def Ll (k : Nat) (v : Aq) : Nat → Int → Aq → Option (Aq)
 | 0, _, _ => none
 | n + 1, x8_0, m3900_0 => Ky (Ll k v n) some k v x8_0 m3900_0
theorem Xhh {β : Type} (k : Nat) (v : Aq) (K : KT β) (n : Nat) : ∀ (x8_0 : Int) (m3900_0 : Aq), Qi k v K n x8_0 m3900_0 =
  (Ll k v n x8_0 m3900_0).bind fun r => K (F209_O.put r) := by
 induction n with
 | zero => intros; rfl
 | succ n ih =>
  intro x8_0 m3900_0
  refine Eq.trans (b := Ky (Qi k v K n) (fun r => K (F209_O.put r)) k v x8_0 m3900_0) (by kernel_rfl) ?_
  rw [Ll]
  simp only [Ky, z1, z2, z3, z4, z5, z6, z7, z8, ih]
def Y6 {β : Type} (LP0 : Int → Aq → Option β) (k : Nat) (v : Aq) : Option β := LP0 0 []
def Sp (k : Nat) (v : Aq) : Option (Aq) := Y6 (Ll k v k) k v
theorem Xy4 {β : Type} (k : Nat) (v : Aq) (K : KT β) : Ag (Za k) Tryz.f209 (PsT.put Xe0 (v, ())) K = (Sp k v).bind fun r => K (F209_O.put r) :=
 Eq.trans (b := Y6 (Qi k v K k) k v) (by kernel_rfl) (by simp only [Sp, Y6, z1, z2, z3, z4, z5, z6, z7, z8, Xhh])
def Xi3 (k : Nat) : FD := ⟨209, Xe0, F209_O, Sp k⟩
theorem Xql (k : Nat) : (Xi3 k).Ok Tryz.prog := ⟨fun x => Aa (Ai (Af (.c (Va k) (.c (Xtx k) .n))) _ _ _ _) Ah Tryz.func209 rfl rfl (Xy4 k _ some), .of (by kernel_rfl)⟩
end
end Go.Proofs.YtdmepjjepogddaaGreat.Gn
end

section
set_option linter.unusedVariables false
set_option linter.unusedSimpArgs false
namespace Go.Proofs.YtdmepjjepogddaaGreat.Gn
open Go.Rf IntKind
noncomputable section
def X84 : Nat → Hint
 | 0 => ⟨pl 0 1 (pl 6 2 ((8, .own .sown (.pair (.int .i64) Al) []) :: [])), pl 6000 3 ((7000, .own .own Al []) :: (7001, .own .own Al []) :: (pl 7002 1 []))⟩
 | 3 => ⟨pl 0 1 (pl 6 2 ((8, .own .sown (.pair (.int .i64) Al) []) :: (pl 11 1 (pl 65 3 [])))), pl 6000 3 (pl 7000 3 ((37002, .own .sown Al []) :: []))⟩
 | _ => ⟨[], []⟩
abbrev E5 (k : Nat) : Env := A6 (Aw [Xr6 k, Xuw k, Xi3 k]) X84 .own [] k
abbrev Xd9 : List PA := [.one (.sl .ro sta), .one mI, .agg (.pair mI Da)]
abbrev F140_O : RO := ⟨[.a], [L3]⟩
noncomputable def Xgn {β : Type} (k : Nat) (v : Ak) (w : Int) (p : (den Al)) (K : KT β) : Ex → St → Option β := Be (E5 k) Tryz.f140 (PsT.put Xd9 (v, w, p, ())) K
def X0y (v : Ak) (w : Int) (p : (den Al)) (x11_3 x66_3 x67_3 : Int) (m7000_3 : (den Db)) (m37002_3 : Aq) (m8900_3 : Co) : St := ⟨(.one (.s .ro sta v)) :: dz 5 ((.one (.ptr (.cell 6000) 3 0)) :: (.one (.ptr (.cell 7000) 3 0)) :: (.one (.a (.cell 8900) 0 0 none)) :: (.one .d) :: (.one .d) :: (.one (vI x11_3)) :: dz 53 ((.one (.a (.cell 37002) 0 0 none)) :: (.one (vI x66_3)) :: (.one (vI x67_3)) :: dz 19 [])), Bg 6000 (Cl L3 ([], [], 0)) (Bg 7000 (Cl L3 m7000_3) [eM 37002 (.s .sown Al m37002_3), eM 8900 (.s .sown (.pair (.int .i64) Al) m8900_3)])⟩
noncomputable def Rn {β : Type} (k : Nat) (v : Ak) (w : Int) (p : (den Al)) (KK : Ex → St → Option β) (n : Nat) (x11_3 x66_3 x67_3 : Int) (m7000_3 : (den Db)) (m37002_3 : Aq) (m8900_3 : Co) : Option β := A0 (E5 k) Tryz.f140 [1, 1, 0, 1, 0, 0, 1, 0, 1, 1, 1, 1, 1, 0, 1, 1, 1, 1, 1, 0, 1, 1, 0, 1, 0] 3 KK n (X0y v w p x11_3 x66_3 x67_3 m7000_3 m37002_3 m8900_3)
def Kw {β : Type} (NX : Int → Int → Int → (den Db) → Aq → Co → Option β) (EX0 : (Int × Int × Int × (den Db) × Aq × Co) → Option β) (k : Nat) (v : Ak) (w : Int) (p : (den Al)) (x11_3 x66_3 x67_3 : Int) (m7000_3 : (den Db)) (m37002_3 : Aq) (m8900_3 : Co) : Option β := cond (decide (x67_3 < x66_3)) (As x67_3 m37002_3 (Bt (m8900_3.length) ([(x11_3, (Ac m37002_3 x67_3))].length) 88 (NX x11_3 x66_3 (i64.wrap (x67_3 + 1)) m7000_3 m37002_3 (m8900_3 ++ [(x11_3, (Ac m37002_3 x67_3))])))) (EX0 (x11_3, x66_3, x67_3, m7000_3, m37002_3, m8900_3))
def Lm (k : Nat) (v : Ak) (w : Int) (p : (den Al)) : Nat → Int → Int → Int → (den Db) → Aq → Co → Option ((Int × Int × Int × (den Db) × Aq × Co))
 | 0, _, _, _, _, _, _ => none
 | n + 1, x11_3, x66_3, x67_3, m7000_3, m37002_3, m8900_3 => Kw (Lm k v w p n) (fun y3 => some y3) k v w p x11_3 x66_3 x67_3 m7000_3 m37002_3 m8900_3
theorem Xiu {β : Type} (k : Nat) (v : Ak) (w : Int) (p : (den Al)) (KK : Ex → St → Option β) (n : Nat) : ∀ (x11_3 x66_3 x67_3 : Int) (m7000_3 : (den Db)) (m37002_3 : Aq) (m8900_3 : Co), Rn k v w p KK n x11_3 x66_3 x67_3 m7000_3 m37002_3 m8900_3 =
  (Lm k v w p n x11_3 x66_3 x67_3 m7000_3 m37002_3 m8900_3).bind fun y3 => KK (.exit 3) ⟨(.one (.s .ro sta v)) :: dz 5 ((.one (.ptr (.cell 6000) 3 0)) :: (.one (.ptr (.cell 7000) 3 0)) :: (.one (.a (.cell 8900) 0 0 none)) :: (.one .d) :: (.one .d) :: (.one (vI y3.1)) :: dz 53 ((.one (.a (.cell 37002) 0 0 none)) :: (.one (vI y3.2.1)) :: (.one (vI y3.2.2.1)) :: (.one (vB false)) :: dz 18 [])), Bg 6000 (Cl L3 ([], [], 0)) (Bg 7000 (Cl L3 y3.2.2.2.1) [eM 37002 (.s .sown Al y3.2.2.2.2.1), eM 8900 (.s .sown (.pair (.int .i64) Al) y3.2.2.2.2.2)])⟩ := by
 induction n with
 | zero => intros; rfl
 | succ n ih =>
  intro x11_3 x66_3 x67_3 m7000_3 m37002_3 m8900_3
  refine Eq.trans (b := Kw (Rn k v w p KK n) (fun y3 => KK (.exit 3) ⟨(.one (.s .ro sta v)) :: dz 5 ((.one (.ptr (.cell 6000) 3 0)) :: (.one (.ptr (.cell 7000) 3 0)) :: (.one (.a (.cell 8900) 0 0 none)) :: (.one .d) :: (.one .d) :: (.one (vI y3.1)) :: dz 53 ((.one (.a (.cell 37002) 0 0 none)) :: (.one (vI y3.2.1)) :: (.one (vI y3.2.2.1)) :: (.one (vB false)) :: dz 18 [])), Bg 6000 (Cl L3 ([], [], 0)) (Bg 7000 (Cl L3 y3.2.2.2.1) [eM 37002 (.s .sown Al y3.2.2.2.2.1), eM 8900 (.s .sown (.pair (.int .i64) Al) y3.2.2.2.2.2)])⟩) k v w p x11_3 x66_3 x67_3 m7000_3 m37002_3 m8900_3) (by kernel_rfl) ?_
  rw [Lm]
  simp only [Kw, z1, z2, z3, z4, z5, z6, z7, z8, A1, ih]
def X00 (v : Ak) (w : Int) (p : (den Al)) (m7000_0 : (den Db)) (m8900_0 : Co) : St := ⟨(.one (.s .ro sta v)) :: dz 5 ((.one (.ptr (.cell 6000) 3 0)) :: (.one (.ptr (.cell 7000) 3 0)) :: (.one (.a (.cell 8900) 0 0 none)) :: dz 78 []), Bg 6000 (Cl L3 ([], [], 0)) (Bg 7000 (Cl L3 m7000_0) [eM 8900 (.s .sown (.pair (.int .i64) Al) m8900_0)])⟩
noncomputable def Dx {β : Type} (k : Nat) (v : Ak) (w : Int) (p : (den Al)) (K : KT β) (n : Nat) (m7000_0 : (den Db)) (m8900_0 : Co) : Option β := A0 (E5 k) Tryz.f140 [1, 1, 0, 1, 0] 0 (Ad (E5 k) [1, 1, 0, 1, 0] (Ae Tryz.f140) 0 (Xgn k v w p K)) n (X00 v w p m7000_0 m8900_0)
def Br (k : Nat) (v : Ak) (w : Int) (p : (den Al)) : Nat → (den Db) → Co → Option ((den Db))
 | 0, _, _ => none
 | n + 1, m7000_0, m8900_0 => cond (decide ((m8900_0.length : Int) > 0)) (cond (decide (0 < (m8900_0.length : Int))) (cond (decide (0 ≤ 1) && decide (1 ≤ (m8900_0.length : Int))) (As (Ac m8900_0 0).1 v ((Zb k (Ac v (Ac m8900_0 0).1) (Ac m8900_0 0).2).bind fun b1 => cond (b1.1 == 1) (Bt (m7000_0.1.length) (b1.2.2.length) 80 (Br k v w p n (m7000_0.1 ++ b1.2.2, m7000_0.2.1, i64.wrap (m7000_0.2.2 + 1)) ((m8900_0.take (((m8900_0.length : Int)).toNat)).drop 1))) (cond (b1.1 == 3) (Bt (m7000_0.2.1.length) (b1.2.2.length) 80 (Br k v w p n (m7000_0.1, m7000_0.2.1 ++ b1.2.2, i64.wrap (m7000_0.2.2 + 1)) ((m8900_0.take (((m8900_0.length : Int)).toNat)).drop 1))) (cond (b1.1 == 2) ((F75 k v b1.2.1).bind fun b2 => cond (decide (b2 ≥ 0)) ((Lm k v w p k b2 (b1.2.2.length : Int) 0 (m7000_0.1, m7000_0.2.1, i64.wrap (m7000_0.2.2 + 1)) b1.2.2 ((m8900_0.take (((m8900_0.length : Int)).toNat)).drop 1)).bind fun y3 => Br k v w p n y3.2.2.2.1 y3.2.2.2.2.2) (Br k v w p n (m7000_0.1, m7000_0.2.1, i64.wrap (m7000_0.2.2 + 1)) ((m8900_0.take (((m8900_0.length : Int)).toNat)).drop 1))) (Br k v w p n (m7000_0.1, m7000_0.2.1, i64.wrap (m7000_0.2.2 + 1)) ((m8900_0.take (((m8900_0.length : Int)).toNat)).drop 1)))))) none) none) ((Sp k m7000_0.1).bind fun b3 => (Sp k m7000_0.2.1).bind fun b4 => some (b3, b4, m7000_0.2.2))
theorem Xal {β : Type} (k n : Nat) (v : Ak) (w : Int) (p : (den Al)) (y3 : Int × Int × Int × (den Db) × Aq × Co) (K : KT β) :
  (Ad (E5 k) [1, 0, 1, 1, 1, 1, 1, 0, 1, 1, 1, 1, 1, 0, 1, 1, 0, 1, 0] (Bf [1, 1, 0, 1, 0, 0] (Ae Tryz.f140)) 0 (B3 (E5 k) Tryz.f140 [1, 1, 0, 1, 0] 0 (Ad (E5 k) [1, 1, 0, 1, 0] (Ae Tryz.f140) 0 (Xgn k v w p K)) n)) (.exit 3) ⟨(.one (.s .ro sta v)) :: dz 5 ((.one (.ptr (.cell 6000) 3 0)) :: (.one (.ptr (.cell 7000) 3 0)) :: (.one (.a (.cell 8900) 0 0 none)) :: (.one .d) :: (.one .d) :: (.one (vI y3.1)) :: dz 53 ((.one (.a (.cell 37002) 0 0 none)) :: (.one (vI y3.2.1)) :: (.one (vI y3.2.2.1)) :: (.one (vB false)) :: dz 18 [])), Bg 6000 (Cl L3 ([], [], 0)) (Bg 7000 (Cl L3 y3.2.2.2.1) [eM 37002 (.s .sown Al y3.2.2.2.2.1), eM 8900 (.s .sown (.pair (.int .i64) Al) y3.2.2.2.2.2)])⟩ =
  Dx k v w p K n y3.2.2.2.1 y3.2.2.2.2.2 := by kernel_rfl
theorem Xef {β : Type} (k : Nat) (v : Ak) (w : Int) (p : (den Al)) (K : KT β) (n : Nat) : ∀ (m7000_0 : (den Db)) (m8900_0 : Co), Dx k v w p K n m7000_0 m8900_0 =
  (Br k v w p n m7000_0 m8900_0).bind fun r => K (F140_O.put r) := by
 induction n with
 | zero => intros; rfl
 | succ n ih =>
  intro m7000_0 m8900_0
  refine Eq.trans (b := cond (decide ((m8900_0.length : Int) > 0)) (cond (decide (0 < (m8900_0.length : Int))) (cond (decide (0 ≤ 1) && decide (1 ≤ (m8900_0.length : Int))) (As (Ac m8900_0 0).1 v ((Zb k (Ac v (Ac m8900_0 0).1) (Ac m8900_0 0).2).bind fun b1 => cond (b1.1 == 1) (Bt (m7000_0.1.length) (b1.2.2.length) 80 (Dx k v w p K n (m7000_0.1 ++ b1.2.2, m7000_0.2.1, i64.wrap (m7000_0.2.2 + 1)) ((m8900_0.take (((m8900_0.length : Int)).toNat)).drop 1))) (cond (b1.1 == 3) (Bt (m7000_0.2.1.length) (b1.2.2.length) 80 (Dx k v w p K n (m7000_0.1, m7000_0.2.1 ++ b1.2.2, i64.wrap (m7000_0.2.2 + 1)) ((m8900_0.take (((m8900_0.length : Int)).toNat)).drop 1))) (cond (b1.1 == 2) ((F75 k v b1.2.1).bind fun b2 => cond (decide (b2 ≥ 0)) (Rn k v w p (Ad (E5 k) [1, 0, 1, 1, 1, 1, 1, 0, 1, 1, 1, 1, 1, 0, 1, 1, 0, 1, 0] (Bf [1, 1, 0, 1, 0, 0] (Ae Tryz.f140)) 0 (B3 (E5 k) Tryz.f140 [1, 1, 0, 1, 0] 0 (Ad (E5 k) [1, 1, 0, 1, 0] (Ae Tryz.f140) 0 (Xgn k v w p K)) n)) k b2 (b1.2.2.length : Int) 0 (m7000_0.1, m7000_0.2.1, i64.wrap (m7000_0.2.2 + 1)) b1.2.2 ((m8900_0.take (((m8900_0.length : Int)).toNat)).drop 1)) (Dx k v w p K n (m7000_0.1, m7000_0.2.1, i64.wrap (m7000_0.2.2 + 1)) ((m8900_0.take (((m8900_0.length : Int)).toNat)).drop 1))) (Dx k v w p K n (m7000_0.1, m7000_0.2.1, i64.wrap (m7000_0.2.2 + 1)) ((m8900_0.take (((m8900_0.length : Int)).toNat)).drop 1)))))) none) none) ((Sp k m7000_0.1).bind fun b3 => (Sp k m7000_0.2.1).bind fun b4 => K (F140_O.put (b3, b4, m7000_0.2.2)))) (by kernel_rfl) ?_
  rw [Br]
  simp only [z1, z2, z3, z4, z5, z6, z7, z8, A1, Xiu, Xal k n v w p _ K, ih, As, Bt]
def Yb {β : Type} (LP0 : (den Db) → Co → Option β) (k : Nat) (v : Ak) (w : Int) (p : (den Al)) : Option β := A1 p fun p0 p1 p2 p3 p4 p5 p6 p7 p8 => LP0 ([], [], 0) [(w, p0, p1, p2, p3, p4, p5, p6, p7, p8)]
def Xn8 (k : Nat) (v : Ak) (w : Int) (p : (den Al)) : Option ((den Db)) := Yb (Br k v w p k) k v w p
theorem X2j {β : Type} (k : Nat) (v : Ak) (w : Int) (p : (den Al)) (K : KT β) : Ag (E5 k) Tryz.f140 (PsT.put Xd9 (v, w, p, ())) K = (Xn8 k v w p).bind fun r => K (F140_O.put r) :=
 Eq.trans (b := Yb (Dx k v w p K k) k v w p) (by kernel_rfl) (by simp only [Xn8, Yb, z1, z2, z3, z4, z5, z6, z7, z8, A1, Xef])
def Xw7 (k : Nat) : FD := ⟨140, Xd9, F140_O, Xn8 k⟩
theorem Yc0 (k : Nat) : (Xw7 k).Ok Tryz.prog := ⟨fun x => Aa (Ai (Af (.c (X67 k) (.c (X5w k) (.c (Xql k) .n)))) _ _ _ _) Ah Tryz.func140 rfl rfl (X2j k _ _ _ some), .of (by kernel_rfl)⟩
abbrev Yew (k : Nat) : Env := A6 Bn Ap .own [] k
abbrev Xwg : List PA := [.agg (.pair mI Da), .agg (.pair mI Da)]
abbrev F217_O : RO := ⟨[.v], [mB]⟩
def Xhb {β : Type} (RET : Bool → Option β) (k : Nat) (v w : (den Al)) : Option β := cond (v.1 == w.1) (cond (v.2.1 == w.2.1) (cond (v.2.2.1 == w.2.2.1) (RET (v.2.2.2.2.1 == w.2.2.2.2.1)) (RET false)) (RET false)) (RET false)
def Xf7 := Xhb (β := Bool) some
theorem Xzt {β : Type} (k : Nat) (v w : (den Al)) (K : KT β) : Ag (Yew k) Tryz.f217 (PsT.put Xwg (v, w, ())) K = (Xf7 k v w).bind fun r => K (F217_O.put r) :=
 Eq.trans (b := Xhb (fun r => K (F217_O.put r)) k v w) (by kernel_rfl) (by simp only [Xf7, Xhb, z1, z2, z3, z4, z5, z6, z7, z8, A1])
def Xh (k : Nat) : FD := ⟨217, Xwg, F217_O, Xf7 k⟩
theorem Xh5 (k : Nat) : (Xh k).Ok Tryz.prog := ⟨fun x => Aa (Ai .none _ _ _ _) Ah Tryz.func217 rfl rfl (Xzt k _ _ some), .of (by kernel_rfl)⟩
def X7r : Nat → Hint
 | 0 => ⟨pl 1 1 (pl 3 1 (pl 8 3 [])), pl 1000 2 []⟩
 | _ => ⟨[], []⟩
abbrev Xam (k : Nat) : Env := A6 (Aw [Xc9 k, Xh k, Iv k]) X7r .own [] k
abbrev Xij : List PA := [.agg (.pair (.sl .ro Al) mI)]
abbrev F267_O : RO := ⟨[.v], [mB]⟩
noncomputable def Ycg {β : Type} (k : Nat) (v : (den A4)) (K : KT β) : Ex → St → Option β := Be (Xam k) Tryz.f267 (PsT.put Xij (v, ())) K
def Xzi (v : (den A4)) (x3_0 x10_0 : Int) : St := ⟨(.one .d) :: (.one (.ptr (.cell 1000) 2 0)) :: (.one .d) :: (.one (vI x3_0)) :: dz 4 ((.one (.s .ro Al v.1)) :: (.one (vI (v.1.length : Int))) :: (.one (vI x10_0)) :: dz 57 []), Bg 1000 (Cl (.pair (.sl .ro Al) mI) v) []⟩
noncomputable def Py {β : Type} (k : Nat) (v : (den A4)) (K : KT β) (n : Nat) (x3_0 x10_0 : Int) : Option β := A0 (Xam k) Tryz.f267 [1, 1, 0, 1, 0] 0 (Ad (Xam k) [1, 1, 0, 1, 0] (Ae Tryz.f267) 0 (Ycg k v K)) n (Xzi v x3_0 x10_0)
def G9 {β : Type} (NX : Int → Int → Option β) (RET : Bool → Option β) (k : Nat) (v : (den A4)) (x3_0 x10_0 : Int) : Option β := Bo v fun v0 v1 => cond (decide (x10_0 < (v0.length : Int))) (As x10_0 v0 ((F89 k (Ac v0 x10_0)).bind fun b1 => cond (!b1) (RET false) (cond (decide (0 < (v0.length : Int))) ((Xf7 k (Ac v0 x10_0) (Ac v0 0)).bind fun b2 => cond (!b2) (RET false) (cond (decide (x10_0 > 0)) (As (i64.wrap (x10_0 - 1)) v0 (cond (decide ((Ac v0 x10_0).2.2.2.2.2.1 < (i64.wrap ((Ac v0 (i64.wrap (x10_0 - 1))).2.2.2.2.2.1 + ((Ac v0 (i64.wrap (x10_0 - 1))).2.2.2.2.2.2.2.2.length : Int))))) (RET false) (cond (!(Ac v0 (i64.wrap (x10_0 - 1))).2.2.2.2.2.2.1) (RET false) (NX (i64.wrap (x3_0 + ((Ac v0 x10_0).2.2.2.2.2.2.2.2.length : Int))) (i64.wrap (x10_0 + 1)))))) (NX (i64.wrap (x3_0 + ((Ac v0 x10_0).2.2.2.2.2.2.2.2.length : Int))) (i64.wrap (x10_0 + 1))))) none))) (cond (decide ((v0.length : Int) > 0)) (cond (decide (x3_0 ≤ 48)) ((S6 k v1 0 1000000).bind fun b3 => RET b3) (RET false)) (RET false))
def Ej (k : Nat) (v : (den A4)) : Nat → Int → Int → Option (Bool)
 | 0, _, _ => none
 | n + 1, x3_0, x10_0 => G9 (Ej k v n) some k v x3_0 x10_0
theorem Xhy {β : Type} (k : Nat) (v : (den A4)) (K : KT β) (n : Nat) : ∀ (x3_0 x10_0 : Int), Py k v K n x3_0 x10_0 =
  (Ej k v n x3_0 x10_0).bind fun r => K (F267_O.put r) := by
 induction n with
 | zero => intros; rfl
 | succ n ih =>
  intro x3_0 x10_0
  refine Eq.trans (b := G9 (Py k v K n) (fun r => K (F267_O.put r)) k v x3_0 x10_0) (by kernel_rfl) ?_
  rw [Ej]
  simp only [G9, z1, z2, z3, z4, z5, z6, z7, z8, Bo, ih]
def Xgf {β : Type} (LP0 : Int → Int → Option β) (k : Nat) (v : (den A4)) : Option β := LP0 0 0
def Xei (k : Nat) (v : (den A4)) : Option (Bool) := Xgf (Ej k v k) k v
theorem X3u {β : Type} (k : Nat) (v : (den A4)) (K : KT β) : Ag (Xam k) Tryz.f267 (PsT.put Xij (v, ())) K = (Xei k v).bind fun r => K (F267_O.put r) :=
 Eq.trans (b := Xgf (Py k v K k) k v) (by kernel_rfl) (by simp only [Xei, Xgf, z1, z2, z3, z4, z5, z6, z7, z8, Bo, Xhy])
def Xgq (k : Nat) : FD := ⟨267, Xij, F267_O, Xei k⟩
theorem Xvr (k : Nat) : (Xgq k).Ok Tryz.prog := ⟨fun x => Aa (Ai (Af (.c (Xk7 k) (.c (Xh5 k) (.c (Je k) .n)))) _ _ _ _) Ah Tryz.func267 rfl rfl (X3u k _ some), .of (by kernel_rfl)⟩
abbrev Ydn (k : Nat) : Env := A6 (Aw [Xh k]) Ap .own [(false, 1000), (false, 1001)] k
abbrev Xq2 : List PA := [.agg (.pair (.sl .ro Al) mI), .p (.pair (.sl .ro Al) mI)]
abbrev F269_O : RO := ⟨[.v], [mB, .pair (.sl .ro Al) mI]⟩
def Xgs {β : Type} (RET : (Bool × (den A4)) → Option β) (k : Nat) (v w : (den A4)) : Option β := cond (decide (0 < (v.1.length : Int))) (cond (decide (0 < (w.1.length : Int))) ((Xf7 k (Ac v.1 0) (Ac w.1 0)).bind fun b1 => RET (b1, w)) none) none
def Xyu := Xgs (β := Bool × (den A4)) some
theorem X32 {β : Type} (k : Nat) (v w : (den A4)) (K : KT β) : Ag (Ydn k) Tryz.f269 (PsT.put Xq2 (v, w, ())) K = (Xyu k v w).bind fun r => K (F269_O.put r) :=
 Eq.trans (b := Xgs (fun r => K (F269_O.put r)) k v w) (by kernel_rfl) (by simp only [Xyu, Xgs, z1, z2, z3, z4, z5, z6, z7, z8, Bo])
def Xxm (k : Nat) : FD := ⟨269, Xq2, F269_O, Xyu k⟩
theorem Yd8 (k : Nat) : (Xxm k).Ok Tryz.prog := ⟨fun x => Aa (Ai (Af (.c (Xh5 k) .n)) _ _ _ _) Ah Tryz.func269 rfl rfl (X32 k _ _ some), .of (by kernel_rfl)⟩
def X7s : Nat → Hint
 | 0 => ⟨pl 0 2 (pl 7 2 []), pl 1100 2 []⟩
 | _ => ⟨[], []⟩
abbrev Xv (k : Nat) : Env := { A6 (Aw [Xxm k]) X7s .own [(false, 1100), (false, 1101)] k with frz := [15] }
abbrev Xfj : List PA := [.one (.sl .ro A4), .fc 269 [.pair (.sl .ro Al) mI]]
abbrev F215_O : RO := ⟨[.v], [mI, .pair (.sl .ro Al) mI]⟩
noncomputable def Yf0 {β : Type} (k : Nat) (v : An) (wx : (den A4)) (K : KT β) : Ex → St → Option β := Be (Xv k) Tryz.f215 (PsT.put Xfj (v, (wx, ()), ())) K
def Xyk (v : An) (wx : (den A4)) (x8_0 : Int) (m1100_0 : (den A4)) : St := ⟨(.one (.s .ro A4 v)) :: (.one (.fn 269 [((.cell 1100), 2, 0)])) :: dz 5 ((.one (vI (v.length : Int))) :: (.one (vI x8_0)) :: dz 10 []), Bg 1100 (Cl (.pair (.sl .ro Al) mI) m1100_0) []⟩
noncomputable def Pz {β : Type} (k : Nat) (v : An) (wx : (den A4)) (K : KT β) (n : Nat) (x8_0 : Int) (m1100_0 : (den A4)) : Option β := A0 (Xv k) Tryz.f215 [1, 0, 1, 0] 0 (Ad (Xv k) [1, 0, 1, 0] (Ae Tryz.f215) 0 (Yf0 k v wx K)) n (Xyk v wx x8_0 m1100_0)
def Rc {β : Type} (NX : Int → (den A4) → Option β) (RET : (Int × (den A4)) → Option β) (k : Nat) (v : An) (wx : (den A4)) (x8_0 : Int) (m1100_0 : (den A4)) : Option β := cond (decide (x8_0 < (v.length : Int))) (As x8_0 v ((Xyu k (Ac v x8_0) m1100_0).bind fun b1 => cond b1.1 (RET (x8_0, b1.2)) (NX (i64.wrap (x8_0 + 1)) b1.2))) (RET ((-1), m1100_0))
def Kg (k : Nat) (v : An) (wx : (den A4)) : Nat → Int → (den A4) → Option (Int × (den A4))
 | 0, _, _ => none
 | n + 1, x8_0, m1100_0 => Rc (Kg k v wx n) some k v wx x8_0 m1100_0
theorem Xh9 {β : Type} (k : Nat) (v : An) (wx : (den A4)) (K : KT β) (n : Nat) : ∀ (x8_0 : Int) (m1100_0 : (den A4)), Pz k v wx K n x8_0 m1100_0 =
  (Kg k v wx n x8_0 m1100_0).bind fun r => K (F215_O.put r) := by
 induction n with
 | zero => intros; rfl
 | succ n ih =>
  intro x8_0 m1100_0
  refine Eq.trans (b := Rc (Pz k v wx K n) (fun r => K (F215_O.put r)) k v wx x8_0 m1100_0) (by kernel_rfl) ?_
  rw [Kg]
  simp only [Rc, z1, z2, z3, z4, z5, z6, z7, z8, Bo, ih]
def Zf {β : Type} (LP0 : Int → (den A4) → Option β) (k : Nat) (v : An) (wx : (den A4)) : Option β := LP0 0 wx
def Xnh (k : Nat) (v : An) (wx : (den A4)) : Option (Int × (den A4)) := Zf (Kg k v wx k) k v wx
theorem X2u {β : Type} (k : Nat) (v : An) (wx : (den A4)) (K : KT β) : Ag (Xv k) Tryz.f215 (PsT.put Xfj (v, (wx, ()), ())) K = (Xnh k v wx).bind fun r => K (F215_O.put r) :=
 Eq.trans (b := Zf (Pz k v wx K k) k v wx) (by kernel_rfl) (by simp only [Xnh, Zf, z1, z2, z3, z4, z5, z6, z7, z8, Bo, Xh9])
def Xuh (k : Nat) : FD := ⟨215, Xfj, F215_O, Xnh k⟩
theorem Yak (k : Nat) : (Xuh k).Ok Tryz.prog := ⟨fun x => Aa (Ua [15] (Af (.c (Yd8 k) .n)) _ _ _ _) Ah Tryz.func215 rfl rfl (X2u k _ _ some), .of (by kernel_rfl)⟩
abbrev X7u (k : Nat) : Env := A6 (Aw [Xuh k]) Ap .own [(false, 1100), (false, 1101)] k
abbrev Xr2 : List PA := [.one (.sl .ro A4), .fc 269 [.pair (.sl .ro Al) mI]]
abbrev F268_O : RO := ⟨[.v], [mB, .pair (.sl .ro Al) mI]⟩
def Xmp (k : Nat) (v : An) (wx : (den A4)) : Option (Bool × (den A4)) := (Xnh k v wx).bind fun b1 => some (decide (b1.1 ≥ 0), b1.2)
theorem Xzz {β : Type} (k : Nat) (v : An) (wx : (den A4)) (K : KT β) : Ag (X7u k) Tryz.f268 (PsT.put Xr2 (v, (wx, ()), ())) K = (Xmp k v wx).bind fun r => K (F268_O.put r) :=
 Eq.trans (b := (Xnh k v wx).bind fun b1 => K (F268_O.put (decide (b1.1 ≥ 0), b1.2))) (by kernel_rfl) (by simp only [Xmp, z1, z2, z3, z4, z5, z6, z7, z8, Bo])
def Xxx (k : Nat) : FD := ⟨268, Xr2, F268_O, Xmp k⟩
theorem X8g (k : Nat) : (Xxx k).Ok Tryz.prog := ⟨fun x => Aa (Ai (Af (.c (Yak k) .n)) _ _ _ _) Ah Tryz.func268 rfl rfl (Xzz k _ _ some), .of (by kernel_rfl)⟩
def Ybj : Nat → Hint
 | 0 => ⟨pl 0 1 (pl 5 3 []), []⟩
 | _ => ⟨[], []⟩
abbrev Xbb (k : Nat) : Env := A6 (Aw [Xgq k, Xxx k]) Ybj .own [] k
abbrev Xgo : List PA := [.one (.sl .ro A4)]
abbrev F210_O : RO := ⟨[.v], [mB]⟩
noncomputable def Yfv {β : Type} (k : Nat) (v : An) (K : KT β) : Ex → St → Option β := Be (Xbb k) Tryz.f210 (PsT.put Xgo (v, ())) K
def X20 (v : An) (x7_0 : Int) : St := ⟨(.one (.s .ro A4 v)) :: dz 4 ((.one (.s .ro A4 v)) :: (.one (vI (v.length : Int))) :: (.one (vI x7_0)) :: dz 18 []), []⟩
noncomputable def Qb {β : Type} (k : Nat) (v : An) (K : KT β) (n : Nat) (x7_0 : Int) : Option β := A0 (Xbb k) Tryz.f210 [1, 0, 1, 0] 0 (Ad (Xbb k) [1, 0, 1, 0] (Ae Tryz.f210) 0 (Yfv k v K)) n (X20 v x7_0)
def Gs {β : Type} (NX : Int → Option β) (RET : Bool → Option β) (k : Nat) (v : An) (x7_0 : Int) : Option β := cond (decide (x7_0 < (v.length : Int))) (As x7_0 v ((Xei k (Ac v x7_0)).bind fun b1 => cond (!b1) (RET false) (cond (decide (0 ≤ x7_0) && decide (x7_0 ≤ (v.length : Int))) ((Xmp k (v.take x7_0.toNat) (Ac v x7_0)).bind fun b2 => cond b2.1 (RET false) (NX (i64.wrap (x7_0 + 1)))) none))) (RET (decide ((v.length : Int) ≤ 3)))
def H6 (k : Nat) (v : An) : Nat → Int → Option (Bool)
 | 0, _ => none
 | n + 1, x7_0 => Gs (H6 k v n) some k v x7_0
theorem Xhk {β : Type} (k : Nat) (v : An) (K : KT β) (n : Nat) : ∀ (x7_0 : Int), Qb k v K n x7_0 =
  (H6 k v n x7_0).bind fun r => K (F210_O.put r) := by
 induction n with
 | zero => intros; rfl
 | succ n ih =>
  intro x7_0
  refine Eq.trans (b := Gs (Qb k v K n) (fun r => K (F210_O.put r)) k v x7_0) (by kernel_rfl) ?_
  rw [H6]
  simp only [Gs, z1, z2, z3, z4, z5, z6, z7, z8, ih]
def T5 {β : Type} (LP0 : Int → Option β) (k : Nat) (v : An) : Option β := LP0 0
def Xdm (k : Nat) (v : An) : Option (Bool) := T5 (H6 k v k) k v
theorem Xy7 {β : Type} (k : Nat) (v : An) (K : KT β) : Ag (Xbb k) Tryz.f210 (PsT.put Xgo (v, ())) K = (Xdm k v).bind fun r => K (F210_O.put r) :=
 Eq.trans (b := T5 (Qb k v K k) k v) (by kernel_rfl) (by simp only [Xdm, T5, z1, z2, z3, z4, z5, z6, z7, z8, Xhk])
def Xs6 (k : Nat) : FD := ⟨210, Xgo, F210_O, Xdm k⟩
theorem X80 (k : Nat) : (Xs6 k).Ok Tryz.prog := ⟨fun x => Aa (Ai (Af (.c (Xvr k) (.c (X8g k) .n))) _ _ _ _) Ah Tryz.func210 rfl rfl (Xy7 k _ some), .of (by kernel_rfl)⟩
abbrev Ycz (k : Nat) : Env := A6 (Aw [Xi3 k]) Ap .own [] k
abbrev Xwv : List PA := [.agg (.pair (.sl .ro Al) mI)]
abbrev F270_O : RO := ⟨[.a], [.pair (.sl .own Al) mI]⟩
def Tl (k : Nat) (v : (den A4)) : Option ((den A4)) := (Sp k v.1).bind fun b1 => some (b1, v.2)
theorem X27 {β : Type} (k : Nat) (v : (den A4)) (K : KT β) : Ag (Ycz k) Tryz.f270 (PsT.put Xwv (v, ())) K = (Tl k v).bind fun r => K (F270_O.put r) :=
 Eq.trans (b := (Sp k v.1).bind fun b1 => K (F270_O.put (b1, v.2))) (by kernel_rfl) (by simp only [Tl, z1, z2, z3, z4, z5, z6, z7, z8, Bo])
def Xfd (k : Nat) : FD := ⟨270, Xwv, F270_O, Tl k⟩
theorem Xu3 (k : Nat) : (Xfd k).Ok Tryz.prog := ⟨fun x => Aa (Ai (Af (.c (Xql k) .n)) _ _ _ _) Ah Tryz.func270 rfl rfl (X27 k _ some), .of (by kernel_rfl)⟩
abbrev Yfx (k : Nat) : Env := A6 Bn Ap .own [] k
abbrev Xx7 : List PA := [.one (.sl .own A4)]
abbrev F271_O : RO := ⟨[.v], [.sl .own A4]⟩
def Xgm {β : Type} (RET : An → Option β) (k : Nat) (v : An) : Option β := cond (decide (0 ≤ (v.length : Int)) && decide ((v.length : Int) ≤ (v.length : Int))) (cond (decide ((v.length : Int) = (v.length : Int))) (RET ((v.take ((v.length : Int).toNat)).drop 0)) none) none
def X08 := Xgm (β := An) some
theorem X1i {β : Type} (k : Nat) (v : An) (K : KT β) : Ag (Yfx k) Tryz.f271 (PsT.put Xx7 (v, ())) K = (X08 k v).bind fun r => K (F271_O.put r) :=
 Eq.trans (b := Xgm (fun r => K (F271_O.put r)) k v) (by kernel_rfl) (by simp only [X08, Xgm, z1, z2, z3, z4, z5, z6, z7, z8])
def Xtq (k : Nat) : FD := ⟨271, Xx7, F271_O, X08 k⟩
theorem Ycq (k : Nat) : (Xtq k).Ok Tryz.prog := ⟨fun x => Aa (Ai .none _ _ _ _) Ah Tryz.func271 rfl rfl (X1i k _ some), .of (by kernel_rfl)⟩
def Yer : Nat → Hint
 | 0 => ⟨(3, .own .own A4 []) :: (pl 6 3 []), []⟩
 | _ => ⟨[], []⟩
abbrev Xa4 (k : Nat) : Env := A6 (Aw [Xfd k, Xtq k]) Yer .own [] k
abbrev Xee : List PA := [.one (.sl .ro A4)]
abbrev F212_O : RO := ⟨[.v], [.sl .own A4]⟩
noncomputable def Yaa {β : Type} (k : Nat) (v : An) (K : KT β) : Ex → St → Option β := Be (Xa4 k) Tryz.f212 (PsT.put Xee (v, ())) K
def X3a (v : An) (x8_0 : Int) (m3900_0 : An) : St := ⟨dz 3 ((.one (.a (.cell 3900) 0 0 none)) :: (.one .d) :: (.one .d) :: (.one (.s .ro A4 v)) :: (.one (vI (v.length : Int))) :: (.one (vI x8_0)) :: dz 11 []), [eM 3900 (.s .own A4 m3900_0)]⟩
noncomputable def Q1 {β : Type} (k : Nat) (v : An) (K : KT β) (n : Nat) (x8_0 : Int) (m3900_0 : An) : Option β := A0 (Xa4 k) Tryz.f212 [1, 1, 0, 1, 0] 0 (Ad (Xa4 k) [1, 1, 0, 1, 0] (Ae Tryz.f212) 0 (Yaa k v K)) n (X3a v x8_0 m3900_0)
def Ew {β : Type} (NX : Int → An → Option β) (RET : An → Option β) (k : Nat) (v : An) (x8_0 : Int) (m3900_0 : An) : Option β := cond (decide (x8_0 < (v.length : Int))) (As x8_0 v ((Tl k (Ac v x8_0)).bind fun b1 => Bt (m3900_0.length) ([b1].length) 32 (NX (i64.wrap (x8_0 + 1)) (m3900_0 ++ [b1])))) ((X08 k m3900_0).bind fun b2 => RET b2)
def Ia (k : Nat) (v : An) : Nat → Int → An → Option (An)
 | 0, _, _ => none
 | n + 1, x8_0, m3900_0 => Ew (Ia k v n) some k v x8_0 m3900_0
theorem Xej {β : Type} (k : Nat) (v : An) (K : KT β) (n : Nat) : ∀ (x8_0 : Int) (m3900_0 : An), Q1 k v K n x8_0 m3900_0 =
  (Ia k v n x8_0 m3900_0).bind fun r => K (F212_O.put r) := by
 induction n with
 | zero => intros; rfl
 | succ n ih =>
  intro x8_0 m3900_0
  refine Eq.trans (b := Ew (Q1 k v K n) (fun r => K (F212_O.put r)) k v x8_0 m3900_0) (by kernel_rfl) ?_
  rw [Ia]
  simp only [Ew, z1, z2, z3, z4, z5, z6, z7, z8, ih]
def Ub {β : Type} (LP0 : Int → An → Option β) (k : Nat) (v : An) : Option β := LP0 0 []
def Q8 (k : Nat) (v : An) : Option (An) := Ub (Ia k v k) k v
theorem X0k {β : Type} (k : Nat) (v : An) (K : KT β) : Ag (Xa4 k) Tryz.f212 (PsT.put Xee (v, ())) K = (Q8 k v).bind fun r => K (F212_O.put r) :=
 Eq.trans (b := Ub (Q1 k v K k) k v) (by kernel_rfl) (by simp only [Q8, Ub, z1, z2, z3, z4, z5, z6, z7, z8, Xej])
def Xu2 (k : Nat) : FD := ⟨212, Xee, F212_O, Q8 k⟩
theorem X8a (k : Nat) : (Xu2 k).Ok Tryz.prog := ⟨fun x => Aa (Ai (Af (.c (Xu3 k) (.c (Ycq k) .n))) _ _ _ _) Ah Tryz.func212 rfl rfl (X0k k _ some), .of (by kernel_rfl)⟩
abbrev X9h (k : Nat) : Env := A6 Bn Ap .own [(false, 1000)] k
abbrev Xto : List PA := [.agg (.pair (.sl .ro Al) mI), .p mI]
abbrev F213_O : RO := ⟨[.v], [mB, mI]⟩
def Xw0 (k : Nat) (v : (den A4)) (w : Int) : Option (Bool × Int) := some (decide (v.2 ≤ w), w)
theorem X3x {β : Type} (k : Nat) (v : (den A4)) (w : Int) (K : KT β) : Ag (X9h k) Tryz.f213 (PsT.put Xto (v, w, ())) K = (Xw0 k v w).bind fun r => K (F213_O.put r) :=
 Eq.trans (b := K (F213_O.put (decide (v.2 ≤ w), w))) (by kernel_rfl) (by simp only [Xw0, z1, z2, z3, z4, z5, z6, z7, z8, Bo])
def Xwc (k : Nat) : FD := ⟨213, Xto, F213_O, Xw0 k⟩
theorem X8l (k : Nat) : (Xwc k).Ok Tryz.prog := ⟨fun x => Aa (Ai .none _ _ _ _) Ah Tryz.func213 rfl rfl (X3x k _ _ some), .of (by kernel_rfl)⟩
def Xwe : Nat → Hint
 | 0 => ⟨pl 0 2 (pl 7 2 []), (0, .own .sown A4 []) :: (pl 1100 1 [])⟩
 | _ => ⟨[], []⟩
abbrev Nw (k : Nat) : Env := { A6 (Aw [Xwc k]) Xwe .own [(true, 0), (false, 1100)] k with frz := [15] }
abbrev Uf : List PA := [.one (.lent .own A4), .fc 213 [mI]]
abbrev F215_2_O : RO := ⟨[.v], [mI, .sl .sown A4, mI]⟩
noncomputable def Xyb {β : Type} (k : Nat) (v : An) (wx : Int) (K : KT β) : Ex → St → Option β := Be (Nw k) Tryz.f215 (PsT.put Uf (v, (wx, ()), ())) K
def Xmj (v : An) (wx : Int) (x8_0 m1100_0 : Int) : St := ⟨(.one (.a (.cell 0) 0 0 none)) :: (.one (.fn 213 [((.cell 1100), 1, 0)])) :: dz 5 ((.one (vI (v.length : Int))) :: (.one (vI x8_0)) :: dz 10 []), [eM 0 (.s .sown A4 v), iM 1100 m1100_0]⟩
noncomputable def Kb {β : Type} (k : Nat) (v : An) (wx : Int) (K : KT β) (n : Nat) (x8_0 m1100_0 : Int) : Option β := A0 (Nw k) Tryz.f215 [1, 0, 1, 0] 0 (Ad (Nw k) [1, 0, 1, 0] (Ae Tryz.f215) 0 (Xyb k v wx K)) n (Xmj v wx x8_0 m1100_0)
def C7 {β : Type} (NX : Int → Int → Option β) (RET : (Int × An × Int) → Option β) (k : Nat) (v : An) (wx : Int) (x8_0 m1100_0 : Int) : Option β := cond (decide (x8_0 < (v.length : Int))) (As x8_0 v ((Xw0 k (Ac v x8_0) m1100_0).bind fun b1 => cond b1.1 (RET (x8_0, v, b1.2)) (NX (i64.wrap (x8_0 + 1)) b1.2))) (RET ((-1), v, m1100_0))
def Dz (k : Nat) (v : An) (wx : Int) : Nat → Int → Int → Option (Int × An × Int)
 | 0, _, _ => none
 | n + 1, x8_0, m1100_0 => C7 (Dz k v wx n) some k v wx x8_0 m1100_0
theorem Xau {β : Type} (k : Nat) (v : An) (wx : Int) (K : KT β) (n : Nat) : ∀ (x8_0 m1100_0 : Int), Kb k v wx K n x8_0 m1100_0 =
  (Dz k v wx n x8_0 m1100_0).bind fun r => K (F215_2_O.put r) := by
 induction n with
 | zero => intros; rfl
 | succ n ih =>
  intro x8_0 m1100_0
  refine Eq.trans (b := C7 (Kb k v wx K n) (fun r => K (F215_2_O.put r)) k v wx x8_0 m1100_0) (by kernel_rfl) ?_
  rw [Dz]
  simp only [C7, z1, z2, z3, z4, z5, z6, z7, z8, ih]
def I9 {β : Type} (LP0 : Int → Int → Option β) (k : Nat) (v : An) (wx : Int) : Option β := LP0 0 wx
def J9 (k : Nat) (v : An) (wx : Int) : Option (Int × An × Int) := I9 (Dz k v wx k) k v wx
theorem Xnb {β : Type} (k : Nat) (v : An) (wx : Int) (K : KT β) : Ag (Nw k) Tryz.f215 (PsT.put Uf (v, (wx, ()), ())) K = (J9 k v wx).bind fun r => K (F215_2_O.put r) :=
 Eq.trans (b := I9 (Kb k v wx K k) k v wx) (by kernel_rfl) (by simp only [J9, I9, z1, z2, z3, z4, z5, z6, z7, z8, Xau])
def Xb3 (k : Nat) : FD := ⟨215, Uf, F215_2_O, J9 k⟩
theorem Xs7 (k : Nat) : (Xb3 k).Ok Tryz.prog := ⟨fun x => Aa (Ua [15] (Af (.c (X8l k) .n)) _ _ _ _) Ah Tryz.func215 rfl rfl (Xnb k _ _ some), .of (by kernel_rfl)⟩
end
end Go.Proofs.YtdmepjjepogddaaGreat.Gn
end

section
set_option linter.unusedVariables false
set_option linter.unusedSimpArgs false
namespace Go.Proofs.YtdmepjjepogddaaGreat.Gn
open Go.Rf IntKind
noncomputable section
def Yeg : Nat → Hint
 | 0 => ⟨[], pl 1100 1 []⟩
 | _ => ⟨[], []⟩
abbrev Xaz (k : Nat) : Env := A6 (Aw [Xb3 k]) Yeg .own [(false, 1100)] k
abbrev Xez : List PA := [.one (.sl .own A4), .fc 213 [mI]]
abbrev F211_O : RO := ⟨[.v], [.sl .sown A4, mI]⟩
noncomputable def Ybb {β : Type} (k : Nat) (v : An) (wx : Int) (K : KT β) : Ex → St → Option β := Be (Xaz k) Tryz.f211 (PsT.put Xez (v, (wx, ()), ())) K
def X2d (v : An) (wx : Int) (m1100_0 : Int) : St := ⟨dz 42 [], [iM 1100 m1100_0]⟩
noncomputable def Wh {β : Type} (k : Nat) (v : An) (wx : Int) (K : KT β) (n : Nat) (m1100_0 : Int) : Option β := A0 (Xaz k) Tryz.f211 [1, 1, 1, 0, 1, 0] 0 (Ad (Xaz k) [1, 1, 1, 0, 1, 0] (Ae Tryz.f211) 0 (Ybb k v wx K)) n (X2d v wx m1100_0)
def Rb {β : Type} (k : Nat) (v : An) (wx : Int) (m1100_0 : Int) : Option β := none
def Xg (k : Nat) (v : An) (wx : Int) : Nat → Int → Option (An × Int)
 | 0, _ => none
 | n + 1, m1100_0 => Rb k v wx m1100_0
theorem Xgt {β : Type} (k : Nat) (v : An) (wx : Int) (K : KT β) (n : Nat) : ∀ (m1100_0 : Int), Wh k v wx K n m1100_0 =
  (Xg k v wx n m1100_0).bind fun r => K (F211_O.put r) := by
 induction n with
 | zero => intros; rfl
 | succ n ih =>
  intro m1100_0
  refine Eq.trans (b := Rb k v wx m1100_0) (by kernel_rfl) ?_
  rw [Xg]
  simp only [Rb, z1, z2, z3, z4, z5, z6, z7, z8, ih]
def Uu {β : Type} (LP0 : Int → Option β) (RET : (An × Int) → Option β) (k : Nat) (v : An) (wx : Int) : Option β := (J9 k v wx).bind fun b1 => cond (b1.1 == (-1)) (RET b1.2) (LP0 b1.2.2)
def Xc5 (k : Nat) (v : An) (wx : Int) : Option (An × Int) := Uu (Xg k v wx k) some k v wx
theorem X0d {β : Type} (k : Nat) (v : An) (wx : Int) (K : KT β) : Ag (Xaz k) Tryz.f211 (PsT.put Xez (v, (wx, ()), ())) K = (Xc5 k v wx).bind fun r => K (F211_O.put r) :=
 Eq.trans (b := Uu (Wh k v wx K k) (fun r => K (F211_O.put r)) k v wx) (by kernel_rfl) (by simp only [Xc5, Uu, z1, z2, z3, z4, z5, z6, z7, z8, Xgt])
def Xwx (k : Nat) : FD := ⟨211, Xez, F211_O, Xc5 k⟩
theorem X8c (k : Nat) : (Xwx k).Ok Tryz.prog := ⟨fun x => Aa (Ai (Af (.c (Xs7 k) .n)) _ _ _ _) Ah Tryz.func211 rfl rfl (X0d k _ _ some), .of (by kernel_rfl)⟩
abbrev Ycu (k : Nat) : Env := A6 (Aw [Xh k]) Ap .own [(false, 1000), (false, 1001), (false, 1002), (false, 1003), (false, 1004), (false, 1005), (false, 1006), (false, 1007), (false, 1008)] k
abbrev Xtp : List PA := [.agg (.pair (.sl .ro Al) mI), .p (.pair mI Da)]
abbrev F216_O : RO := ⟨[.v], [mB, .pair mI Da]⟩
def Xbm {β : Type} (RET : (Bool × (den Al)) → Option β) (k : Nat) (v : (den A4)) (w : (den Al)) : Option β := cond (decide (0 < (v.1.length : Int))) ((Xf7 k (Ac v.1 0) w).bind fun b1 => RET (b1, w)) none
def Xnq := Xbm (β := Bool × (den Al)) some
theorem Xyw {β : Type} (k : Nat) (v : (den A4)) (w : (den Al)) (K : KT β) : Ag (Ycu k) Tryz.f216 (PsT.put Xtp (v, w, ())) K = (Xnq k v w).bind fun r => K (F216_O.put r) :=
 Eq.trans (b := Xbm (fun r => K (F216_O.put r)) k v w) (by kernel_rfl) (by simp only [Xnq, Xbm, z1, z2, z3, z4, z5, z6, z7, z8, A1, Bo])
def Xt5 (k : Nat) : FD := ⟨216, Xtp, F216_O, Xnq k⟩
theorem Yb1 (k : Nat) : (Xt5 k).Ok Tryz.prog := ⟨fun x => Aa (Ai (Af (.c (Xh5 k) .n)) _ _ _ _) Ah Tryz.func216 rfl rfl (Xyw k _ _ some), .of (by kernel_rfl)⟩
def Xvl : Nat → Hint
 | 0 => ⟨pl 0 2 (pl 7 2 []), pl 0 1 (pl 1100 9 [])⟩
 | _ => ⟨[], []⟩
abbrev Ny (k : Nat) : Env := { A6 (Aw [Xt5 k]) Xvl .own [(true, 0), (false, 1100), (false, 1101), (false, 1102), (false, 1103), (false, 1104), (false, 1105), (false, 1106), (false, 1107), (false, 1108)] k with frz := [15] }
abbrev T4 : List PA := [.one (.lent .sown A4), .fc 216 [.pair mI Da]]
abbrev F215_3_O : RO := ⟨[.v], [mI, .sl .sown A4, .pair mI Da]⟩
noncomputable def Xvz {β : Type} (k : Nat) (v : An) (wx : (den Al)) (K : KT β) : Ex → St → Option β := Be (Ny k) Tryz.f215 (PsT.put T4 (v, (wx, ()), ())) K
def Xl9 (v : An) (wx : (den Al)) (x8_0 : Int) (m1100_0 : (den Al)) : St := ⟨(.one (.a (.cell 0) 0 0 none)) :: (.one (.fn 216 [((.cell 1100), 9, 0)])) :: dz 5 ((.one (vI (v.length : Int))) :: (.one (vI x8_0)) :: dz 10 []), (eM 0 (.s .sown A4 v)) :: (Bg 1100 (Cl (.pair mI Da) m1100_0) [])⟩
noncomputable def Jf {β : Type} (k : Nat) (v : An) (wx : (den Al)) (K : KT β) (n : Nat) (x8_0 : Int) (m1100_0 : (den Al)) : Option β := A0 (Ny k) Tryz.f215 [1, 0, 1, 0] 0 (Ad (Ny k) [1, 0, 1, 0] (Ae Tryz.f215) 0 (Xvz k v wx K)) n (Xl9 v wx x8_0 m1100_0)
def Ea {β : Type} (NX : Int → (den Al) → Option β) (RET : (Int × An × (den Al)) → Option β) (k : Nat) (v : An) (wx : (den Al)) (x8_0 : Int) (m1100_0 : (den Al)) : Option β := cond (decide (x8_0 < (v.length : Int))) (As x8_0 v ((Xnq k (Ac v x8_0) m1100_0).bind fun b1 => cond b1.1 (RET (x8_0, v, b1.2)) (NX (i64.wrap (x8_0 + 1)) b1.2))) (RET ((-1), v, m1100_0))
def E1 (k : Nat) (v : An) (wx : (den Al)) : Nat → Int → (den Al) → Option (Int × An × (den Al))
 | 0, _, _ => none
 | n + 1, x8_0, m1100_0 => Ea (E1 k v wx n) some k v wx x8_0 m1100_0
theorem Ye {β : Type} (k : Nat) (v : An) (wx : (den Al)) (K : KT β) (n : Nat) : ∀ (x8_0 : Int) (m1100_0 : (den Al)), Jf k v wx K n x8_0 m1100_0 =
  (E1 k v wx n x8_0 m1100_0).bind fun r => K (F215_3_O.put r) := by
 induction n with
 | zero => intros; rfl
 | succ n ih =>
  intro x8_0 m1100_0
  refine Eq.trans (b := Ea (Jf k v wx K n) (fun r => K (F215_3_O.put r)) k v wx x8_0 m1100_0) (by kernel_rfl) ?_
  rw [E1]
  simp only [Ea, z1, z2, z3, z4, z5, z6, z7, z8, A1, ih]
def Jz {β : Type} (LP0 : Int → (den Al) → Option β) (k : Nat) (v : An) (wx : (den Al)) : Option β := LP0 0 wx
def I5 (k : Nat) (v : An) (wx : (den Al)) : Option (Int × An × (den Al)) := Jz (E1 k v wx k) k v wx
theorem Xou {β : Type} (k : Nat) (v : An) (wx : (den Al)) (K : KT β) : Ag (Ny k) Tryz.f215 (PsT.put T4 (v, (wx, ()), ())) K = (I5 k v wx).bind fun r => K (F215_3_O.put r) :=
 Eq.trans (b := Jz (Jf k v wx K k) k v wx) (by kernel_rfl) (by simp only [I5, Jz, z1, z2, z3, z4, z5, z6, z7, z8, A1, Ye])
def Xd0 (k : Nat) : FD := ⟨215, T4, F215_3_O, I5 k⟩
theorem Xtr (k : Nat) : (Xd0 k).Ok Tryz.prog := ⟨fun x => Aa (Ua [15] (Af (.c (Yb1 k) .n)) _ _ _ _) Ah Tryz.func215 rfl rfl (Xou k _ _ some), .of (by kernel_rfl)⟩
abbrev X8f (k : Nat) : Env := A6 (Aw [X1 k]) Ap .own [(false, 1000), (false, 1001), (false, 1002), (false, 1003), (false, 1004), (false, 1005), (false, 1006), (false, 1007), (false, 1008)] k
abbrev Xp8 : List PA := [.agg (.pair mI Da), .p (.pair mI Da)]
abbrev F273_O : RO := ⟨[.v], [mB, .pair mI Da]⟩
def Yn {β : Type} (RET : (Bool × (den Al)) → Option β) (k : Nat) (v w : (den Al)) : Option β := cond (v.2.2.2.2.2.1 == w.2.2.2.2.2.1) (cond (v.2.2.2.2.2.2.1 == w.2.2.2.2.2.2.1) ((Xdb k v.2.2.2.2.2.2.2.2 w.2.2.2.2.2.2.2.2).bind fun b1 => RET (b1, w)) (RET (false, w))) (RET (false, w))
def Xoi := Yn (β := Bool × (den Al)) some
theorem X0j {β : Type} (k : Nat) (v w : (den Al)) (K : KT β) : Ag (X8f k) Tryz.f273 (PsT.put Xp8 (v, w, ())) K = (Xoi k v w).bind fun r => K (F273_O.put r) :=
 Eq.trans (b := Yn (fun r => K (F273_O.put r)) k v w) (by kernel_rfl) (by simp only [Xoi, Yn, z1, z2, z3, z4, z5, z6, z7, z8, A1])
def Xxw (k : Nat) : FD := ⟨273, Xp8, F273_O, Xoi k⟩
theorem Yeo (k : Nat) : (Xxw k).Ok Tryz.prog := ⟨fun x => Aa (Ai (Af (.c (Xhc k) .n)) _ _ _ _) Ah Tryz.func273 rfl rfl (X0j k _ _ some), .of (by kernel_rfl)⟩
def Ygr : Nat → Hint
 | 0 => ⟨pl 0 2 (pl 7 2 []), pl 1100 9 []⟩
 | _ => ⟨[], []⟩
abbrev Xj (k : Nat) : Env := A6 (Aw [Xxw k]) Ygr .own [(false, 1100), (false, 1101), (false, 1102), (false, 1103), (false, 1104), (false, 1105), (false, 1106), (false, 1107), (false, 1108)] k
abbrev Xeg : List PA := [.one (.sl .ro Al), .fc 273 [.pair mI Da]]
abbrev F274_O : RO := ⟨[.v], [mI, .pair mI Da]⟩
noncomputable def X7m {β : Type} (k : Nat) (v : Aq) (wx : (den Al)) (K : KT β) : Ex → St → Option β := Be (Xj k) Tryz.f274 (PsT.put Xeg (v, (wx, ()), ())) K
def X14 (v : Aq) (wx : (den Al)) (x8_0 : Int) (m1100_0 : (den Al)) : St := ⟨(.one (.s .ro Al v)) :: (.one (.fn 273 [((.cell 1100), 9, 0)])) :: dz 5 ((.one (vI (v.length : Int))) :: (.one (vI x8_0)) :: dz 10 []), Bg 1100 (Cl (.pair mI Da) m1100_0) []⟩
noncomputable def Qw {β : Type} (k : Nat) (v : Aq) (wx : (den Al)) (K : KT β) (n : Nat) (x8_0 : Int) (m1100_0 : (den Al)) : Option β := A0 (Xj k) Tryz.f274 [1, 0, 1, 0] 0 (Ad (Xj k) [1, 0, 1, 0] (Ae Tryz.f274) 0 (X7m k v wx K)) n (X14 v wx x8_0 m1100_0)
def Lc {β : Type} (NX : Int → (den Al) → Option β) (RET : (Int × (den Al)) → Option β) (k : Nat) (v : Aq) (wx : (den Al)) (x8_0 : Int) (m1100_0 : (den Al)) : Option β := cond (decide (x8_0 < (v.length : Int))) (As x8_0 v ((Xoi k (Ac v x8_0) m1100_0).bind fun b1 => cond b1.1 (RET (x8_0, b1.2)) (NX (i64.wrap (x8_0 + 1)) b1.2))) (RET ((-1), m1100_0))
def K7 (k : Nat) (v : Aq) (wx : (den Al)) : Nat → Int → (den Al) → Option (Int × (den Al))
 | 0, _, _ => none
 | n + 1, x8_0, m1100_0 => Lc (K7 k v wx n) some k v wx x8_0 m1100_0
theorem Xgy {β : Type} (k : Nat) (v : Aq) (wx : (den Al)) (K : KT β) (n : Nat) : ∀ (x8_0 : Int) (m1100_0 : (den Al)), Qw k v wx K n x8_0 m1100_0 =
  (K7 k v wx n x8_0 m1100_0).bind fun r => K (F274_O.put r) := by
 induction n with
 | zero => intros; rfl
 | succ n ih =>
  intro x8_0 m1100_0
  refine Eq.trans (b := Lc (Qw k v wx K n) (fun r => K (F274_O.put r)) k v wx x8_0 m1100_0) (by kernel_rfl) ?_
  rw [K7]
  simp only [Lc, z1, z2, z3, z4, z5, z6, z7, z8, A1, ih]
def Xfu {β : Type} (LP0 : Int → (den Al) → Option β) (k : Nat) (v : Aq) (wx : (den Al)) : Option β := LP0 0 wx
def Xry (k : Nat) (v : Aq) (wx : (den Al)) : Option (Int × (den Al)) := Xfu (K7 k v wx k) k v wx
theorem X2r {β : Type} (k : Nat) (v : Aq) (wx : (den Al)) (K : KT β) : Ag (Xj k) Tryz.f274 (PsT.put Xeg (v, (wx, ()), ())) K = (Xry k v wx).bind fun r => K (F274_O.put r) :=
 Eq.trans (b := Xfu (Qw k v wx K k) k v wx) (by kernel_rfl) (by simp only [Xry, Xfu, z1, z2, z3, z4, z5, z6, z7, z8, A1, Xgy])
def Xqv (k : Nat) : FD := ⟨274, Xeg, F274_O, Xry k⟩
theorem Ydc (k : Nat) : (Xqv k).Ok Tryz.prog := ⟨fun x => Aa (Ai (Af (.c (Yeo k) .n)) _ _ _ _) Ah Tryz.func274 rfl rfl (X2r k _ _ some), .of (by kernel_rfl)⟩
abbrev X8x (k : Nat) : Env := A6 (Aw [Xqv k]) Ap .own [(false, 1100), (false, 1101), (false, 1102), (false, 1103), (false, 1104), (false, 1105), (false, 1106), (false, 1107), (false, 1108)] k
abbrev Xwd : List PA := [.one (.sl .ro Al), .fc 273 [.pair mI Da]]
abbrev F272_O : RO := ⟨[.v], [mB, .pair mI Da]⟩
def Xml (k : Nat) (v : Aq) (wx : (den Al)) : Option (Bool × (den Al)) := (Xry k v wx).bind fun b1 => some (decide (b1.1 ≥ 0), b1.2)
theorem X2q {β : Type} (k : Nat) (v : Aq) (wx : (den Al)) (K : KT β) : Ag (X8x k) Tryz.f272 (PsT.put Xwd (v, (wx, ()), ())) K = (Xml k v wx).bind fun r => K (F272_O.put r) :=
 Eq.trans (b := (Xry k v wx).bind fun b1 => K (F272_O.put (decide (b1.1 ≥ 0), b1.2))) (by kernel_rfl) (by simp only [Xml, z1, z2, z3, z4, z5, z6, z7, z8, A1])
def Xxa (k : Nat) : FD := ⟨272, Xwd, F272_O, Xml k⟩
theorem Yba (k : Nat) : (Xxa k).Ok Tryz.prog := ⟨fun x => Aa (Ai (Af (.c (Ydc k) .n)) _ _ _ _) Ah Tryz.func272 rfl rfl (X2q k _ _ some), .of (by kernel_rfl)⟩
abbrev Yee (k : Nat) : Env := A6 Bn Ap .own [(false, 1000), (false, 1001), (false, 1002), (false, 1003), (false, 1004), (false, 1005), (false, 1006), (false, 1007), (false, 1008)] k
abbrev Xre : List PA := [.agg (.pair mI Da), .p (.pair mI Da)]
abbrev F275_O : RO := ⟨[.v], [mB, .pair mI Da]⟩
def Xm4 (k : Nat) (v w : (den Al)) : Option (Bool × (den Al)) := some (decide (v.2.2.2.2.2.1 > w.2.2.2.2.2.1), w)
theorem X0n {β : Type} (k : Nat) (v w : (den Al)) (K : KT β) : Ag (Yee k) Tryz.f275 (PsT.put Xre (v, w, ())) K = (Xm4 k v w).bind fun r => K (F275_O.put r) :=
 Eq.trans (b := K (F275_O.put (decide (v.2.2.2.2.2.1 > w.2.2.2.2.2.1), w))) (by kernel_rfl) (by simp only [Xm4, z1, z2, z3, z4, z5, z6, z7, z8, A1])
def Xsw (k : Nat) : FD := ⟨275, Xre, F275_O, Xm4 k⟩
theorem X71 (k : Nat) : (Xsw k).Ok Tryz.prog := ⟨fun x => Aa (Ai .none _ _ _ _) Ah Tryz.func275 rfl rfl (X0n k _ _ some), .of (by kernel_rfl)⟩
def Xxj : Nat → Hint
 | 0 => ⟨pl 0 2 (pl 7 2 []), pl 1100 9 []⟩
 | _ => ⟨[], []⟩
abbrev N5 (k : Nat) : Env := A6 (Aw [Xsw k]) Xxj .own [(false, 1100), (false, 1101), (false, 1102), (false, 1103), (false, 1104), (false, 1105), (false, 1106), (false, 1107), (false, 1108)] k
abbrev T6 : List PA := [.one (.sl .ro Al), .fc 275 [.pair mI Da]]
abbrev F274_2_O : RO := ⟨[.v], [mI, .pair mI Da]⟩
noncomputable def Xva {β : Type} (k : Nat) (v : Aq) (wx : (den Al)) (K : KT β) : Ex → St → Option β := Be (N5 k) Tryz.f274 (PsT.put T6 (v, (wx, ()), ())) K
def Xnz (v : Aq) (wx : (den Al)) (x8_0 : Int) (m1100_0 : (den Al)) : St := ⟨(.one (.s .ro Al v)) :: (.one (.fn 275 [((.cell 1100), 9, 0)])) :: dz 5 ((.one (vI (v.length : Int))) :: (.one (vI x8_0)) :: dz 10 []), Bg 1100 (Cl (.pair mI Da) m1100_0) []⟩
noncomputable def J3 {β : Type} (k : Nat) (v : Aq) (wx : (den Al)) (K : KT β) (n : Nat) (x8_0 : Int) (m1100_0 : (den Al)) : Option β := A0 (N5 k) Tryz.f274 [1, 0, 1, 0] 0 (Ad (N5 k) [1, 0, 1, 0] (Ae Tryz.f274) 0 (Xva k v wx K)) n (Xnz v wx x8_0 m1100_0)
def Fy {β : Type} (NX : Int → (den Al) → Option β) (RET : (Int × (den Al)) → Option β) (k : Nat) (v : Aq) (wx : (den Al)) (x8_0 : Int) (m1100_0 : (den Al)) : Option β := cond (decide (x8_0 < (v.length : Int))) (As x8_0 v ((Xm4 k (Ac v x8_0) m1100_0).bind fun b1 => cond b1.1 (RET (x8_0, b1.2)) (NX (i64.wrap (x8_0 + 1)) b1.2))) (RET ((-1), m1100_0))
def Ey (k : Nat) (v : Aq) (wx : (den Al)) : Nat → Int → (den Al) → Option (Int × (den Al))
 | 0, _, _ => none
 | n + 1, x8_0, m1100_0 => Fy (Ey k v wx n) some k v wx x8_0 m1100_0
theorem Yq {β : Type} (k : Nat) (v : Aq) (wx : (den Al)) (K : KT β) (n : Nat) : ∀ (x8_0 : Int) (m1100_0 : (den Al)), J3 k v wx K n x8_0 m1100_0 =
  (Ey k v wx n x8_0 m1100_0).bind fun r => K (F274_2_O.put r) := by
 induction n with
 | zero => intros; rfl
 | succ n ih =>
  intro x8_0 m1100_0
  refine Eq.trans (b := Fy (J3 k v wx K n) (fun r => K (F274_2_O.put r)) k v wx x8_0 m1100_0) (by kernel_rfl) ?_
  rw [Ey]
  simp only [Fy, z1, z2, z3, z4, z5, z6, z7, z8, A1, ih]
def Vp {β : Type} (LP0 : Int → (den Al) → Option β) (k : Nat) (v : Aq) (wx : (den Al)) : Option β := LP0 0 wx
def Xbf (k : Nat) (v : Aq) (wx : (den Al)) : Option (Int × (den Al)) := Vp (Ey k v wx k) k v wx
theorem Xoy {β : Type} (k : Nat) (v : Aq) (wx : (den Al)) (K : KT β) : Ag (N5 k) Tryz.f274 (PsT.put T6 (v, (wx, ()), ())) K = (Xbf k v wx).bind fun r => K (F274_2_O.put r) :=
 Eq.trans (b := Vp (J3 k v wx K k) k v wx) (by kernel_rfl) (by simp only [Xbf, Vp, z1, z2, z3, z4, z5, z6, z7, z8, A1, Yq])
def Xcy (k : Nat) : FD := ⟨274, T6, F274_2_O, Xbf k⟩
theorem Xqx (k : Nat) : (Xcy k).Ok Tryz.prog := ⟨fun x => Aa (Ai (Af (.c (X71 k) .n)) _ _ _ _) Ah Tryz.func274 rfl rfl (Xoy k _ _ some), .of (by kernel_rfl)⟩
abbrev Yei (k : Nat) : Env := A6 Bn Ap .own [] k
abbrev Xup : List PA := [.one (.sl .ro Al)]
abbrev F277_O : RO := ⟨[.v], [.sl .sown Al]⟩
def Z9 {β : Type} (RET : Aq → Option β) (k : Nat) (v : Aq) : Option β := cond (decide (v.length = 0)) none (Bt (([] : Aq).length) (v.length) 80 (RET ([] ++ v)))
def Xe2 := Z9 (β := Aq) some
theorem Xy0 {β : Type} (k : Nat) (v : Aq) (K : KT β) : Ag (Yei k) Tryz.f277 (PsT.put Xup (v, ())) K = (Xe2 k v).bind fun r => K (F277_O.put r) :=
 Eq.trans (b := Z9 (fun r => K (F277_O.put r)) k v) (by kernel_rfl) (by simp only [Xe2, Z9, z1, z2, z3, z4, z5, z6, z7, z8])
def Xqc (k : Nat) : FD := ⟨277, Xup, F277_O, Xe2 k⟩
theorem Yd1 (k : Nat) : (Xqc k).Ok Tryz.prog := ⟨fun x => Aa (Ai .none _ _ _ _) Ah Tryz.func277 rfl rfl (Xy0 k _ some), .of (by kernel_rfl)⟩
abbrev X9e (k : Nat) : Env := A6 Bn Ap .own [] k
abbrev Xr1 : List PA := [.one (.sl .sown Al), .one mI, .one (.sl .ro Al)]
abbrev F276_O : RO := ⟨[.v], [.sl .sown Al]⟩
def X2 {β : Type} (RET : Aq → Option β) (k : Nat) (v : Aq) (w : Int) (p : Aq) : Option β := cond (decide (0 ≤ w) && decide (w ≤ (v.length : Int))) (cond ((p.length : Int) == 0) (RET v) (cond (w == (v.length : Int)) (Bt (v.length) (p.length) 80 (RET (v ++ p))) none)) none
def Xhf := X2 (β := Aq) some
theorem Xyn {β : Type} (k : Nat) (v : Aq) (w : Int) (p : Aq) (K : KT β) : Ag (X9e k) Tryz.f276 (PsT.put Xr1 (v, w, p, ())) K = (Xhf k v w p).bind fun r => K (F276_O.put r) :=
 Eq.trans (b := X2 (fun r => K (F276_O.put r)) k v w p) (by kernel_rfl) (by simp only [Xhf, X2, z1, z2, z3, z4, z5, z6, z7, z8])
def Xp9 (k : Nat) : FD := ⟨276, Xr1, F276_O, Xhf k⟩
theorem Ygj (k : Nat) : (Xp9 k).Ok Tryz.prog := ⟨fun x => Aa (Ai .none _ _ _ _) Ah Tryz.func276 rfl rfl (Xyn k _ _ _ some), .of (by kernel_rfl)⟩
abbrev Yds (k : Nat) : Env := A6 (Aw [Xxa k, Xfd k, Xcy k, Xqc k, Xp9 k, Xgq k]) Ap .own [] k
abbrev Xu1 : List PA := [.agg (.pair (.sl .ro Al) mI), .agg (.pair mI Da)]
abbrev F218_O : RO := ⟨[.a, .v], [.pair (.sl .own Al) mI, mB]⟩
def Zw {β : Type} (RET : (den A4) × Bool → Option β) (k : Nat) (v : (den A4)) (w : (den Al)) : Option β := Bo v fun v0 v1 => (Xml k v0 w).bind fun b1 => cond b1.1 ((Tl k v).bind fun b2 => RET (b2, true)) ((Xbf k v0 b1.2).bind fun b3 => cond (decide (b3.1 < 0)) ((Xe2 k v0).bind fun b4 => (Xhf k b4 (v0.length : Int) [b3.2]).bind fun b5 => (Xei k (b5, v1)).bind fun b6 => cond (!b6) (RET (([], 0), false)) ((Tl k (b5, v1)).bind fun b7 => RET (b7, true))) ((Xe2 k v0).bind fun b8 => (Xhf k b8 b3.1 [b3.2]).bind fun b9 => (Xei k (b9, v1)).bind fun b10 => cond (!b10) (RET (([], 0), false)) ((Tl k (b9, v1)).bind fun b11 => RET (b11, true))))
def Xmo := Zw (β := (den A4) × Bool) some
theorem X10 {β : Type} (k : Nat) (v : (den A4)) (w : (den Al)) (K : KT β) : Ag (Yds k) Tryz.f218 (PsT.put Xu1 (v, w, ())) K = (Xmo k v w).bind fun r => K (F218_O.put r) :=
 Eq.trans (b := Zw (fun r => K (F218_O.put r)) k v w) (by kernel_rfl) (by simp only [Xmo, Zw, z1, z2, z3, z4, z5, z6, z7, z8, A1, Bo])
def Xwo (k : Nat) : FD := ⟨218, Xu1, F218_O, Xmo k⟩
theorem Ygq (k : Nat) : (Xwo k).Ok Tryz.prog := ⟨fun x => Aa (Ai (Af (.c (Yba k) (.c (Xu3 k) (.c (Xqx k) (.c (Yd1 k) (.c (Ygj k) (.c (Xvr k) .n))))))) _ _ _ _) Ah Tryz.func218 rfl rfl (X10 k _ _ some), .of (by kernel_rfl)⟩
abbrev Ybd : List PA := [.one (.sl .sown A4), .one mI, .one mI]
abbrev X82 : RO := ⟨[.v], [.sl .own A4]⟩
def X3n (k : Nat) (v : An) (w p : Int) : Option (An) := De.del v w p
def Xps (k : Nat) : FD := ⟨219, Ybd, X82, X3n k⟩
theorem X8k (k : Nat) : (Xps k).Ok Tryz.prog := ⟨fun x => De.con x.1 x.2.1 x.2.2.1, .of (by kernel_rfl)⟩
def Yap : Nat → Hint
 | 0 => ⟨pl 1 2 (pl 4 2 (pl 15 3 [])), pl 1000 2 (pl 2000 9 (pl 4000 8 ((4008, .own .own (.int .u8) []) :: [])))⟩
 | _ => ⟨[], []⟩
abbrev Xar (k : Nat) : Env := A6 (Aw [Qy k]) Yap .own [] k
abbrev Xf4 : List PA := [.agg (.pair (.sl .ro Al) mI)]
abbrev F220_O : RO := ⟨[.a, .v], [.pair mI m_9, mB]⟩
noncomputable def Ygp {β : Type} (k : Nat) (v : (den A4)) (K : KT β) : Ex → St → Option β := Be (Xar k) Tryz.f220 (PsT.put Xf4 (v, ())) K
def Xyp (v : (den A4)) (x5_0 x17_0 : Int) (m4000_0 : (den Al)) : St := ⟨(.one .d) :: (.one (.ptr (.cell 1000) 2 0)) :: (.one (.ptr (.cell 2000) 9 0)) :: (.one .d) :: (.one (.ptr (.cell 4000) 9 0)) :: (.one (vI x5_0)) :: dz 9 ((.one (.s .ro Al v.1)) :: (.one (vI (v.1.length : Int))) :: (.one (vI x17_0)) :: dz 33 []), Bg 1000 (Cl (.pair (.sl .ro Al) mI) v) (Bg 2000 (Cl (.pair mI m_9) (0, 0, 0, 0, 0, 0, false, false, [])) (Bg 4000 (Cl (.pair mI m_9) m4000_0) []))⟩
noncomputable def Qu {β : Type} (k : Nat) (v : (den A4)) (K : KT β) (n : Nat) (x5_0 x17_0 : Int) (m4000_0 : (den Al)) : Option β := A0 (Xar k) Tryz.f220 [1, 1, 1, 1, 0, 1, 0] 0 (Ad (Xar k) [1, 1, 1, 1, 0, 1, 0] (Ae Tryz.f220) 0 (Ygp k v K)) n (Xyp v x5_0 x17_0 m4000_0)
def G3 {β : Type} (NX : Int → Int → (den Al) → Option β) (RET : (den Al) × Bool → Option β) (k : Nat) (v : (den A4)) (x5_0 x17_0 : Int) (m4000_0 : (den Al)) : Option β := Bo v fun v0 _ => cond (decide (x17_0 < (v0.length : Int))) (As x17_0 v0 (cond ((Ac v0 x17_0).2.2.2.2.2.1 != x5_0) (RET ((0, 0, 0, 0, 0, 0, false, false, []), false)) (Bt (m4000_0.2.2.2.2.2.2.2.2.length) ((Ac v0 x17_0).2.2.2.2.2.2.2.2.length) 1 (NX (i64.wrap (x5_0 + ((Ac v0 x17_0).2.2.2.2.2.2.2.2.length : Int))) (i64.wrap (x17_0 + 1)) (m4000_0.1, m4000_0.2.1, m4000_0.2.2.1, m4000_0.2.2.2.1, m4000_0.2.2.2.2.1, m4000_0.2.2.2.2.2.1, m4000_0.2.2.2.2.2.2.1, m4000_0.2.2.2.2.2.2.2.1, m4000_0.2.2.2.2.2.2.2.2 ++ (Ac v0 x17_0).2.2.2.2.2.2.2.2))))) (As (i64.wrap ((v0.length : Int) - 1)) v0 (cond (Ac v0 (i64.wrap ((v0.length : Int) - 1))).2.2.2.2.2.2.1 (RET ((0, 0, 0, 0, 0, 0, false, false, []), false)) ((Sj k (m4000_0.1, m4000_0.2.1, m4000_0.2.2.1, m4000_0.2.2.2.1, m4000_0.2.2.2.2.1, m4000_0.2.2.2.2.2.1, false, m4000_0.2.2.2.2.2.2.2)).bind fun b2 => RET (b2, true))))
def H7 (k : Nat) (v : (den A4)) : Nat → Int → Int → (den Al) → Option ((den Al) × Bool)
 | 0, _, _, _ => none
 | n + 1, x5_0, x17_0, m4000_0 => G3 (H7 k v n) some k v x5_0 x17_0 m4000_0
theorem Xg2 {β : Type} (k : Nat) (v : (den A4)) (K : KT β) (n : Nat) : ∀ (x5_0 x17_0 : Int) (m4000_0 : (den Al)), Qu k v K n x5_0 x17_0 m4000_0 =
  (H7 k v n x5_0 x17_0 m4000_0).bind fun r => K (F220_O.put r) := by
 induction n with
 | zero => intros; rfl
 | succ n ih =>
  intro x5_0 x17_0 m4000_0
  refine Eq.trans (b := G3 (Qu k v K n) (fun r => K (F220_O.put r)) k v x5_0 x17_0 m4000_0) (by kernel_rfl) ?_
  rw [H7]
  simp only [G3, z1, z2, z3, z4, z5, z6, z7, z8, Bo, ih]
def Yy {β : Type} (LP0 : Int → Int → (den Al) → Option β) (k : Nat) (v : (den A4)) : Option β := cond (decide (0 < (v.1.length : Int))) ((Sj k (Ac v.1 0)).bind fun b1 => LP0 0 0 (b1.1, b1.2.1, b1.2.2.1, b1.2.2.2.1, b1.2.2.2.2.1, b1.2.2.2.2.2.1, b1.2.2.2.2.2.2.1, b1.2.2.2.2.2.2.2.1, [])) none
def Xm6 (k : Nat) (v : (den A4)) : Option ((den Al) × Bool) := Yy (H7 k v k) k v
theorem X2y {β : Type} (k : Nat) (v : (den A4)) (K : KT β) : Ag (Xar k) Tryz.f220 (PsT.put Xf4 (v, ())) K = (Xm6 k v).bind fun r => K (F220_O.put r) :=
 Eq.trans (b := Yy (Qu k v K k) k v) (by kernel_rfl) (by simp only [Xm6, Yy, z1, z2, z3, z4, z5, z6, z7, z8, Bo, Xg2])
def Xui (k : Nat) : FD := ⟨220, Xf4, F220_O, Xm6 k⟩
theorem X9s (k : Nat) : (Xui k).Ok Tryz.prog := ⟨fun x => Aa (Ai (Af (.c (Va k) .n)) _ _ _ _) Ah Tryz.func220 rfl rfl (X2y k _ some), .of (by kernel_rfl)⟩
abbrev Ybi (k : Nat) : Env := { A6 (Aw [Xs6 k, Xc9 k, Iv k, Xu2 k, Xwx k, Qy k, Xd0 k, Xwo k, Xps k, Xui k]) Ap .own [] k with frz := [70] }
abbrev Xrs : List PA := [.one (.sl .ro A4), .agg (.pair mI Da), .one mI]
abbrev F141_O : RO := ⟨[.v, .a, .v], [.sl .own A4, .pair mI m_9, mB]⟩
def Nx {β : Type} (k : Nat) (v : An) (w : (den Al)) (p : Int) (RET : (An × (den Al) × Bool) → Option β) (b5 : An × Int) : Option β := (I5 k b5.1 w).bind fun b8 => cond (decide (b8.1 < 0)) (Bt (b8.2.1.length) ([([b8.2.2], i64.wrap (b5.2 + 15))].length) 32 (cond (decide (0 ≤ (if 0 < (i64.wrap (((b8.2.1 ++ [([b8.2.2], i64.wrap (b5.2 + 15))]).length : Int) - 3)) then i64.wrap (((b8.2.1 ++ [([b8.2.2], i64.wrap (b5.2 + 15))]).length : Int) - 3) else 0)) && decide ((if 0 < (i64.wrap (((b8.2.1 ++ [([b8.2.2], i64.wrap (b5.2 + 15))]).length : Int) - 3)) then i64.wrap (((b8.2.1 ++ [([b8.2.2], i64.wrap (b5.2 + 15))]).length : Int) - 3) else 0) ≤ ((b8.2.1 ++ [([b8.2.2], i64.wrap (b5.2 + 15))]).length : Int))) ((Q8 k (((b8.2.1 ++ [([b8.2.2], i64.wrap (b5.2 + 15))]).take ((((b8.2.1 ++ [([b8.2.2], i64.wrap (b5.2 + 15))]).length : Int)).toNat)).drop ((if 0 < (i64.wrap (((b8.2.1 ++ [([b8.2.2], i64.wrap (b5.2 + 15))]).length : Int) - 3)) then i64.wrap (((b8.2.1 ++ [([b8.2.2], i64.wrap (b5.2 + 15))]).length : Int) - 3) else 0).toNat))).bind fun b9 => RET (b9, (0, 0, 0, 0, 0, 0, false, false, []), false)) none)) (As b8.1 b8.2.1 ((Xmo k (Ac b8.2.1 b8.1) b8.2.2).bind fun b10 => cond (!b10.2) ((X3n k b8.2.1 b8.1 (i64.wrap (b8.1 + 1))).bind fun b11 => (Q8 k b11).bind fun b12 => RET (b12, (0, 0, 0, 0, 0, 0, false, false, []), false)) ((Xm6 k b10.1).bind fun b13 => cond b13.2 ((X3n k b8.2.1 b8.1 (i64.wrap (b8.1 + 1))).bind fun b14 => (Q8 k b14).bind fun b15 => RET (b15, b13.1, true)) (As b8.1 b8.2.1 ((Q8 k (b8.2.1.set b8.1.toNat b10.1)).bind fun b16 => RET (b16, (0, 0, 0, 0, 0, 0, false, false, []), false))))))
def Re {β : Type} (RET : (An × (den Al) × Bool) → Option β) (k : Nat) (v : An) (w : (den Al)) (p : Int) : Option β := (Xdm k v).bind fun b1 => cond (!b1) (RET ([], (0, 0, 0, 0, 0, 0, false, false, []), false)) ((F89 k w).bind fun b2 => cond (!b2) (RET ([], (0, 0, 0, 0, 0, 0, false, false, []), false)) ((S6 k p 0 999985).bind fun b3 => cond (!b3) (RET ([], (0, 0, 0, 0, 0, 0, false, false, []), false)) ((Q8 k v).bind fun b4 => (Xc5 k b4 p).bind fun b5 => cond (w.2.2.2.2.2.1 == 0) (cond (!w.2.2.2.2.2.2.1) ((Q8 k b5.1).bind fun b6 => (Sj k w).bind fun b7 => RET (b6, b7, true)) (Nx k v w p RET b5)) (Nx k v w p RET b5))))
def Vh := Re (β := An × (den Al) × Bool) some
theorem X3l {β : Type} (k : Nat) (v : An) (w : (den Al)) (p : Int) (K : KT β) : Ag (Ybi k) Tryz.f141 (PsT.put Xrs (v, w, p, ())) K = (Vh k v w p).bind fun r => K (F141_O.put r) :=
 Eq.trans (b := Re (fun r => K (F141_O.put r)) k v w p) (by kernel_rfl) (by simp only [Vh, Re, Nx, z1, z2, z3, z4, z5, z6, z7, z8, A1])
def Xw2 (k : Nat) : FD := ⟨141, Xrs, F141_O, Vh k⟩
theorem Ycj (k : Nat) : (Xw2 k).Ok Tryz.prog := ⟨fun x => Aa (Ua [70] (Af (.c (X80 k) (.c (Xk7 k) (.c (Je k) (.c (X8a k) (.c (X8c k) (.c (Va k) (.c (Xtr k) (.c (Ygq k) (.c (X8k k) (.c (X9s k) .n))))))))))) _ _ _ _) Ah Tryz.func141 rfl rfl (X3l k _ _ _ some), .of (by kernel_rfl)⟩
end
end Go.Proofs.YtdmepjjepogddaaGreat.Gn
end

section
set_option linter.unusedVariables false
set_option linter.unusedSimpArgs false
namespace Go.Proofs.YtdmepjjepogddaaGreat.Gn
open Go.Rf IntKind
noncomputable section
def Yg7 : Nat → Hint
 | 0 => ⟨(15, .own .own A4 []) :: (pl 35 3 []), pl 33000 1 []⟩
 | _ => ⟨[], []⟩
abbrev Xlo (k : Nat) : Env := A6 (Aw [Xw7 k, Xw2 k, M0 k]) Yg7 .own [] k
abbrev Xx6 : List PA := [.one (.sl .ro sta), .one mI, .one mI, .one mI, .one mI, .one (.sl .ro (.int .u8))]
abbrev F66_O : RO := ⟨[.v, .v], [.sl .own (.int .u8), mB]⟩
noncomputable def Yh0 {β : Type} (k : Nat) (v : Ak) (w p q o : Int) (c : Aj) (K : KT β) : Ex → St → Option β := Be (Xlo k) Tryz.f66 (PsT.put Xx6 (v, w, p, q, o, c, ())) K
def Ybk (v : Ak) (w p q o : Int) (c : Aj) (x36_0 x37_0 : Int) (m33000_0 : Aq) (m15900_0 : An) : St := ⟨dz 15 ((.one (.a (.cell 15900) 0 0 none)) :: dz 19 ((.one (.a (.cell 33000) 0 0 none)) :: (.one (vI x36_0)) :: (.one (vI x37_0)) :: dz 16 [])), [eM 33000 (.s .own Al m33000_0), eM 15900 (.s .own A4 m15900_0)]⟩
noncomputable def Vu {β : Type} (k : Nat) (v : Ak) (w p q o : Int) (c : Aj) (K : KT β) (n : Nat) (x36_0 x37_0 : Int) (m33000_0 : Aq) (m15900_0 : An) : Option β := A0 (Xlo k) Tryz.f66 [1, 1, 1, 0, 1, 0] 0 (Ad (Xlo k) [1, 1, 1, 0, 1, 0] (Ae Tryz.f66) 0 (Yh0 k v w p q o c K)) n (Ybk v w p q o c x36_0 x37_0 m33000_0 m15900_0)
def Jw {β : Type} (NX : Int → Int → Aq → An → Option β) (RET : (Aj × Bool) → Option β) (k : Nat) (v : Ak) (w p q o : Int) (c : Aj) (x36_0 x37_0 : Int) (m33000_0 : Aq) (m15900_0 : An) : Option β := cond (decide (x37_0 < x36_0)) (As x37_0 m33000_0 ((Vh k m15900_0 (Ac m33000_0 x37_0) 0).bind fun b2 => cond b2.2.2 ((Pu k b2.2.1.2.2.2.2.2.2.2.2).bind fun b3 => RET (b3, true)) (NX x36_0 (i64.wrap (x37_0 + 1)) m33000_0 b2.1))) (RET ([], false))
def Jl (k : Nat) (v : Ak) (w p q o : Int) (c : Aj) : Nat → Int → Int → Aq → An → Option (Aj × Bool)
 | 0, _, _, _, _ => none
 | n + 1, x36_0, x37_0, m33000_0, m15900_0 => Jw (Jl k v w p q o c n) some k v w p q o c x36_0 x37_0 m33000_0 m15900_0
theorem Xn3 {β : Type} (k : Nat) (v : Ak) (w p q o : Int) (c : Aj) (K : KT β) (n : Nat) : ∀ (x36_0 x37_0 : Int) (m33000_0 : Aq) (m15900_0 : An), Vu k v w p q o c K n x36_0 x37_0 m33000_0 m15900_0 =
  (Jl k v w p q o c n x36_0 x37_0 m33000_0 m15900_0).bind fun r => K (F66_O.put r) := by
 induction n with
 | zero => intros; rfl
 | succ n ih =>
  intro x36_0 x37_0 m33000_0 m15900_0
  refine Eq.trans (b := Jw (Vu k v w p q o c K n) (fun r => K (F66_O.put r)) k v w p q o c x36_0 x37_0 m33000_0 m15900_0) (by kernel_rfl) ?_
  rw [Jl]
  simp only [Jw, z1, z2, z3, z4, z5, z6, z7, z8, ih]
def Xlq {β : Type} (LP0 : Int → Int → Aq → An → Option β) (k : Nat) (v : Ak) (w p q o : Int) (c : Aj) : Option β := As w v ((Xn8 k v w ((Ac v w).1, p, q, 64, o, 0, false, false, c)).bind fun b1 => LP0 (b1.1.length : Int) 0 b1.1 [])
def F66 (k : Nat) (v : Ak) (w p q o : Int) (c : Aj) : Option (Aj × Bool) := Xlq (Jl k v w p q o c k) k v w p q o c
theorem Yfm {β : Type} (k : Nat) (v : Ak) (w p q o : Int) (c : Aj) (K : KT β) : Ag (Xlo k) Tryz.f66 (PsT.put Xx6 (v, w, p, q, o, c, ())) K = (F66 k v w p q o c).bind fun r => K (F66_O.put r) :=
 Eq.trans (b := Xlq (Vu k v w p q o c K k) k v w p q o c) (by kernel_rfl) (by simp only [F66, Xlq, z1, z2, z3, z4, z5, z6, z7, z8, Xn3])
def X34 (k : Nat) : FD := ⟨66, Xx6, F66_O, F66 k⟩
theorem Ygs (k : Nat) : (X34 k).Ok Tryz.prog := ⟨fun x => Aa (Ai (Af (.c (Yc0 k) (.c (Ycj k) (.c (Qn k) .n)))) _ _ _ _) Ah Tryz.func66 rfl rfl (Yfm k _ _ _ _ _ _ some), .of (by kernel_rfl)⟩
abbrev Ygt (k : Nat) : Env := A6 (Aw [Xu7 k, Iv k, Mb k, X34 k]) Ap .own [] k
abbrev X5c : List PA := [.one (.sl .ro sta), .one mI, .one mI, .one mI, .one mI, .one (.sl .ro (.int .u8))]
abbrev F16_O : RO := ⟨[.v, .v], [.sl .own (.int .u8), mB]⟩
def Xjz {β : Type} (RET : (Aj × Bool) → Option β) (k : Nat) (v : Ak) (w p q o : Int) (c : Aj) : Option β := (F31 k v).bind fun b1 => cond (!b1) (RET ([], false)) ((S6 k w 0 (i64.wrap ((v.length : Int) - 1))).bind fun b2 => cond (!b2) (RET ([], false)) ((F65 k p).bind fun b3 => cond (!b3) (RET ([], false)) ((S6 k q 0 255).bind fun b4 => cond (!b4) (RET ([], false)) ((S6 k o 0 255).bind fun b5 => cond (!b5) (RET ([], false)) (cond (decide ((c.length : Int) > 48)) (RET ([], false)) ((F66 k v w p q o c).bind fun b6 => RET b6))))))
def F16 := Xjz (β := Aj × Bool) some
theorem Yfh {β : Type} (k : Nat) (v : Ak) (w p q o : Int) (c : Aj) (K : KT β) : Ag (Ygt k) Tryz.f16 (PsT.put X5c (v, w, p, q, o, c, ())) K = (F16 k v w p q o c).bind fun r => K (F16_O.put r) :=
 Eq.trans (b := Xjz (fun r => K (F16_O.put r)) k v w p q o c) (by kernel_rfl) (by simp only [F16, Xjz, z1, z2, z3, z4, z5, z6, z7, z8])
def X6p (k : Nat) : FD := ⟨16, X5c, F16_O, F16 k⟩
theorem Yjn (k : Nat) : (X6p k).Ok Tryz.prog := ⟨fun x => Aa (Ai (Af (.c (X46 k) (.c (Je k) (.c (N0 k) (.c (Ygs k) .n))))) _ _ _ _) Ah Tryz.func16 rfl rfl (Yfh k _ _ _ _ _ _ some), .of (by kernel_rfl)⟩
abbrev Yhe (k : Nat) : Env := A6 (Aw [M0 k, Xrq k, X1 k]) Ap .own [] k
abbrev X55 : List PA := [.one mI, .one mI, .one (.sl .ro (.int .u8))]
abbrev F90_O : RO := ⟨[.a, .v], [.pair mI (.pair mI m_2), mB]⟩
def Xjl {β : Type} (RET : (den A5) × Bool → Option β) (k : Nat) (v w : Int) (p : Aj) : Option β := cond (decide ((p.length : Int) < 5)) (RET ((0, 0, 0, []), false)) (cond (decide (0 < (p.length : Int))) (cond (decide (1 < (p.length : Int))) (cond (decide (0 ≤ (i64.wrap ((p.length : Int) - 2))) && decide ((i64.wrap ((p.length : Int) - 2)) ≤ (p.length : Int))) (cond (decide (0 ≤ 3) && decide (3 ≤ (i64.wrap ((p.length : Int) - 2)))) ((Pu k ((p.take ((i64.wrap ((p.length : Int) - 2)).toNat)).drop 3)).bind fun b1 => (F33 k (v, i64.wrap (Ac p 0), i64.wrap (Ac p 1), b1) w).bind fun b2 => (Xdb k b2 p).bind fun b3 => cond (!b3) (RET ((0, 0, 0, []), false)) (RET ((v, i64.wrap (Ac p 0), i64.wrap (Ac p 1), b1), true))) none) none) none) none)
def F90 := Xjl (β := (den A5) × Bool) some
theorem Yas {β : Type} (k : Nat) (v w : Int) (p : Aj) (K : KT β) : Ag (Yhe k) Tryz.f90 (PsT.put X55 (v, w, p, ())) K = (F90 k v w p).bind fun r => K (F90_O.put r) :=
 Eq.trans (b := Xjl (fun r => K (F90_O.put r)) k v w p) (by kernel_rfl) (by simp only [F90, Xjl, z1, z2, z3, z4, z5, z6, z7, z8])
def X4h (k : Nat) : FD := ⟨90, X55, F90_O, F90 k⟩
theorem Yj9 (k : Nat) : (X4h k).Ok Tryz.prog := ⟨fun x => Aa (Ai (Af (.c (Qn k) (.c (X5e k) (.c (Xhc k) .n)))) _ _ _ _) Ah Tryz.func90 rfl rfl (Yas k _ _ _ some), .of (by kernel_rfl)⟩
abbrev Ybf (k : Nat) : Env := A6 (Aw [Xfh k]) Ap .own [] k
abbrev Xqo : List PA := [.agg (.pair mI (.sl .ro A5)), .one mI]
abbrev F161_O : RO := ⟨[.v], [mI]⟩
def Xg4 (k : Nat) (v : (den A2)) (w : Int) : Option (Int) := (X7 k v.1 w).bind fun b1 => some b1
theorem X0x {β : Type} (k : Nat) (v : (den A2)) (w : Int) (K : KT β) : Ag (Ybf k) Tryz.f161 (PsT.put Xqo (v, w, ())) K = (Xg4 k v w).bind fun r => K (F161_O.put r) :=
 Eq.trans (b := (X7 k v.1 w).bind fun b1 => K (F161_O.put b1)) (by kernel_rfl) (by simp only [Xg4, z1, z2, z3, z4, z5, z6, z7, z8])
def Xyj (k : Nat) : FD := ⟨161, Xqo, F161_O, Xg4 k⟩
theorem X7d (k : Nat) : (Xyj k).Ok Tryz.prog := ⟨fun x => Aa (Ai (Af (.c (Xv8 k) .n)) _ _ _ _) Ah Tryz.func161 rfl rfl (X0x k _ _ some), .of (by kernel_rfl)⟩
def X60 : Nat → Hint
 | 0 => ⟨pl 0 3 (pl 8 3 []), []⟩
 | _ => ⟨[], []⟩
abbrev Y9 (k : Nat) : Env := A6 (Aw [Xyj k]) X60 .own [] k
abbrev Xfn : List PA := [.one (.sl .ro A2), .one mI, .fn 161]
abbrev F160_O : RO := ⟨[.v, .v], [mI, mB]⟩
noncomputable def Yf6 {β : Type} (k : Nat) (v : Ab) (w : Int) (K : KT β) : Ex → St → Option β := Be (Y9 k) Tryz.f160 (PsT.put Xfn (v, w, (), ())) K
def X3s (v : Ab) (w : Int) (x9_0 x10_0 : Int) : St := ⟨(.one (.s .ro A2 v)) :: (.one (vI w)) :: (.one (.fn 161 [])) :: dz 5 ((.one (vI (v.length : Int))) :: (.one (vI x9_0)) :: (.one (vI x10_0)) :: dz 38 []), []⟩
noncomputable def Qk {β : Type} (k : Nat) (v : Ab) (w : Int) (K : KT β) (n : Nat) (x9_0 x10_0 : Int) : Option β := A0 (Y9 k) Tryz.f160 [1, 1, 1, 0, 0] 0 (Ad (Y9 k) [1, 1, 1, 0, 0] (Ae Tryz.f160) 0 (Yf6 k v w K)) n (X3s v w x9_0 x10_0)
def Kj {β : Type} (NX : Int → Int → Option β) (RET : (Int × Bool) → Option β) (k : Nat) (v : Ab) (w : Int) (x9_0 x10_0 : Int) : Option β := cond (decide (x9_0 < x10_0)) (As (i64.wrap ((u64.wrap (i64.wrap (x9_0 + x10_0))).fdiv (2 ^ (1)))) v ((Xg4 k (Ac v (i64.wrap ((u64.wrap (i64.wrap (x9_0 + x10_0))).fdiv (2 ^ (1))))) w).bind fun b1 => cond (decide (b1 < 0)) (NX (i64.wrap ((i64.wrap ((u64.wrap (i64.wrap (x9_0 + x10_0))).fdiv (2 ^ (1)))) + 1)) x10_0) (NX x9_0 (i64.wrap ((u64.wrap (i64.wrap (x9_0 + x10_0))).fdiv (2 ^ (1))))))) (cond (decide (x9_0 < (v.length : Int))) (As x9_0 v ((Xg4 k (Ac v x9_0) w).bind fun b2 => RET (x9_0, (b2 == 0)))) (RET (x9_0, false)))
def Kx (k : Nat) (v : Ab) (w : Int) : Nat → Int → Int → Option (Int × Bool)
 | 0, _, _ => none
 | n + 1, x9_0, x10_0 => Kj (Kx k v w n) some k v w x9_0 x10_0
theorem Xfb {β : Type} (k : Nat) (v : Ab) (w : Int) (K : KT β) (n : Nat) : ∀ (x9_0 x10_0 : Int), Qk k v w K n x9_0 x10_0 =
  (Kx k v w n x9_0 x10_0).bind fun r => K (F160_O.put r) := by
 induction n with
 | zero => intros; rfl
 | succ n ih =>
  intro x9_0 x10_0
  refine Eq.trans (b := Kj (Qk k v w K n) (fun r => K (F160_O.put r)) k v w x9_0 x10_0) (by kernel_rfl) ?_
  rw [Kx]
  simp only [Kj, z1, z2, z3, z4, z5, z6, z7, z8, ih]
def Xed {β : Type} (LP0 : Int → Int → Option β) (k : Nat) (v : Ab) (w : Int) : Option β := LP0 0 (v.length : Int)
def Xyg (k : Nat) (v : Ab) (w : Int) : Option (Int × Bool) := Xed (Kx k v w k) k v w
theorem X06 {β : Type} (k : Nat) (v : Ab) (w : Int) (K : KT β) : Ag (Y9 k) Tryz.f160 (PsT.put Xfn (v, w, (), ())) K = (Xyg k v w).bind fun r => K (F160_O.put r) :=
 Eq.trans (b := Xed (Qk k v w K k) k v w) (by kernel_rfl) (by simp only [Xyg, Xed, z1, z2, z3, z4, z5, z6, z7, z8, Xfb])
def Xtd (k : Nat) : FD := ⟨160, Xfn, F160_O, Xyg k⟩
theorem Yd3 (k : Nat) : (Xtd k).Ok Tryz.prog := ⟨fun x => Aa (Ai (Af (.c (X7d k) .n)) _ _ _ _) Ah Tryz.func160 rfl rfl (X06 k _ _ some), .of (by kernel_rfl)⟩
abbrev Yhu (k : Nat) : Env := A6 (Aw [Xtd k]) Ap .own [] k
abbrev X4m : List PA := [.one (.sl .ro A2), .one mI]
abbrev F91_O : RO := ⟨[.v, .v], [mI, mB]⟩
def F91 (k : Nat) (v : Ab) (w : Int) : Option (Int × Bool) := (Xyg k v w).bind fun b1 => some b1
theorem Yfa {β : Type} (k : Nat) (v : Ab) (w : Int) (K : KT β) : Ag (Yhu k) Tryz.f91 (PsT.put X4m (v, w, ())) K = (F91 k v w).bind fun r => K (F91_O.put r) :=
 Eq.trans (b := (Xyg k v w).bind fun b1 => K (F91_O.put b1)) (by kernel_rfl) (by simp only [F91, z1, z2, z3, z4, z5, z6, z7, z8])
def X33 (k : Nat) : FD := ⟨91, X4m, F91_O, F91 k⟩
theorem Yi7 (k : Nat) : (X33 k).Ok Tryz.prog := ⟨fun x => Aa (Ai (Af (.c (Yd3 k) .n)) _ _ _ _) Ah Tryz.func91 rfl rfl (Yfa k _ _ some), .of (by kernel_rfl)⟩
abbrev Yg3 (k : Nat) : Env := A6 (Aw [Xr8 k, Xs9 k, Xc9 k, X4h k, X33 k]) Ap .own [] k
abbrev X43 : List PA := [.one (.sl .ro A2), .one mI, .agg (.pair mI Da)]
abbrev F32_O : RO := ⟨[.v, .v], [.sl .own A2, mI]⟩
def Xd2 {β : Type} (RET : (Ab × Int) → Option β) (k : Nat) (v : Ab) (w : Int) (p : (den Al)) : Option β := (F30 k v).bind fun b1 => cond (!b1) (RET ([], 0)) ((F78 k v).bind fun b2 => (F89 k p).bind fun b3 => cond (!b3) (RET (b2, 0)) (cond (p.2.2.1 != 2) (RET (b2, 0)) (cond (p.2.2.2.2.2.1 != 0) (RET (b2, 0)) (cond p.2.2.2.2.2.2.1 (RET (b2, 0)) (cond (p.2.1 != w) (RET (b2, 0)) ((F90 k p.1 w p.2.2.2.2.2.2.2.2).bind fun b4 => cond (!b4.2) (RET (b2, 0)) ((F91 k b2 b4.1.2.2.1).bind fun b5 => cond (!b5.2) (RET (b2, 3)) (As b5.1 b2 (cond (decide (((Ac b2 b5.1).2.length : Int) ≥ 3)) (RET (b2, 0)) (As b5.1 b2 (Bt ((Ac b2 b5.1).2.length) ([b4.1].length) 48 (As b5.1 b2 (cond (decide (b5.1.toNat = b5.1.toNat)) ((F78 k (b2.set b5.1.toNat ((Ac b2 b5.1).1, (Ac b2 b5.1).2 ++ [b4.1]))).bind fun b6 => RET (b6, 1)) none)))))))))))))
def F32 := Xd2 (β := Ab × Int) some
theorem X65 {β : Type} (k : Nat) (v : Ab) (w : Int) (p : (den Al)) (K : KT β) : Ag (Yg3 k) Tryz.f32 (PsT.put X43 (v, w, p, ())) K = (F32 k v w p).bind fun r => K (F32_O.put r) :=
 Eq.trans (b := Xd2 (fun r => K (F32_O.put r)) k v w p) (by kernel_rfl) (by simp only [F32, Xd2, z1, z2, z3, z4, z5, z6, z7, z8, A1])
def X4j (k : Nat) : FD := ⟨32, X43, F32_O, F32 k⟩
theorem Yka (k : Nat) : (X4j k).Ok Tryz.prog := ⟨fun x => Aa (Ai (Af (.c (X5d k) (.c (X4a k) (.c (Xk7 k) (.c (Yj9 k) (.c (Yi7 k) .n)))))) _ _ _ _) Ah Tryz.func32 rfl rfl (X65 k _ _ _ some), .of (by kernel_rfl)⟩
abbrev Yje (k : Nat) : Env := A6 (Aw [Xr8 k, Xu7 k, Xs9 k, Iv k, Mb k, Xkz k, Xrq k, X6p k, X4j k]) Ap .own [] k
abbrev X6d : List PA := [.one (.sl .ro A2), .one (.sl .ro sta), .one mI, .one mI, .agg (.pair mI (.pair mI Qj))]
abbrev F27_O : RO := ⟨[.v, .v], [.sl .own A2, mI]⟩
def Xke {β : Type} (RET : (Ab × Int) → Option β) (k : Nat) (v : Ab) (w : Ak) (p q : Int) (o : (den A5)) : Option β := Ff o fun _ o1 o2 o3 => (F30 k v).bind fun b1 => cond (!b1) (RET ([], 0)) ((F31 k w).bind fun b2 => cond (!b2) ((F78 k v).bind fun b3 => RET (b3, 0)) ((S6 k p 0 (i64.wrap ((w.length : Int) - 1))).bind fun b4 => cond (!b4) ((F78 k v).bind fun b5 => RET (b5, 0)) ((F65 k q).bind fun b6 => cond (!b6) ((F78 k v).bind fun b7 => RET (b7, 0)) (As p w ((F79 k ((Ac w p).1, o1, o2, o3)).bind fun b8 => cond (!b8) ((F78 k v).bind fun b9 => RET (b9, 0)) ((F33 k ((Ac w p).1, o1, o2, o3) q).bind fun b10 => (F16 k w p q 2 0 b10).bind fun b11 => cond (!b11.2) ((F78 k v).bind fun b12 => RET (b12, 0)) ((F32 k v q ((Ac w p).1, q, 2, 64, 0, 0, false, false, b11.1)).bind fun b13 => RET b13)))))))
def F27 := Xke (β := Ab × Int) some
theorem Ybt {β : Type} (k : Nat) (v : Ab) (w : Ak) (p q : Int) (o : (den A5)) (K : KT β) : Ag (Yje k) Tryz.f27 (PsT.put X6d (v, w, p, q, o, ())) K = (F27 k v w p q o).bind fun r => K (F27_O.put r) :=
 Eq.trans (b := Xke (fun r => K (F27_O.put r)) k v w p q o) (by kernel_rfl) (by simp only [F27, Xke, z1, z2, z3, z4, z5, z6, z7, z8, Ff])
def X6i (k : Nat) : FD := ⟨27, X6d, F27_O, F27 k⟩
theorem Yhs (k : Nat) : (X6i k).Ok Tryz.prog := ⟨fun x => Aa (Ai (Af (.c (X5d k) (.c (X46 k) (.c (X4a k) (.c (Je k) (.c (N0 k) (.c (Xv1 k) (.c (X5e k) (.c (Yjn k) (.c (Yka k) .n)))))))))) _ _ _ _) Ah Tryz.func27 rfl rfl (Ybt k _ _ _ _ _ some), .of (by kernel_rfl)⟩
end
end Go.Proofs.YtdmepjjepogddaaGreat.Gn
end

section
set_option linter.unusedVariables false
set_option linter.unusedSimpArgs false
namespace Go.Proofs.YtdmepjjepogddaaGreat.Gn
open Go.Rf IntKind
noncomputable section
abbrev Yj4 (k : Nat) : Env := A6 Bn Ap .own [] k
abbrev X4n : List PA := [.one (.sl .ro (.int .u8)), .one mI]
abbrev F97_O : RO := ⟨[.v], [mI]⟩
def Xlh {β : Type} (RET : Int → Option β) (k : Nat) (v : Aj) (w : Int) : Option β := cond (decide ((i64.wrap (w - (v.length : Int))) < 0)) (RET (-1)) (RET (i64.wrap (w - (v.length : Int))))
def F97 := Xlh (β := Int) some
theorem X7y {β : Type} (k : Nat) (v : Aj) (w : Int) (K : KT β) : Ag (Yj4 k) Tryz.f97 (PsT.put X4n (v, w, ())) K = (F97 k v w).bind fun r => K (F97_O.put r) :=
 Eq.trans (b := Xlh (fun r => K (F97_O.put r)) k v w) (by kernel_rfl) (by simp only [F97, Xlh, z1, z2, z3, z4, z5, z6, z7, z8])
def X5b (k : Nat) : FD := ⟨97, X4n, F97_O, F97 k⟩
theorem Yi9 (k : Nat) : (X5b k).Ok Tryz.prog := ⟨fun x => Aa (Ai .none _ _ _ _) Ah Tryz.func97 rfl rfl (X7y k _ _ some), .of (by kernel_rfl)⟩
abbrev Yjv (k : Nat) : Env := A6 (Aw [X5b k]) Ap .own [] k
abbrev X6m : List PA := [.agg (.pair mI (.pair mI Qj)), .one mI]
abbrev F35_O : RO := ⟨[.v], [mI]⟩
def F35 (k : Nat) (v : (den A5)) (w : Int) : Option (Int) := (F97 k v.2.2.2 w).bind fun b1 => cond (decide (b1 < 0)) (some (-1)) (some b1)
theorem X61 {β : Type} (k : Nat) (v : (den A5)) (w : Int) (K : KT β) : Ag (Yjv k) Tryz.f35 (PsT.put X6m (v, w, ())) K = (F35 k v w).bind fun r => K (F35_O.put r) :=
 Eq.trans (b := (F97 k v.2.2.2 w).bind fun b1 => cond (decide (b1 < 0)) (K (F35_O.put (-1))) (K (F35_O.put b1))) (by kernel_rfl) (by simp only [F35, z1, z2, z3, z4, z5, z6, z7, z8])
def Xxp (k : Nat) : FD := ⟨35, X6m, F35_O, F35 k⟩
theorem X4d (k : Nat) : (Xxp k).Ok Tryz.prog := ⟨fun x => Aa (Ai (Af (.c (Yi9 k) .n)) _ _ _ _) Ah Tryz.func35 rfl rfl (X61 k _ _ some), .of (by kernel_rfl)⟩
def X8p : Nat → Hint
 | 0 => ⟨pl 0 2 (pl 5 1 []), []⟩
 | _ => ⟨[], []⟩
abbrev Xa3 (k : Nat) : Env := A6 (Aw [Xxp k]) X8p .own [] k
abbrev Xie : List PA := [.one (.sl .ro A5), .one mI]
abbrev F166_O : RO := ⟨[.v], [mI]⟩
noncomputable def X7j {β : Type} (k : Nat) (v : Au) (w : Int) (K : KT β) : Ex → St → Option β := Be (Xa3 k) Tryz.f166 (PsT.put Xie (v, w, ())) K
def Xz1 (v : Au) (w : Int) (x1_0 x5_0 : Int) : St := ⟨(.one (.s .ro A5 v)) :: (.one (vI x1_0)) :: dz 3 ((.one (vI x5_0)) :: dz 21 []), []⟩
noncomputable def Q6 {β : Type} (k : Nat) (v : Au) (w : Int) (K : KT β) (n : Nat) (x1_0 x5_0 : Int) : Option β := A0 (Xa3 k) Tryz.f166 [1, 1, 1, 0, 1, 0] 0 (Ad (Xa3 k) [1, 1, 1, 0, 1, 0] (Ae Tryz.f166) 0 (X7j k v w K)) n (Xz1 v w x1_0 x5_0)
def Li {β : Type} (NX : Int → Int → Option β) (RET : Int → Option β) (k : Nat) (v : Au) (w : Int) (x1_0 x5_0 : Int) : Option β := cond (decide (x5_0 < (v.length : Int))) (As x5_0 v ((F35 k (Ac v x5_0) x1_0).bind fun b1 => cond (decide (b1 < 0)) (RET (-1)) (NX b1 (i64.wrap (x5_0 + 1))))) (RET x1_0)
def Ly (k : Nat) (v : Au) (w : Int) : Nat → Int → Int → Option (Int)
 | 0, _, _ => none
 | n + 1, x1_0, x5_0 => Li (Ly k v w n) some k v w x1_0 x5_0
theorem Xin {β : Type} (k : Nat) (v : Au) (w : Int) (K : KT β) (n : Nat) : ∀ (x1_0 x5_0 : Int), Q6 k v w K n x1_0 x5_0 =
  (Ly k v w n x1_0 x5_0).bind fun r => K (F166_O.put r) := by
 induction n with
 | zero => intros; rfl
 | succ n ih =>
  intro x1_0 x5_0
  refine Eq.trans (b := Li (Q6 k v w K n) (fun r => K (F166_O.put r)) k v w x1_0 x5_0) (by kernel_rfl) ?_
  rw [Ly]
  simp only [Li, z1, z2, z3, z4, z5, z6, z7, z8, ih]
def Z1 {β : Type} (LP0 : Int → Int → Option β) (RET : Int → Option β) (k : Nat) (v : Au) (w : Int) : Option β := cond (decide ((i64.wrap (w - (v.length : Int))) < 0)) (RET (-1)) (LP0 (i64.wrap (w - (v.length : Int))) 0)
def Xfq (k : Nat) (v : Au) (w : Int) : Option (Int) := Z1 (Ly k v w k) some k v w
theorem Xza {β : Type} (k : Nat) (v : Au) (w : Int) (K : KT β) : Ag (Xa3 k) Tryz.f166 (PsT.put Xie (v, w, ())) K = (Xfq k v w).bind fun r => K (F166_O.put r) :=
 Eq.trans (b := Z1 (Q6 k v w K k) (fun r => K (F166_O.put r)) k v w) (by kernel_rfl) (by simp only [Xfq, Z1, z1, z2, z3, z4, z5, z6, z7, z8, Xin])
def Xrl (k : Nat) : FD := ⟨166, Xie, F166_O, Xfq k⟩
theorem Ye8 (k : Nat) : (Xrl k).Ok Tryz.prog := ⟨fun x => Aa (Ai (Af (.c (X4d k) .n)) _ _ _ _) Ah Tryz.func166 rfl rfl (Xza k _ _ some), .of (by kernel_rfl)⟩
abbrev Yko (k : Nat) : Env := A6 (Aw [Xrl k]) Ap .own [] k
abbrev X58 : List PA := [.agg (.pair mI (.sl .ro A5)), .one mI]
abbrev F96_O : RO := ⟨[.v], [mI]⟩
def F96 (k : Nat) (v : (den A2)) (w : Int) : Option (Int) := (Xfq k v.2 w).bind fun b1 => cond (decide (b1 < 0)) (some (-1)) (some b1)
theorem Yat {β : Type} (k : Nat) (v : (den A2)) (w : Int) (K : KT β) : Ag (Yko k) Tryz.f96 (PsT.put X58 (v, w, ())) K = (F96 k v w).bind fun r => K (F96_O.put r) :=
 Eq.trans (b := (Xfq k v.2 w).bind fun b1 => cond (decide (b1 < 0)) (K (F96_O.put (-1))) (K (F96_O.put b1))) (by kernel_rfl) (by simp only [F96, z1, z2, z3, z4, z5, z6, z7, z8])
def X4v (k : Nat) : FD := ⟨96, X58, F96_O, F96 k⟩
theorem Ykm (k : Nat) : (X4v k).Ok Tryz.prog := ⟨fun x => Aa (Ai (Af (.c (Ye8 k) .n)) _ _ _ _) Ah Tryz.func96 rfl rfl (Yat k _ _ some), .of (by kernel_rfl)⟩
def Yi5 : Nat → Hint
 | 0 => ⟨pl 0 2 (pl 5 1 []), []⟩
 | _ => ⟨[], []⟩
abbrev Xjj (k : Nat) : Env := A6 (Aw [X4v k]) Yi5 .own [] k
abbrev Xue : List PA := [.one (.sl .ro A2), .one mI]
abbrev F34_O : RO := ⟨[.v], [mI]⟩
noncomputable def Yjc {β : Type} (k : Nat) (v : Ab) (w : Int) (K : KT β) : Ex → St → Option β := Be (Xjj k) Tryz.f34 (PsT.put Xue (v, w, ())) K
def Yd4 (v : Ab) (w : Int) (x1_0 x5_0 : Int) : St := ⟨(.one (.s .ro A2 v)) :: (.one (vI x1_0)) :: dz 3 ((.one (vI x5_0)) :: dz 21 []), []⟩
noncomputable def Tv {β : Type} (k : Nat) (v : Ab) (w : Int) (K : KT β) (n : Nat) (x1_0 x5_0 : Int) : Option β := A0 (Xjj k) Tryz.f34 [1, 1, 1, 0, 1, 0] 0 (Ad (Xjj k) [1, 1, 1, 0, 1, 0] (Ae Tryz.f34) 0 (Yjc k v w K)) n (Yd4 v w x1_0 x5_0)
def O0 {β : Type} (NX : Int → Int → Option β) (RET : Int → Option β) (k : Nat) (v : Ab) (w : Int) (x1_0 x5_0 : Int) : Option β := cond (decide (x5_0 < (v.length : Int))) (As x5_0 v ((F96 k (Ac v x5_0) x1_0).bind fun b1 => cond (decide (b1 < 0)) (RET (-1)) (NX b1 (i64.wrap (x5_0 + 1))))) (RET x1_0)
def Qx (k : Nat) (v : Ab) (w : Int) : Nat → Int → Int → Option (Int)
 | 0, _, _ => none
 | n + 1, x1_0, x5_0 => O0 (Qx k v w n) some k v w x1_0 x5_0
theorem Xma {β : Type} (k : Nat) (v : Ab) (w : Int) (K : KT β) (n : Nat) : ∀ (x1_0 x5_0 : Int), Tv k v w K n x1_0 x5_0 =
  (Qx k v w n x1_0 x5_0).bind fun r => K (F34_O.put r) := by
 induction n with
 | zero => intros; rfl
 | succ n ih =>
  intro x1_0 x5_0
  refine Eq.trans (b := O0 (Tv k v w K n) (fun r => K (F34_O.put r)) k v w x1_0 x5_0) (by kernel_rfl) ?_
  rw [Qx]
  simp only [O0, z1, z2, z3, z4, z5, z6, z7, z8, ih]
def Xja {β : Type} (LP0 : Int → Int → Option β) (RET : Int → Option β) (k : Nat) (v : Ab) (w : Int) : Option β := cond (decide ((i64.wrap (w - (v.length : Int))) < 0)) (RET (-1)) (LP0 (i64.wrap (w - (v.length : Int))) 0)
def F34 (k : Nat) (v : Ab) (w : Int) : Option (Int) := Xja (Qx k v w k) some k v w
theorem Yc9 {β : Type} (k : Nat) (v : Ab) (w : Int) (K : KT β) : Ag (Xjj k) Tryz.f34 (PsT.put Xue (v, w, ())) K = (F34 k v w).bind fun r => K (F34_O.put r) :=
 Eq.trans (b := Xja (Tv k v w K k) (fun r => K (F34_O.put r)) k v w) (by kernel_rfl) (by simp only [F34, Xja, z1, z2, z3, z4, z5, z6, z7, z8, Xma])
def X5n (k : Nat) : FD := ⟨34, Xue, F34_O, F34 k⟩
theorem Ykb (k : Nat) : (X5n k).Ok Tryz.prog := ⟨fun x => Aa (Ai (Af (.c (Ykm k) .n)) _ _ _ _) Ah Tryz.func34 rfl rfl (Yc9 k _ _ some), .of (by kernel_rfl)⟩
abbrev Yfo (k : Nat) : Env := A6 Bn Ap .own [] k
abbrev Xus : List PA := [.one (.sl .ro Ce), .one mI]
abbrev F128_O : RO := ⟨[.v], [mI]⟩
def Xbi {β : Type} (RET : Int → Option β) (k : Nat) (v : Az) (w : Int) : Option β := cond (decide ((i64.wrap (w - (v.length : Int))) < 0)) (RET (-1)) (RET (i64.wrap (w - (v.length : Int))))
def Xg5 := Xbi (β := Int) some
theorem X1p {β : Type} (k : Nat) (v : Az) (w : Int) (K : KT β) : Ag (Yfo k) Tryz.f128 (PsT.put Xus (v, w, ())) K = (Xg5 k v w).bind fun r => K (F128_O.put r) :=
 Eq.trans (b := Xbi (fun r => K (F128_O.put r)) k v w) (by kernel_rfl) (by simp only [Xg5, Xbi, z1, z2, z3, z4, z5, z6, z7, z8])
def Xt8 (k : Nat) : FD := ⟨128, Xus, F128_O, Xg5 k⟩
theorem Yfs (k : Nat) : (Xt8 k).Ok Tryz.prog := ⟨fun x => Aa (Ai .none _ _ _ _) Ah Tryz.func128 rfl rfl (X1p k _ _ some), .of (by kernel_rfl)⟩
abbrev Yj8 (k : Nat) : Env := A6 (Aw [Xt8 k]) Ap .own [] k
abbrev X5g : List PA := [.agg (.pair mI (.sl .ro Ce)), .one mI]
abbrev F58_O : RO := ⟨[.v], [mI]⟩
def F58 (k : Nat) (v : (den sta)) (w : Int) : Option (Int) := (Xg5 k v.2 w).bind fun b1 => cond (decide (b1 < 0)) (some (-1)) (some b1)
theorem Yfn {β : Type} (k : Nat) (v : (den sta)) (w : Int) (K : KT β) : Ag (Yj8 k) Tryz.f58 (PsT.put X5g (v, w, ())) K = (F58 k v w).bind fun r => K (F58_O.put r) :=
 Eq.trans (b := (Xg5 k v.2 w).bind fun b1 => cond (decide (b1 < 0)) (K (F58_O.put (-1))) (K (F58_O.put b1))) (by kernel_rfl) (by simp only [F58, z1, z2, z3, z4, z5, z6, z7, z8])
def X4l (k : Nat) : FD := ⟨58, X5g, F58_O, F58 k⟩
theorem Yhp (k : Nat) : (X4l k).Ok Tryz.prog := ⟨fun x => Aa (Ai (Af (.c (Yfs k) .n)) _ _ _ _) Ah Tryz.func58 rfl rfl (Yfn k _ _ some), .of (by kernel_rfl)⟩
def Yjh : Nat → Hint
 | 0 => ⟨pl 0 2 (pl 5 1 []), []⟩
 | _ => ⟨[], []⟩
abbrev Xks (k : Nat) : Env := A6 (Aw [X4l k]) Yjh .own [] k
abbrev Xq3 : List PA := [.one (.sl .ro sta), .one mI]
abbrev F12_O : RO := ⟨[.v], [mI]⟩
noncomputable def Yhj {β : Type} (k : Nat) (v : Ak) (w : Int) (K : KT β) : Ex → St → Option β := Be (Xks k) Tryz.f12 (PsT.put Xq3 (v, w, ())) K
def Ydo (v : Ak) (w : Int) (x1_0 x5_0 : Int) : St := ⟨(.one (.s .ro sta v)) :: (.one (vI x1_0)) :: dz 3 ((.one (vI x5_0)) :: dz 21 []), []⟩
noncomputable def Uy {β : Type} (k : Nat) (v : Ak) (w : Int) (K : KT β) (n : Nat) (x1_0 x5_0 : Int) : Option β := A0 (Xks k) Tryz.f12 [1, 1, 1, 0, 1, 0] 0 (Ad (Xks k) [1, 1, 1, 0, 1, 0] (Ae Tryz.f12) 0 (Yhj k v w K)) n (Ydo v w x1_0 x5_0)
def N8 {β : Type} (NX : Int → Int → Option β) (RET : Int → Option β) (k : Nat) (v : Ak) (w : Int) (x1_0 x5_0 : Int) : Option β := cond (decide (x5_0 < (v.length : Int))) (As x5_0 v ((F58 k (Ac v x5_0) x1_0).bind fun b1 => cond (decide (b1 < 0)) (RET (-1)) (NX b1 (i64.wrap (x5_0 + 1))))) (RET x1_0)
def Ph (k : Nat) (v : Ak) (w : Int) : Nat → Int → Int → Option (Int)
 | 0, _, _ => none
 | n + 1, x1_0, x5_0 => N8 (Ph k v w n) some k v w x1_0 x5_0
theorem Xnd {β : Type} (k : Nat) (v : Ak) (w : Int) (K : KT β) (n : Nat) : ∀ (x1_0 x5_0 : Int), Uy k v w K n x1_0 x5_0 =
  (Ph k v w n x1_0 x5_0).bind fun r => K (F12_O.put r) := by
 induction n with
 | zero => intros; rfl
 | succ n ih =>
  intro x1_0 x5_0
  refine Eq.trans (b := N8 (Uy k v w K n) (fun r => K (F12_O.put r)) k v w x1_0 x5_0) (by kernel_rfl) ?_
  rw [Ph]
  simp only [N8, z1, z2, z3, z4, z5, z6, z7, z8, ih]
def Xjy {β : Type} (LP0 : Int → Int → Option β) (RET : Int → Option β) (k : Nat) (v : Ak) (w : Int) : Option β := cond (decide ((i64.wrap (w - (v.length : Int))) < 0)) (RET (-1)) (LP0 (i64.wrap (w - (v.length : Int))) 0)
def F12 (k : Nat) (v : Ak) (w : Int) : Option (Int) := Xjy (Ph k v w k) some k v w
theorem X9k {β : Type} (k : Nat) (v : Ak) (w : Int) (K : KT β) : Ag (Xks k) Tryz.f12 (PsT.put Xq3 (v, w, ())) K = (F12 k v w).bind fun r => K (F12_O.put r) :=
 Eq.trans (b := Xjy (Uy k v w K k) (fun r => K (F12_O.put r)) k v w) (by kernel_rfl) (by simp only [F12, Xjy, z1, z2, z3, z4, z5, z6, z7, z8, Xnd])
def X4r (k : Nat) : FD := ⟨12, Xq3, F12_O, F12 k⟩
theorem Yjr (k : Nat) : (X4r k).Ok Tryz.prog := ⟨fun x => Aa (Ai (Af (.c (Yhp k) .n)) _ _ _ _) Ah Tryz.func12 rfl rfl (X9k k _ _ some), .of (by kernel_rfl)⟩
def Yjo : Nat → Hint
 | 0 => ⟨pl 0 1 (pl 3 2 []), pl 7000 1 []⟩
 | _ => ⟨[], []⟩
abbrev Xln (k : Nat) : Env := A6 Bn Yjo .own [] k
abbrev Xwr : List PA := [.one (.sl .ro (.int .u8))]
abbrev F15_O : RO := ⟨[.v], [.sl .own (.int .u8)]⟩
noncomputable def Yih {β : Type} (k : Nat) (v : Aj) (K : KT β) : Ex → St → Option β := Be (Xln k) Tryz.f15 (PsT.put Xwr (v, ())) K
def X87 (v : Aj) (x4_0 : Int) (m7000_0 : Aj) : St := ⟨(.one (.s .ro (.int .u8) v)) :: (.one .d) :: (.one .d) :: (.one (.a (.cell 7000) 0 0 none)) :: (.one (vI x4_0)) :: dz 17 [], [eM 7000 (.s .own (.int .u8) m7000_0)]⟩
noncomputable def Tw {β : Type} (k : Nat) (v : Aj) (K : KT β) (n : Nat) (x4_0 : Int) (m7000_0 : Aj) : Option β := A0 (Xln k) Tryz.f15 [1, 1, 0, 1, 0] 0 (Ad (Xln k) [1, 1, 0, 1, 0] (Ae Tryz.f15) 0 (Yih k v K)) n (X87 v x4_0 m7000_0)
def Jk {β : Type} (NX : Int → Aj → Option β) (RET : Aj → Option β) (k : Nat) (v : Aj) (x4_0 : Int) (m7000_0 : Aj) : Option β := cond (decide (x4_0 < (v.length : Int))) (As x4_0 v (As x4_0 m7000_0 (NX (i64.wrap (x4_0 + 1)) (m7000_0.set x4_0.toNat (Ac v x4_0))))) (RET m7000_0)
def Nf (k : Nat) (v : Aj) : Nat → Int → Aj → Option (Aj)
 | 0, _, _ => none
 | n + 1, x4_0, m7000_0 => Jk (Nf k v n) some k v x4_0 m7000_0
theorem Xmy {β : Type} (k : Nat) (v : Aj) (K : KT β) (n : Nat) : ∀ (x4_0 : Int) (m7000_0 : Aj), Tw k v K n x4_0 m7000_0 =
  (Nf k v n x4_0 m7000_0).bind fun r => K (F15_O.put r) := by
 induction n with
 | zero => intros; rfl
 | succ n ih =>
  intro x4_0 m7000_0
  refine Eq.trans (b := Jk (Tw k v K n) (fun r => K (F15_O.put r)) k v x4_0 m7000_0) (by kernel_rfl) ?_
  rw [Nf]
  simp only [Jk, z1, z2, z3, z4, z5, z6, z7, z8, ih]
def Xkl {β : Type} (LP0 : Int → Aj → Option β) (k : Nat) (v : Aj) : Option β := cond (decide (0 ≤ (v.length : Int)) && decide ((v.length : Int) = (v.length : Int)) && decide ((v.length : Int) * (1 : Nat) ≤ 140737488355328)) (LP0 0 (List.replicate ((v.length : Int).toNat) (Bl (.int .u8)))) none
def F15 (k : Nat) (v : Aj) : Option (Aj) := Xkl (Nf k v k) k v
theorem Yfy {β : Type} (k : Nat) (v : Aj) (K : KT β) : Ag (Xln k) Tryz.f15 (PsT.put Xwr (v, ())) K = (F15 k v).bind fun r => K (F15_O.put r) :=
 Eq.trans (b := Xkl (Tw k v K k) k v) (by kernel_rfl) (by simp only [F15, Xkl, z1, z2, z3, z4, z5, z6, z7, z8, Xmy])
def X4x (k : Nat) : FD := ⟨15, Xwr, F15_O, F15 k⟩
theorem Yh4 (k : Nat) : (X4x k).Ok Tryz.prog := ⟨fun x => Aa (Ai .none _ _ _ _) Ah Tryz.func15 rfl rfl (Yfy k _ some), .of (by kernel_rfl)⟩
abbrev Yhx (k : Nat) : Env := A6 (Aw [X4x k]) Ap .own [] k
abbrev X5m : List PA := [.agg (.pair mI (.pair mI Qj))]
abbrev F37_O : RO := ⟨[.a], [.pair mI (.pair mI m_2)]⟩
def F37 (k : Nat) (v : (den A5)) : Option ((den A5)) := (F15 k v.2.2.2).bind fun b1 => some (v.1, v.2.1, v.2.2.1, b1)
theorem Ybq {β : Type} (k : Nat) (v : (den A5)) (K : KT β) : Ag (Yhx k) Tryz.f37 (PsT.put X5m (v, ())) K = (F37 k v).bind fun r => K (F37_O.put r) :=
 Eq.trans (b := (F15 k v.2.2.2).bind fun b1 => K (F37_O.put (v.1, v.2.1, v.2.2.1, b1))) (by kernel_rfl) (by simp only [F37, z1, z2, z3, z4, z5, z6, z7, z8])
def Xs4 (k : Nat) : FD := ⟨37, X5m, F37_O, F37 k⟩
theorem X6f (k : Nat) : (Xs4 k).Ok Tryz.prog := ⟨fun x => Aa (Ai (Af (.c (Yh4 k) .n)) _ _ _ _) Ah Tryz.func37 rfl rfl (Ybq k _ some), .of (by kernel_rfl)⟩
def Yck : Nat → Hint
 | 0 => ⟨pl 0 1 (pl 3 2 []), pl 7000 1 []⟩
 | _ => ⟨[], []⟩
abbrev Xaa (k : Nat) : Env := A6 (Aw [Xs4 k]) Yck .own [] k
abbrev Xic : List PA := [.one (.sl .ro A5)]
abbrev F167_O : RO := ⟨[.v], [.sl .own A5]⟩
noncomputable def Yep {β : Type} (k : Nat) (v : Au) (K : KT β) : Ex → St → Option β := Be (Xaa k) Tryz.f167 (PsT.put Xic (v, ())) K
def X3v (v : Au) (x4_0 : Int) (m7000_0 : Au) : St := ⟨(.one (.s .ro A5 v)) :: (.one .d) :: (.one .d) :: (.one (.a (.cell 7000) 0 0 none)) :: (.one (vI x4_0)) :: dz 18 [], [eM 7000 (.s .own A5 m7000_0)]⟩
noncomputable def P3 {β : Type} (k : Nat) (v : Au) (K : KT β) (n : Nat) (x4_0 : Int) (m7000_0 : Au) : Option β := A0 (Xaa k) Tryz.f167 [1, 1, 0, 1, 0] 0 (Ad (Xaa k) [1, 1, 0, 1, 0] (Ae Tryz.f167) 0 (Yep k v K)) n (X3v v x4_0 m7000_0)
def Hb {β : Type} (NX : Int → Au → Option β) (RET : Au → Option β) (k : Nat) (v : Au) (x4_0 : Int) (m7000_0 : Au) : Option β := cond (decide (x4_0 < (v.length : Int))) (As x4_0 v ((F37 k (Ac v x4_0)).bind fun b1 => As x4_0 m7000_0 (NX (i64.wrap (x4_0 + 1)) (m7000_0.set x4_0.toNat b1)))) (RET m7000_0)
def Ih (k : Nat) (v : Au) : Nat → Int → Au → Option (Au)
 | 0, _, _ => none
 | n + 1, x4_0, m7000_0 => Hb (Ih k v n) some k v x4_0 m7000_0
theorem Xeh {β : Type} (k : Nat) (v : Au) (K : KT β) (n : Nat) : ∀ (x4_0 : Int) (m7000_0 : Au), P3 k v K n x4_0 m7000_0 =
  (Ih k v n x4_0 m7000_0).bind fun r => K (F167_O.put r) := by
 induction n with
 | zero => intros; rfl
 | succ n ih =>
  intro x4_0 m7000_0
  refine Eq.trans (b := Hb (P3 k v K n) (fun r => K (F167_O.put r)) k v x4_0 m7000_0) (by kernel_rfl) ?_
  rw [Ih]
  simp only [Hb, z1, z2, z3, z4, z5, z6, z7, z8, ih]
def Ys {β : Type} (LP0 : Int → Au → Option β) (k : Nat) (v : Au) : Option β := cond (decide (0 ≤ (v.length : Int)) && decide ((v.length : Int) = (v.length : Int)) && decide ((v.length : Int) * (48 : Nat) ≤ 140737488355328)) (LP0 0 (List.replicate ((v.length : Int).toNat) (Bl A5))) none
def Xep (k : Nat) (v : Au) : Option (Au) := Ys (Ih k v k) k v
theorem Xyx {β : Type} (k : Nat) (v : Au) (K : KT β) : Ag (Xaa k) Tryz.f167 (PsT.put Xic (v, ())) K = (Xep k v).bind fun r => K (F167_O.put r) :=
 Eq.trans (b := Ys (P3 k v K k) k v) (by kernel_rfl) (by simp only [Xep, Ys, z1, z2, z3, z4, z5, z6, z7, z8, Xeh])
def Xqw (k : Nat) : FD := ⟨167, Xic, F167_O, Xep k⟩
theorem X9x (k : Nat) : (Xqw k).Ok Tryz.prog := ⟨fun x => Aa (Ai (Af (.c (X6f k) .n)) _ _ _ _) Ah Tryz.func167 rfl rfl (Xyx k _ some), .of (by kernel_rfl)⟩
abbrev Yg6 (k : Nat) : Env := A6 (Aw [Xqw k]) Ap .own [] k
abbrev X5h : List PA := [.agg (.pair mI (.sl .ro A5))]
abbrev F98_O : RO := ⟨[.a], [.pair mI (.sl .own A5)]⟩
def F98 (k : Nat) (v : (den A2)) : Option ((den A2)) := (Xep k v.2).bind fun b1 => some (v.1, b1)
theorem X9r {β : Type} (k : Nat) (v : (den A2)) (K : KT β) : Ag (Yg6 k) Tryz.f98 (PsT.put X5h (v, ())) K = (F98 k v).bind fun r => K (F98_O.put r) :=
 Eq.trans (b := (Xep k v.2).bind fun b1 => K (F98_O.put (v.1, b1))) (by kernel_rfl) (by simp only [F98, z1, z2, z3, z4, z5, z6, z7, z8])
def X38 (k : Nat) : FD := ⟨98, X5h, F98_O, F98 k⟩
theorem Yjd (k : Nat) : (X38 k).Ok Tryz.prog := ⟨fun x => Aa (Ai (Af (.c (X9x k) .n)) _ _ _ _) Ah Tryz.func98 rfl rfl (X9r k _ some), .of (by kernel_rfl)⟩
def Yj5 : Nat → Hint
 | 0 => ⟨pl 0 1 (pl 3 2 []), pl 7000 1 []⟩
 | _ => ⟨[], []⟩
abbrev Xjg (k : Nat) : Env := A6 (Aw [X38 k]) Yj5 .own [] k
abbrev Xq6 : List PA := [.one (.sl .ro A2)]
abbrev F36_O : RO := ⟨[.v], [.sl .own A2]⟩
noncomputable def Ykn {β : Type} (k : Nat) (v : Ab) (K : KT β) : Ex → St → Option β := Be (Xjg k) Tryz.f36 (PsT.put Xq6 (v, ())) K
def Ydk (v : Ab) (x4_0 : Int) (m7000_0 : Ab) : St := ⟨(.one (.s .ro A2 v)) :: (.one .d) :: (.one .d) :: (.one (.a (.cell 7000) 0 0 none)) :: (.one (vI x4_0)) :: dz 18 [], [eM 7000 (.s .own A2 m7000_0)]⟩
noncomputable def Vl {β : Type} (k : Nat) (v : Ab) (K : KT β) (n : Nat) (x4_0 : Int) (m7000_0 : Ab) : Option β := A0 (Xjg k) Tryz.f36 [1, 1, 0, 1, 0] 0 (Ad (Xjg k) [1, 1, 0, 1, 0] (Ae Tryz.f36) 0 (Ykn k v K)) n (Ydk v x4_0 m7000_0)
def Jq {β : Type} (NX : Int → Ab → Option β) (RET : Ab → Option β) (k : Nat) (v : Ab) (x4_0 : Int) (m7000_0 : Ab) : Option β := cond (decide (x4_0 < (v.length : Int))) (As x4_0 v ((F98 k (Ac v x4_0)).bind fun b1 => As x4_0 m7000_0 (NX (i64.wrap (x4_0 + 1)) (m7000_0.set x4_0.toNat b1)))) (RET m7000_0)
def Mk (k : Nat) (v : Ab) : Nat → Int → Ab → Option (Ab)
 | 0, _, _ => none
 | n + 1, x4_0, m7000_0 => Jq (Mk k v n) some k v x4_0 m7000_0
theorem Xmx {β : Type} (k : Nat) (v : Ab) (K : KT β) (n : Nat) : ∀ (x4_0 : Int) (m7000_0 : Ab), Vl k v K n x4_0 m7000_0 =
  (Mk k v n x4_0 m7000_0).bind fun r => K (F36_O.put r) := by
 induction n with
 | zero => intros; rfl
 | succ n ih =>
  intro x4_0 m7000_0
  refine Eq.trans (b := Jq (Vl k v K n) (fun r => K (F36_O.put r)) k v x4_0 m7000_0) (by kernel_rfl) ?_
  rw [Mk]
  simp only [Jq, z1, z2, z3, z4, z5, z6, z7, z8, ih]
def Xk5 {β : Type} (LP0 : Int → Ab → Option β) (k : Nat) (v : Ab) : Option β := cond (decide (0 ≤ (v.length : Int)) && decide ((v.length : Int) = (v.length : Int)) && decide ((v.length : Int) * (32 : Nat) ≤ 140737488355328)) (LP0 0 (List.replicate ((v.length : Int).toNat) (Bl A2))) none
def F36 (k : Nat) (v : Ab) : Option (Ab) := Xk5 (Mk k v k) k v
theorem X8e {β : Type} (k : Nat) (v : Ab) (K : KT β) : Ag (Xjg k) Tryz.f36 (PsT.put Xq6 (v, ())) K = (F36 k v).bind fun r => K (F36_O.put r) :=
 Eq.trans (b := Xk5 (Vl k v K k) k v) (by kernel_rfl) (by simp only [F36, Xk5, z1, z2, z3, z4, z5, z6, z7, z8, Xmx])
def X36 (k : Nat) : FD := ⟨36, Xq6, F36_O, F36 k⟩
theorem Yhz (k : Nat) : (X36 k).Ok Tryz.prog := ⟨fun x => Aa (Ai (Af (.c (Yjd k) .n)) _ _ _ _) Ah Tryz.func36 rfl rfl (X8e k _ some), .of (by kernel_rfl)⟩
abbrev Ydz (k : Nat) : Env := A6 Bn Ap .own [] k
abbrev Xvc : List PA := [.agg m_3]
abbrev F207_O : RO := ⟨[.a], [m_3]⟩
def Xuq (k : Nat) (v : (den Ce)) : Option ((den Ce)) := some v
theorem X1g {β : Type} (k : Nat) (v : (den Ce)) (K : KT β) : Ag (Ydz k) Tryz.f207 (PsT.put Xvc (v, ())) K = (Xuq k v).bind fun r => K (F207_O.put r) :=
 Eq.trans (b := K (F207_O.put v)) (by kernel_rfl) (by simp only [Xuq, z1, z2, z3, z4, z5, z6, z7, z8])
def Xrx (k : Nat) : FD := ⟨207, Xvc, F207_O, Xuq k⟩
theorem Yal (k : Nat) : (Xrx k).Ok Tryz.prog := ⟨fun x => Aa (Ai .none _ _ _ _) Ah Tryz.func207 rfl rfl (X1g k _ some), .of (by kernel_rfl)⟩
def Ybe : Nat → Hint
 | 0 => ⟨pl 0 1 (pl 3 2 []), pl 7000 1 []⟩
 | _ => ⟨[], []⟩
abbrev Xn (k : Nat) : Env := A6 (Aw [Xrx k]) Ybe .own [] k
abbrev Xg6 : List PA := [.one (.sl .ro Ce)]
abbrev F139_O : RO := ⟨[.v], [.sl .own Ce]⟩
noncomputable def Yc6 {β : Type} (k : Nat) (v : Az) (K : KT β) : Ex → St → Option β := Be (Xn k) Tryz.f139 (PsT.put Xg6 (v, ())) K
def Xyy (v : Az) (x4_0 : Int) (m7000_0 : Az) : St := ⟨(.one (.s .ro Ce v)) :: (.one .d) :: (.one .d) :: (.one (.a (.cell 7000) 0 0 none)) :: (.one (vI x4_0)) :: dz 18 [], [eM 7000 (.s .own Ce m7000_0)]⟩
noncomputable def P4 {β : Type} (k : Nat) (v : Az) (K : KT β) (n : Nat) (x4_0 : Int) (m7000_0 : Az) : Option β := A0 (Xn k) Tryz.f139 [1, 1, 0, 1, 0] 0 (Ad (Xn k) [1, 1, 0, 1, 0] (Ae Tryz.f139) 0 (Yc6 k v K)) n (Xyy v x4_0 m7000_0)
def Gq {β : Type} (NX : Int → Az → Option β) (RET : Az → Option β) (k : Nat) (v : Az) (x4_0 : Int) (m7000_0 : Az) : Option β := cond (decide (x4_0 < (v.length : Int))) (As x4_0 v ((Xuq k (Ac v x4_0)).bind fun b1 => As x4_0 m7000_0 (NX (i64.wrap (x4_0 + 1)) (m7000_0.set x4_0.toNat b1)))) (RET m7000_0)
def Ik (k : Nat) (v : Az) : Nat → Int → Az → Option (Az)
 | 0, _, _ => none
 | n + 1, x4_0, m7000_0 => Gq (Ik k v n) some k v x4_0 m7000_0
theorem Xgw {β : Type} (k : Nat) (v : Az) (K : KT β) (n : Nat) : ∀ (x4_0 : Int) (m7000_0 : Az), P4 k v K n x4_0 m7000_0 =
  (Ik k v n x4_0 m7000_0).bind fun r => K (F139_O.put r) := by
 induction n with
 | zero => intros; rfl
 | succ n ih =>
  intro x4_0 m7000_0
  refine Eq.trans (b := Gq (P4 k v K n) (fun r => K (F139_O.put r)) k v x4_0 m7000_0) (by kernel_rfl) ?_
  rw [Ik]
  simp only [Gq, z1, z2, z3, z4, z5, z6, z7, z8, ih]
def Zv {β : Type} (LP0 : Int → Az → Option β) (k : Nat) (v : Az) : Option β := cond (decide (0 ≤ (v.length : Int)) && decide ((v.length : Int) = (v.length : Int)) && decide ((v.length : Int) * (32 : Nat) ≤ 140737488355328)) (LP0 0 (List.replicate ((v.length : Int).toNat) (Bl Ce))) none
def Xf3 (k : Nat) (v : Az) : Option (Az) := Zv (Ik k v k) k v
theorem Xz6 {β : Type} (k : Nat) (v : Az) (K : KT β) : Ag (Xn k) Tryz.f139 (PsT.put Xg6 (v, ())) K = (Xf3 k v).bind fun r => K (F139_O.put r) :=
 Eq.trans (b := Zv (P4 k v K k) k v) (by kernel_rfl) (by simp only [Xf3, Zv, z1, z2, z3, z4, z5, z6, z7, z8, Xgw])
def Xq8 (k : Nat) : FD := ⟨139, Xg6, F139_O, Xf3 k⟩
theorem X81 (k : Nat) : (Xq8 k).Ok Tryz.prog := ⟨fun x => Aa (Ai (Af (.c (Yal k) .n)) _ _ _ _) Ah Tryz.func139 rfl rfl (Xz6 k _ some), .of (by kernel_rfl)⟩
abbrev Yic (k : Nat) : Env := A6 (Aw [Xq8 k]) Ap .own [] k
abbrev X4z : List PA := [.agg (.pair mI (.sl .ro Ce))]
abbrev F63_O : RO := ⟨[.a], [.pair mI (.sl .own Ce)]⟩
def F63 (k : Nat) (v : (den sta)) : Option ((den sta)) := (Xf3 k v.2).bind fun b1 => some (v.1, b1)
theorem X64 {β : Type} (k : Nat) (v : (den sta)) (K : KT β) : Ag (Yic k) Tryz.f63 (PsT.put X4z (v, ())) K = (F63 k v).bind fun r => K (F63_O.put r) :=
 Eq.trans (b := (Xf3 k v.2).bind fun b1 => K (F63_O.put (v.1, b1))) (by kernel_rfl) (by simp only [F63, z1, z2, z3, z4, z5, z6, z7, z8])
def X5a (k : Nat) : FD := ⟨63, X4z, F63_O, F63 k⟩
theorem Ygx (k : Nat) : (X5a k).Ok Tryz.prog := ⟨fun x => Aa (Ai (Af (.c (X81 k) .n)) _ _ _ _) Ah Tryz.func63 rfl rfl (X64 k _ some), .of (by kernel_rfl)⟩
def Ykk : Nat → Hint
 | 0 => ⟨pl 0 1 (pl 3 2 []), pl 7000 1 []⟩
 | _ => ⟨[], []⟩
abbrev Xlw (k : Nat) : Env := A6 (Aw [X5a k]) Ykk .own [] k
abbrev Xti : List PA := [.one (.sl .ro sta)]
abbrev F14_O : RO := ⟨[.v], [.sl .own sta]⟩
noncomputable def Ygv {β : Type} (k : Nat) (v : Ak) (K : KT β) : Ex → St → Option β := Be (Xlw k) Tryz.f14 (PsT.put Xti (v, ())) K
def Yeb (v : Ak) (x4_0 : Int) (m7000_0 : Ak) : St := ⟨(.one (.s .ro sta v)) :: (.one .d) :: (.one .d) :: (.one (.a (.cell 7000) 0 0 none)) :: (.one (vI x4_0)) :: dz 18 [], [eM 7000 (.s .own sta m7000_0)]⟩
noncomputable def Tt {β : Type} (k : Nat) (v : Ak) (K : KT β) (n : Nat) (x4_0 : Int) (m7000_0 : Ak) : Option β := A0 (Xlw k) Tryz.f14 [1, 1, 0, 1, 0] 0 (Ad (Xlw k) [1, 1, 0, 1, 0] (Ae Tryz.f14) 0 (Ygv k v K)) n (Yeb v x4_0 m7000_0)
def I6 {β : Type} (NX : Int → Ak → Option β) (RET : Ak → Option β) (k : Nat) (v : Ak) (x4_0 : Int) (m7000_0 : Ak) : Option β := cond (decide (x4_0 < (v.length : Int))) (As x4_0 v ((F63 k (Ac v x4_0)).bind fun b1 => As x4_0 m7000_0 (NX (i64.wrap (x4_0 + 1)) (m7000_0.set x4_0.toNat b1)))) (RET m7000_0)
def Mp (k : Nat) (v : Ak) : Nat → Int → Ak → Option (Ak)
 | 0, _, _ => none
 | n + 1, x4_0, m7000_0 => I6 (Mp k v n) some k v x4_0 m7000_0
theorem Xm5 {β : Type} (k : Nat) (v : Ak) (K : KT β) (n : Nat) : ∀ (x4_0 : Int) (m7000_0 : Ak), Tt k v K n x4_0 m7000_0 =
  (Mp k v n x4_0 m7000_0).bind fun r => K (F14_O.put r) := by
 induction n with
 | zero => intros; rfl
 | succ n ih =>
  intro x4_0 m7000_0
  refine Eq.trans (b := I6 (Tt k v K n) (fun r => K (F14_O.put r)) k v x4_0 m7000_0) (by kernel_rfl) ?_
  rw [Mp]
  simp only [I6, z1, z2, z3, z4, z5, z6, z7, z8, ih]
def Xjh {β : Type} (LP0 : Int → Ak → Option β) (k : Nat) (v : Ak) : Option β := cond (decide (0 ≤ (v.length : Int)) && decide ((v.length : Int) = (v.length : Int)) && decide ((v.length : Int) * (32 : Nat) ≤ 140737488355328)) (LP0 0 (List.replicate ((v.length : Int).toNat) (Bl sta))) none
def F14 (k : Nat) (v : Ak) : Option (Ak) := Xjh (Mp k v k) k v
theorem X6y {β : Type} (k : Nat) (v : Ak) (K : KT β) : Ag (Xlw k) Tryz.f14 (PsT.put Xti (v, ())) K = (F14 k v).bind fun r => K (F14_O.put r) :=
 Eq.trans (b := Xjh (Tt k v K k) k v) (by kernel_rfl) (by simp only [F14, Xjh, z1, z2, z3, z4, z5, z6, z7, z8, Xm5])
def X48 (k : Nat) : FD := ⟨14, Xti, F14_O, F14 k⟩
theorem Yg0 (k : Nat) : (X48 k).Ok Tryz.prog := ⟨fun x => Aa (Ai (Af (.c (Ygx k) .n)) _ _ _ _) Ah Tryz.func14 rfl rfl (X6y k _ some), .of (by kernel_rfl)⟩
end
end Go.Proofs.YtdmepjjepogddaaGreat.Gn
end

section
set_option linter.unusedVariables false
set_option linter.unusedSimpArgs false
namespace Go.Proofs.YtdmepjjepogddaaGreat.Gn
open Go.Rf IntKind
noncomputable section
def Ygz : Nat → Hint
 | 0 => ⟨pl 0 2 (pl 5 1 []), []⟩
 | _ => ⟨[], []⟩
abbrev Xk4 (k : Nat) : Env := A6 Bn Ygz .own [] k
abbrev Xrm : List PA := [.one (.sl .ro (.int .u8)), .one (.sl .ro (.int .u8))]
abbrev F17_O : RO := ⟨[.v], [mB]⟩
noncomputable def Yhl {β : Type} (k : Nat) (v w : Aj) (K : KT β) : Ex → St → Option β := Be (Xk4 k) Tryz.f17 (PsT.put Xrm (v, w, ())) K
def Yci (v w : Aj) (x5_0 : Int) : St := ⟨(.one (.s .ro (.int .u8) v)) :: (.one (.s .ro (.int .u8) w)) :: dz 3 ((.one (vI x5_0)) :: dz 20 []), []⟩
noncomputable def Us {β : Type} (k : Nat) (v w : Aj) (K : KT β) (n : Nat) (x5_0 : Int) : Option β := A0 (Xk4 k) Tryz.f17 [1, 1, 0, 1, 0] 0 (Ad (Xk4 k) [1, 1, 0, 1, 0] (Ae Tryz.f17) 0 (Yhl k v w K)) n (Yci v w x5_0)
def Js {β : Type} (NX : Int → Option β) (RET : Bool → Option β) (k : Nat) (v w : Aj) (x5_0 : Int) : Option β := cond (decide (x5_0 < (v.length : Int))) (As x5_0 v (As x5_0 w (cond ((Ac v x5_0) != (Ac w x5_0)) (RET false) (NX (i64.wrap (x5_0 + 1)))))) (RET true)
def Mt (k : Nat) (v w : Aj) : Nat → Int → Option (Bool)
 | 0, _ => none
 | n + 1, x5_0 => Js (Mt k v w n) some k v w x5_0
theorem Xo1 {β : Type} (k : Nat) (v w : Aj) (K : KT β) (n : Nat) : ∀ (x5_0 : Int), Us k v w K n x5_0 =
  (Mt k v w n x5_0).bind fun r => K (F17_O.put r) := by
 induction n with
 | zero => intros; rfl
 | succ n ih =>
  intro x5_0
  refine Eq.trans (b := Js (Us k v w K n) (fun r => K (F17_O.put r)) k v w x5_0) (by kernel_rfl) ?_
  rw [Mt]
  simp only [Js, z1, z2, z3, z4, z5, z6, z7, z8, ih]
def Xlj {β : Type} (LP0 : Int → Option β) (RET : Bool → Option β) (k : Nat) (v w : Aj) : Option β := cond ((v.length : Int) != (w.length : Int)) (RET false) (LP0 0)
def F17 (k : Nat) (v w : Aj) : Option (Bool) := Xlj (Mt k v w k) some k v w
theorem X9v {β : Type} (k : Nat) (v w : Aj) (K : KT β) : Ag (Xk4 k) Tryz.f17 (PsT.put Xrm (v, w, ())) K = (F17 k v w).bind fun r => K (F17_O.put r) :=
 Eq.trans (b := Xlj (Us k v w K k) (fun r => K (F17_O.put r)) k v w) (by kernel_rfl) (by simp only [F17, Xlj, z1, z2, z3, z4, z5, z6, z7, z8, Xo1])
def X5k (k : Nat) : FD := ⟨17, Xrm, F17_O, F17 k⟩
theorem Yht (k : Nat) : (X5k k).Ok Tryz.prog := ⟨fun x => Aa (Ai .none _ _ _ _) Ah Tryz.func17 rfl rfl (X9v k _ _ some), .of (by kernel_rfl)⟩
abbrev Ygu (k : Nat) : Env := A6 (Aw [X5k k]) Ap .own [] k
abbrev X6l : List PA := [.agg (.pair mI (.pair mI Qj)), .agg (.pair mI (.pair mI Qj))]
abbrev F39_O : RO := ⟨[.v], [mB]⟩
def Xkd {β : Type} (RET : Bool → Option β) (k : Nat) (v w : (den A5)) : Option β := cond (v.1 != w.1) (RET false) (cond (v.2.1 != w.2.1) (RET false) (cond (v.2.2.1 != w.2.2.1) (RET false) ((F17 k v.2.2.2 w.2.2.2).bind fun b1 => cond (!b1) (RET false) (RET true))))
def F39 := Xkd (β := Bool) some
theorem X7q {β : Type} (k : Nat) (v w : (den A5)) (K : KT β) : Ag (Ygu k) Tryz.f39 (PsT.put X6l (v, w, ())) K = (F39 k v w).bind fun r => K (F39_O.put r) :=
 Eq.trans (b := Xkd (fun r => K (F39_O.put r)) k v w) (by kernel_rfl) (by simp only [F39, Xkd, z1, z2, z3, z4, z5, z6, z7, z8, Ff])
def Xph (k : Nat) : FD := ⟨39, X6l, F39_O, F39 k⟩
theorem X6c (k : Nat) : (Xph k).Ok Tryz.prog := ⟨fun x => Aa (Ai (Af (.c (Yht k) .n)) _ _ _ _) Ah Tryz.func39 rfl rfl (X7q k _ _ some), .of (by kernel_rfl)⟩
def X9j : Nat → Hint
 | 0 => ⟨pl 0 2 (pl 5 1 []), []⟩
 | _ => ⟨[], []⟩
abbrev Zm (k : Nat) : Env := A6 (Aw [Xph k]) X9j .own [] k
abbrev Xi0 : List PA := [.one (.sl .ro A5), .one (.sl .ro A5)]
abbrev F168_O : RO := ⟨[.v], [mB]⟩
noncomputable def Yem {β : Type} (k : Nat) (v w : Au) (K : KT β) : Ex → St → Option β := Be (Zm k) Tryz.f168 (PsT.put Xi0 (v, w, ())) K
def X0w (v w : Au) (x5_0 : Int) : St := ⟨(.one (.s .ro A5 v)) :: (.one (.s .ro A5 w)) :: dz 3 ((.one (vI x5_0)) :: dz 21 []), []⟩
noncomputable def Qf {β : Type} (k : Nat) (v w : Au) (K : KT β) (n : Nat) (x5_0 : Int) : Option β := A0 (Zm k) Tryz.f168 [1, 1, 0, 1, 0] 0 (Ad (Zm k) [1, 1, 0, 1, 0] (Ae Tryz.f168) 0 (Yem k v w K)) n (X0w v w x5_0)
def Gp {β : Type} (NX : Int → Option β) (RET : Bool → Option β) (k : Nat) (v w : Au) (x5_0 : Int) : Option β := cond (decide (x5_0 < (v.length : Int))) (As x5_0 v (As x5_0 w ((F39 k (Ac v x5_0) (Ac w x5_0)).bind fun b1 => cond (!b1) (RET false) (NX (i64.wrap (x5_0 + 1)))))) (RET true)
def Hv (k : Nat) (v w : Au) : Nat → Int → Option (Bool)
 | 0, _ => none
 | n + 1, x5_0 => Gp (Hv k v w n) some k v w x5_0
theorem Xir {β : Type} (k : Nat) (v w : Au) (K : KT β) (n : Nat) : ∀ (x5_0 : Int), Qf k v w K n x5_0 =
  (Hv k v w n x5_0).bind fun r => K (F168_O.put r) := by
 induction n with
 | zero => intros; rfl
 | succ n ih =>
  intro x5_0
  refine Eq.trans (b := Gp (Qf k v w K n) (fun r => K (F168_O.put r)) k v w x5_0) (by kernel_rfl) ?_
  rw [Hv]
  simp only [Gp, z1, z2, z3, z4, z5, z6, z7, z8, ih]
def Xaq {β : Type} (LP0 : Int → Option β) (RET : Bool → Option β) (k : Nat) (v w : Au) : Option β := cond ((v.length : Int) != (w.length : Int)) (RET false) (LP0 0)
def Xor (k : Nat) (v w : Au) : Option (Bool) := Xaq (Hv k v w k) some k v w
theorem X16 {β : Type} (k : Nat) (v w : Au) (K : KT β) : Ag (Zm k) Tryz.f168 (PsT.put Xi0 (v, w, ())) K = (Xor k v w).bind fun r => K (F168_O.put r) :=
 Eq.trans (b := Xaq (Qf k v w K k) (fun r => K (F168_O.put r)) k v w) (by kernel_rfl) (by simp only [Xor, Xaq, z1, z2, z3, z4, z5, z6, z7, z8, Xir])
def Xrn (k : Nat) : FD := ⟨168, Xi0, F168_O, Xor k⟩
theorem X9o (k : Nat) : (Xrn k).Ok Tryz.prog := ⟨fun x => Aa (Ai (Af (.c (X6c k) .n)) _ _ _ _) Ah Tryz.func168 rfl rfl (X16 k _ _ some), .of (by kernel_rfl)⟩
abbrev Yix (k : Nat) : Env := A6 (Aw [Xrn k]) Ap .own [] k
abbrev X4q : List PA := [.agg (.pair mI (.sl .ro A5)), .agg (.pair mI (.sl .ro A5))]
abbrev F99_O : RO := ⟨[.v], [mB]⟩
def Xjk {β : Type} (RET : Bool → Option β) (k : Nat) (v w : (den A2)) : Option β := cond (v.1 != w.1) (RET false) ((Xor k v.2 w.2).bind fun b1 => cond (!b1) (RET false) (RET true))
def F99 := Xjk (β := Bool) some
theorem Yd2 {β : Type} (k : Nat) (v w : (den A2)) (K : KT β) : Ag (Yix k) Tryz.f99 (PsT.put X4q (v, w, ())) K = (F99 k v w).bind fun r => K (F99_O.put r) :=
 Eq.trans (b := Xjk (fun r => K (F99_O.put r)) k v w) (by kernel_rfl) (by simp only [F99, Xjk, z1, z2, z3, z4, z5, z6, z7, z8])
def X4u (k : Nat) : FD := ⟨99, X4q, F99_O, F99 k⟩
theorem Ykl (k : Nat) : (X4u k).Ok Tryz.prog := ⟨fun x => Aa (Ai (Af (.c (X9o k) .n)) _ _ _ _) Ah Tryz.func99 rfl rfl (Yd2 k _ _ some), .of (by kernel_rfl)⟩
def Yjf : Nat → Hint
 | 0 => ⟨pl 0 2 (pl 5 1 []), []⟩
 | _ => ⟨[], []⟩
abbrev Xlv (k : Nat) : Env := A6 (Aw [X4u k]) Yjf .own [] k
abbrev Xxv : List PA := [.one (.sl .ro A2), .one (.sl .ro A2)]
abbrev F38_O : RO := ⟨[.v], [mB]⟩
noncomputable def Yhf {β : Type} (k : Nat) (v w : Ab) (K : KT β) : Ex → St → Option β := Be (Xlv k) Tryz.f38 (PsT.put Xxv (v, w, ())) K
def Yen (v w : Ab) (x5_0 : Int) : St := ⟨(.one (.s .ro A2 v)) :: (.one (.s .ro A2 w)) :: dz 3 ((.one (vI x5_0)) :: dz 21 []), []⟩
noncomputable def Vi {β : Type} (k : Nat) (v w : Ab) (K : KT β) (n : Nat) (x5_0 : Int) : Option β := A0 (Xlv k) Tryz.f38 [1, 1, 0, 1, 0] 0 (Ad (Xlv k) [1, 1, 0, 1, 0] (Ae Tryz.f38) 0 (Yhf k v w K)) n (Yen v w x5_0)
def Kc {β : Type} (NX : Int → Option β) (RET : Bool → Option β) (k : Nat) (v w : Ab) (x5_0 : Int) : Option β := cond (decide (x5_0 < (v.length : Int))) (As x5_0 v (As x5_0 w ((F99 k (Ac v x5_0) (Ac w x5_0)).bind fun b1 => cond (!b1) (RET false) (NX (i64.wrap (x5_0 + 1)))))) (RET true)
def Ml (k : Nat) (v w : Ab) : Nat → Int → Option (Bool)
 | 0, _ => none
 | n + 1, x5_0 => Kc (Ml k v w n) some k v w x5_0
theorem Xn7 {β : Type} (k : Nat) (v w : Ab) (K : KT β) (n : Nat) : ∀ (x5_0 : Int), Vi k v w K n x5_0 =
  (Ml k v w n x5_0).bind fun r => K (F38_O.put r) := by
 induction n with
 | zero => intros; rfl
 | succ n ih =>
  intro x5_0
  refine Eq.trans (b := Kc (Vi k v w K n) (fun r => K (F38_O.put r)) k v w x5_0) (by kernel_rfl) ?_
  rw [Ml]
  simp only [Kc, z1, z2, z3, z4, z5, z6, z7, z8, ih]
def Xl6 {β : Type} (LP0 : Int → Option β) (RET : Bool → Option β) (k : Nat) (v w : Ab) : Option β := cond ((v.length : Int) != (w.length : Int)) (RET false) (LP0 0)
def F38 (k : Nat) (v w : Ab) : Option (Bool) := Xl6 (Ml k v w k) some k v w
theorem X8z {β : Type} (k : Nat) (v w : Ab) (K : KT β) : Ag (Xlv k) Tryz.f38 (PsT.put Xxv (v, w, ())) K = (F38 k v w).bind fun r => K (F38_O.put r) :=
 Eq.trans (b := Xl6 (Vi k v w K k) (fun r => K (F38_O.put r)) k v w) (by kernel_rfl) (by simp only [F38, Xl6, z1, z2, z3, z4, z5, z6, z7, z8, Xn7])
def X47 (k : Nat) : FD := ⟨38, Xxv, F38_O, F38 k⟩
theorem Yib (k : Nat) : (X47 k).Ok Tryz.prog := ⟨fun x => Aa (Ai (Af (.c (Ykl k) .n)) _ _ _ _) Ah Tryz.func38 rfl rfl (X8z k _ _ some), .of (by kernel_rfl)⟩
abbrev Yaf (k : Nat) : Env := A6 Bn Ap .own [] k
abbrev Xpw : List PA := [.agg m_3, .agg m_3]
abbrev F221_O : RO := ⟨[.v], [mB]⟩
def Zc {β : Type} (RET : Bool → Option β) (k : Nat) (v w : (den Ce)) : Option β := cond (v.1 != w.1) (RET false) (cond (v.2.1 != w.2.1) (RET false) (cond (v.2.2.1 != w.2.2.1) (RET false) (cond (v.2.2.2 != w.2.2.2) (RET false) (RET true))))
def Xpa := Zc (β := Bool) some
theorem Xz0 {β : Type} (k : Nat) (v w : (den Ce)) (K : KT β) : Ag (Yaf k) Tryz.f221 (PsT.put Xpw (v, w, ())) K = (Xpa k v w).bind fun r => K (F221_O.put r) :=
 Eq.trans (b := Zc (fun r => K (F221_O.put r)) k v w) (by kernel_rfl) (by simp only [Xpa, Zc, z1, z2, z3, z4, z5, z6, z7, z8, Gl])
def Xs5 (k : Nat) : FD := ⟨221, Xpw, F221_O, Xpa k⟩
theorem X79 (k : Nat) : (Xs5 k).Ok Tryz.prog := ⟨fun x => Aa (Ai .none _ _ _ _) Ah Tryz.func221 rfl rfl (Xz0 k _ _ some), .of (by kernel_rfl)⟩
def Yf3 : Nat → Hint
 | 0 => ⟨pl 0 2 (pl 5 1 []), []⟩
 | _ => ⟨[], []⟩
abbrev Xad (k : Nat) : Env := A6 (Aw [Xs5 k]) Yf3 .own [] k
abbrev Xhr : List PA := [.one (.sl .ro Ce), .one (.sl .ro Ce)]
abbrev F142_O : RO := ⟨[.v], [mB]⟩
noncomputable def Yd0 {β : Type} (k : Nat) (v w : Az) (K : KT β) : Ex → St → Option β := Be (Xad k) Tryz.f142 (PsT.put Xhr (v, w, ())) K
def X30 (v w : Az) (x5_0 : Int) : St := ⟨(.one (.s .ro Ce v)) :: (.one (.s .ro Ce w)) :: dz 3 ((.one (vI x5_0)) :: dz 21 []), []⟩
noncomputable def P0 {β : Type} (k : Nat) (v w : Az) (K : KT β) (n : Nat) (x5_0 : Int) : Option β := A0 (Xad k) Tryz.f142 [1, 1, 0, 1, 0] 0 (Ad (Xad k) [1, 1, 0, 1, 0] (Ae Tryz.f142) 0 (Yd0 k v w K)) n (X30 v w x5_0)
def Gv {β : Type} (NX : Int → Option β) (RET : Bool → Option β) (k : Nat) (v w : Az) (x5_0 : Int) : Option β := cond (decide (x5_0 < (v.length : Int))) (As x5_0 v (As x5_0 w ((Xpa k (Ac v x5_0) (Ac w x5_0)).bind fun b1 => cond (!b1) (RET false) (NX (i64.wrap (x5_0 + 1)))))) (RET true)
def Hz (k : Nat) (v w : Az) : Nat → Int → Option (Bool)
 | 0, _ => none
 | n + 1, x5_0 => Gv (Hz k v w n) some k v w x5_0
theorem Xh2 {β : Type} (k : Nat) (v w : Az) (K : KT β) (n : Nat) : ∀ (x5_0 : Int), P0 k v w K n x5_0 =
  (Hz k v w n x5_0).bind fun r => K (F142_O.put r) := by
 induction n with
 | zero => intros; rfl
 | succ n ih =>
  intro x5_0
  refine Eq.trans (b := Gv (P0 k v w K n) (fun r => K (F142_O.put r)) k v w x5_0) (by kernel_rfl) ?_
  rw [Hz]
  simp only [Gv, z1, z2, z3, z4, z5, z6, z7, z8, ih]
def Xl {β : Type} (LP0 : Int → Option β) (RET : Bool → Option β) (k : Nat) (v w : Az) : Option β := cond ((v.length : Int) != (w.length : Int)) (RET false) (LP0 0)
def Xnj (k : Nat) (v w : Az) : Option (Bool) := Xl (Hz k v w k) some k v w
theorem X1b {β : Type} (k : Nat) (v w : Az) (K : KT β) : Ag (Xad k) Tryz.f142 (PsT.put Xhr (v, w, ())) K = (Xnj k v w).bind fun r => K (F142_O.put r) :=
 Eq.trans (b := Xl (P0 k v w K k) (fun r => K (F142_O.put r)) k v w) (by kernel_rfl) (by simp only [Xnj, Xl, z1, z2, z3, z4, z5, z6, z7, z8, Xh2])
def Xqj (k : Nat) : FD := ⟨142, Xhr, F142_O, Xnj k⟩
theorem Ybv (k : Nat) : (Xqj k).Ok Tryz.prog := ⟨fun x => Aa (Ai (Af (.c (X79 k) .n)) _ _ _ _) Ah Tryz.func142 rfl rfl (X1b k _ _ some), .of (by kernel_rfl)⟩
abbrev Yi4 (k : Nat) : Env := A6 (Aw [Xqj k]) Ap .own [] k
abbrev X50 : List PA := [.agg (.pair mI (.sl .ro Ce)), .agg (.pair mI (.sl .ro Ce))]
abbrev F67_O : RO := ⟨[.v], [mB]⟩
def Xje {β : Type} (RET : Bool → Option β) (k : Nat) (v w : (den sta)) : Option β := cond (v.1 != w.1) (RET false) ((Xnj k v.2 w.2).bind fun b1 => cond (!b1) (RET false) (RET true))
def F67 := Xje (β := Bool) some
theorem X7v {β : Type} (k : Nat) (v w : (den sta)) (K : KT β) : Ag (Yi4 k) Tryz.f67 (PsT.put X50 (v, w, ())) K = (F67 k v w).bind fun r => K (F67_O.put r) :=
 Eq.trans (b := Xje (fun r => K (F67_O.put r)) k v w) (by kernel_rfl) (by simp only [F67, Xje, z1, z2, z3, z4, z5, z6, z7, z8])
def X45 (k : Nat) : FD := ⟨67, X50, F67_O, F67 k⟩
theorem Yh8 (k : Nat) : (X45 k).Ok Tryz.prog := ⟨fun x => Aa (Ai (Af (.c (Ybv k) .n)) _ _ _ _) Ah Tryz.func67 rfl rfl (X7v k _ _ some), .of (by kernel_rfl)⟩
def Yg2 : Nat → Hint
 | 0 => ⟨pl 0 2 (pl 5 1 []), []⟩
 | _ => ⟨[], []⟩
abbrev Xj2 (k : Nat) : Env := A6 (Aw [X45 k]) Yg2 .own [] k
abbrev Xvj : List PA := [.one (.sl .ro sta), .one (.sl .ro sta)]
abbrev F18_O : RO := ⟨[.v], [mB]⟩
noncomputable def Yim {β : Type} (k : Nat) (v w : Ak) (K : KT β) : Ex → St → Option β := Be (Xj2 k) Tryz.f18 (PsT.put Xvj (v, w, ())) K
def X7w (v w : Ak) (x5_0 : Int) : St := ⟨(.one (.s .ro sta v)) :: (.one (.s .ro sta w)) :: dz 3 ((.one (vI x5_0)) :: dz 21 []), []⟩
noncomputable def S9 {β : Type} (k : Nat) (v w : Ak) (K : KT β) (n : Nat) (x5_0 : Int) : Option β := A0 (Xj2 k) Tryz.f18 [1, 1, 0, 1, 0] 0 (Ad (Xj2 k) [1, 1, 0, 1, 0] (Ae Tryz.f18) 0 (Yim k v w K)) n (X7w v w x5_0)
def Jt {β : Type} (NX : Int → Option β) (RET : Bool → Option β) (k : Nat) (v w : Ak) (x5_0 : Int) : Option β := cond (decide (x5_0 < (v.length : Int))) (As x5_0 v (As x5_0 w ((F67 k (Ac v x5_0) (Ac w x5_0)).bind fun b1 => cond (!b1) (RET false) (NX (i64.wrap (x5_0 + 1)))))) (RET true)
def Nc (k : Nat) (v w : Ak) : Nat → Int → Option (Bool)
 | 0, _ => none
 | n + 1, x5_0 => Jt (Nc k v w n) some k v w x5_0
theorem Xmf {β : Type} (k : Nat) (v w : Ak) (K : KT β) (n : Nat) : ∀ (x5_0 : Int), S9 k v w K n x5_0 =
  (Nc k v w n x5_0).bind fun r => K (F18_O.put r) := by
 induction n with
 | zero => intros; rfl
 | succ n ih =>
  intro x5_0
  refine Eq.trans (b := Jt (S9 k v w K n) (fun r => K (F18_O.put r)) k v w x5_0) (by kernel_rfl) ?_
  rw [Nc]
  simp only [Jt, z1, z2, z3, z4, z5, z6, z7, z8, ih]
def Xi9 {β : Type} (LP0 : Int → Option β) (RET : Bool → Option β) (k : Nat) (v w : Ak) : Option β := cond ((v.length : Int) != (w.length : Int)) (RET false) (LP0 0)
def F18 (k : Nat) (v w : Ak) : Option (Bool) := Xi9 (Nc k v w k) some k v w
theorem Yca {β : Type} (k : Nat) (v w : Ak) (K : KT β) : Ag (Xj2 k) Tryz.f18 (PsT.put Xvj (v, w, ())) K = (F18 k v w).bind fun r => K (F18_O.put r) :=
 Eq.trans (b := Xi9 (S9 k v w K k) (fun r => K (F18_O.put r)) k v w) (by kernel_rfl) (by simp only [F18, Xi9, z1, z2, z3, z4, z5, z6, z7, z8, Xmf])
def X4s (k : Nat) : FD := ⟨18, Xvj, F18_O, F18 k⟩
theorem Yi2 (k : Nat) : (X4s k).Ok Tryz.prog := ⟨fun x => Aa (Ai (Af (.c (Yh8 k) .n)) _ _ _ _) Ah Tryz.func18 rfl rfl (Yca k _ _ some), .of (by kernel_rfl)⟩
def Yif : Nat → Hint
 | 0 => ⟨pl 0 2 (pl 5 1 []), pl 0 1 []⟩
 | _ => ⟨[], []⟩
abbrev Xlk (k : Nat) : Env := A6 Bn Yif .own [(true, 0)] k
abbrev Xwi : List PA := [.one (.lent .own (.int .u8)), .one mI]
abbrev F20_O : RO := ⟨[.v], [mI, .sl .own (.int .u8)]⟩
noncomputable def Yh2 {β : Type} (k : Nat) (v : Aj) (w : Int) (K : KT β) : Ex → St → Option β := Be (Xlk k) Tryz.f20 (PsT.put Xwi (v, w, ())) K
def Yfd (v : Aj) (w : Int) (x1_0 x5_0 : Int) (m0_0 : Aj) : St := ⟨(.one (.a (.cell 0) 0 0 none)) :: (.one (vI x1_0)) :: dz 3 ((.one (vI x5_0)) :: dz 14 []), [eM 0 (.s .own (.int .u8) m0_0)]⟩
noncomputable def Ug {β : Type} (k : Nat) (v : Aj) (w : Int) (K : KT β) (n : Nat) (x1_0 x5_0 : Int) (m0_0 : Aj) : Option β := A0 (Xlk k) Tryz.f20 [1, 0, 1, 0] 0 (Ad (Xlk k) [1, 0, 1, 0] (Ae Tryz.f20) 0 (Yh2 k v w K)) n (Yfd v w x1_0 x5_0 m0_0)
def I2 {β : Type} (NX : Int → Int → Aj → Option β) (RET : (Int × Aj) → Option β) (k : Nat) (v : Aj) (w : Int) (x1_0 x5_0 : Int) (m0_0 : Aj) : Option β := cond (decide (x5_0 < (m0_0.length : Int))) (As x5_0 m0_0 (NX (i64.wrap (x1_0 + 1)) (i64.wrap (x5_0 + 1)) (m0_0.set x5_0.toNat (u8.wrap x1_0)))) (RET (x1_0, m0_0))
def Mj (k : Nat) (v : Aj) (w : Int) : Nat → Int → Int → Aj → Option (Int × Aj)
 | 0, _, _, _ => none
 | n + 1, x1_0, x5_0, m0_0 => I2 (Mj k v w n) some k v w x1_0 x5_0 m0_0
theorem Xpd {β : Type} (k : Nat) (v : Aj) (w : Int) (K : KT β) (n : Nat) : ∀ (x1_0 x5_0 : Int) (m0_0 : Aj), Ug k v w K n x1_0 x5_0 m0_0 =
  (Mj k v w n x1_0 x5_0 m0_0).bind fun r => K (F20_O.put r) := by
 induction n with
 | zero => intros; rfl
 | succ n ih =>
  intro x1_0 x5_0 m0_0
  refine Eq.trans (b := I2 (Ug k v w K n) (fun r => K (F20_O.put r)) k v w x1_0 x5_0 m0_0) (by kernel_rfl) ?_
  rw [Mj]
  simp only [I2, z1, z2, z3, z4, z5, z6, z7, z8, ih]
def Xly {β : Type} (LP0 : Int → Int → Aj → Option β) (k : Nat) (v : Aj) (w : Int) : Option β := LP0 w 0 v
def F20 (k : Nat) (v : Aj) (w : Int) : Option (Int × Aj) := Xly (Mj k v w k) k v w
theorem X9a {β : Type} (k : Nat) (v : Aj) (w : Int) (K : KT β) : Ag (Xlk k) Tryz.f20 (PsT.put Xwi (v, w, ())) K = (F20 k v w).bind fun r => K (F20_O.put r) :=
 Eq.trans (b := Xly (Ug k v w K k) k v w) (by kernel_rfl) (by simp only [F20, Xly, z1, z2, z3, z4, z5, z6, z7, z8, Xpd])
def Xut (k : Nat) : FD := ⟨20, Xwi, F20_O, F20 k⟩
theorem X4t (k : Nat) : (Xut k).Ok Tryz.prog := ⟨fun x => Aa (Ai .none _ _ _ _) Ah Tryz.func20 rfl rfl (X9a k _ _ some), .of (by kernel_rfl)⟩
def Ydj : Nat → Hint
 | 0 => ⟨pl 0 2 (pl 5 1 []), pl 0 1 []⟩
 | _ => ⟨[], []⟩
abbrev Zq (k : Nat) : Env := A6 (Aw [Xut k]) Ydj .own [(true, 0)] k
abbrev Xfp : List PA := [.one (.lent .own A5), .one mI]
abbrev F100_O : RO := ⟨[.v], [mI, .sl .own A5]⟩
noncomputable def Ygm {β : Type} (k : Nat) (v : Au) (w : Int) (K : KT β) : Ex → St → Option β := Be (Zq k) Tryz.f100 (PsT.put Xfp (v, w, ())) K
def X0i (v : Au) (w : Int) (x1_0 x5_0 : Int) (m0_0 : Au) : St := ⟨(.one (.a (.cell 0) 0 0 none)) :: (.one (vI x1_0)) :: dz 3 ((.one (vI x5_0)) :: dz 35 []), [eM 0 (.s .own A5 m0_0)]⟩
noncomputable def Po {β : Type} (k : Nat) (v : Au) (w : Int) (K : KT β) (n : Nat) (x1_0 x5_0 : Int) (m0_0 : Au) : Option β := A0 (Zq k) Tryz.f100 [1, 0, 1, 0] 0 (Ad (Zq k) [1, 0, 1, 0] (Ae Tryz.f100) 0 (Ygm k v w K)) n (X0i v w x1_0 x5_0 m0_0)
def Gy {β : Type} (NX : Int → Int → Au → Option β) (RET : (Int × Au) → Option β) (k : Nat) (v : Au) (w : Int) (x1_0 x5_0 : Int) (m0_0 : Au) : Option β := cond (decide (x5_0 < (m0_0.length : Int))) (As x5_0 m0_0 (As x5_0 (m0_0.set x5_0.toNat (x1_0, (Ac m0_0 x5_0).2)) (As x5_0 ((m0_0.set x5_0.toNat (x1_0, (Ac m0_0 x5_0).2)).set x5_0.toNat ((Ac (m0_0.set x5_0.toNat (x1_0, (Ac m0_0 x5_0).2)) x5_0).1, i64.wrap (x1_0 + 1), (Ac (m0_0.set x5_0.toNat (x1_0, (Ac m0_0 x5_0).2)) x5_0).2.2)) ((sto (((m0_0.set x5_0.toNat (x1_0, (Ac m0_0 x5_0).2)).set x5_0.toNat ((Ac (m0_0.set x5_0.toNat (x1_0, (Ac m0_0 x5_0).2)) x5_0).1, i64.wrap (x1_0 + 1), (Ac (m0_0.set x5_0.toNat (x1_0, (Ac m0_0 x5_0).2)) x5_0).2.2)).set x5_0.toNat ((Ac ((m0_0.set x5_0.toNat (x1_0, (Ac m0_0 x5_0).2)).set x5_0.toNat ((Ac (m0_0.set x5_0.toNat (x1_0, (Ac m0_0 x5_0).2)) x5_0).1, i64.wrap (x1_0 + 1), (Ac (m0_0.set x5_0.toNat (x1_0, (Ac m0_0 x5_0).2)) x5_0).2.2)) x5_0).1, (Ac ((m0_0.set x5_0.toNat (x1_0, (Ac m0_0 x5_0).2)).set x5_0.toNat ((Ac (m0_0.set x5_0.toNat (x1_0, (Ac m0_0 x5_0).2)) x5_0).1, i64.wrap (x1_0 + 1), (Ac (m0_0.set x5_0.toNat (x1_0, (Ac m0_0 x5_0).2)) x5_0).2.2)) x5_0).2.1, i64.wrap ((i64.wrap (x1_0 + 1)) + 1), (Ac ((m0_0.set x5_0.toNat (x1_0, (Ac m0_0 x5_0).2)).set x5_0.toNat ((Ac (m0_0.set x5_0.toNat (x1_0, (Ac m0_0 x5_0).2)) x5_0).1, i64.wrap (x1_0 + 1), (Ac (m0_0.set x5_0.toNat (x1_0, (Ac m0_0 x5_0).2)) x5_0).2.2)) x5_0).2.2.2))).bind fun b1 => As x5_0 b1 ((F20 k (Ac b1 x5_0).2.2.2 (i64.wrap ((i64.wrap ((i64.wrap (x1_0 + 1)) + 1)) + 1))).bind fun b2 => NX b2.1 (i64.wrap (x5_0 + 1)) (b1.set x5_0.toNat ((Ac b1 x5_0).1, (Ac b1 x5_0).2.1, (Ac b1 x5_0).2.2.1, b2.2))))))) (RET (x1_0, m0_0))
def Ep (k : Nat) (v : Au) (w : Int) : Nat → Int → Int → Au → Option (Int × Au)
 | 0, _, _, _ => none
 | n + 1, x1_0, x5_0, m0_0 => Gy (Ep k v w n) some k v w x1_0 x5_0 m0_0
theorem Xer {β : Type} (k : Nat) (v : Au) (w : Int) (K : KT β) (n : Nat) : ∀ (x1_0 x5_0 : Int) (m0_0 : Au), Po k v w K n x1_0 x5_0 m0_0 =
  (Ep k v w n x1_0 x5_0 m0_0).bind fun r => K (F100_O.put r) := by
 induction n with
 | zero => intros; rfl
 | succ n ih =>
  intro x1_0 x5_0 m0_0
  refine Eq.trans (b := Gy (Po k v w K n) (fun r => K (F100_O.put r)) k v w x1_0 x5_0 m0_0) (by kernel_rfl) ?_
  rw [Ep]
  simp only [Gy, z1, z2, z3, z4, z5, z6, z7, z8, ih]
def Xbn {β : Type} (LP0 : Int → Int → Au → Option β) (k : Nat) (v : Au) (w : Int) : Option β := LP0 w 0 v
def Xpc (k : Nat) (v : Au) (w : Int) : Option (Int × Au) := Xbn (Ep k v w k) k v w
theorem Xy1 {β : Type} (k : Nat) (v : Au) (w : Int) (K : KT β) : Ag (Zq k) Tryz.f100 (PsT.put Xfp (v, w, ())) K = (Xpc k v w).bind fun r => K (F100_O.put r) :=
 Eq.trans (b := Xbn (Po k v w K k) k v w) (by kernel_rfl) (by simp only [Xpc, Xbn, z1, z2, z3, z4, z5, z6, z7, z8, Xer])
def Xte (k : Nat) : FD := ⟨100, Xfp, F100_O, Xpc k⟩
theorem Yf9 (k : Nat) : (Xte k).Ok Tryz.prog := ⟨fun x => Aa (Ai (Af (.c (X4t k) .n)) _ _ _ _) Ah Tryz.func100 rfl rfl (Xy1 k _ _ some), .of (by kernel_rfl)⟩
def Yhh : Nat → Hint
 | 0 => ⟨pl 0 2 (pl 5 1 []), pl 0 1 []⟩
 | _ => ⟨[], []⟩
abbrev Xkp (k : Nat) : Env := A6 (Aw [Xte k]) Yhh .own [(true, 0)] k
abbrev Xsd : List PA := [.one (.lent .own A2), .one mI]
abbrev F40_O : RO := ⟨[.v], [mI, .sl .own A2]⟩
noncomputable def Yg4 {β : Type} (k : Nat) (v : Ab) (w : Int) (K : KT β) : Ex → St → Option β := Be (Xkp k) Tryz.f40 (PsT.put Xsd (v, w, ())) K
def X9b (v : Ab) (w : Int) (x1_0 x5_0 : Int) (m0_0 : Ab) : St := ⟨(.one (.a (.cell 0) 0 0 none)) :: (.one (vI x1_0)) :: dz 3 ((.one (vI x5_0)) :: dz 21 []), [eM 0 (.s .own A2 m0_0)]⟩
noncomputable def Tp {β : Type} (k : Nat) (v : Ab) (w : Int) (K : KT β) (n : Nat) (x1_0 x5_0 : Int) (m0_0 : Ab) : Option β := A0 (Xkp k) Tryz.f40 [1, 0, 1, 0] 0 (Ad (Xkp k) [1, 0, 1, 0] (Ae Tryz.f40) 0 (Yg4 k v w K)) n (X9b v w x1_0 x5_0 m0_0)
def J7 {β : Type} (NX : Int → Int → Ab → Option β) (RET : (Int × Ab) → Option β) (k : Nat) (v : Ab) (w : Int) (x1_0 x5_0 : Int) (m0_0 : Ab) : Option β := cond (decide (x5_0 < (m0_0.length : Int))) (As x5_0 m0_0 (As x5_0 (m0_0.set x5_0.toNat (x1_0, (Ac m0_0 x5_0).2)) ((Xpc k (Ac (m0_0.set x5_0.toNat (x1_0, (Ac m0_0 x5_0).2)) x5_0).2 (i64.wrap (x1_0 + 1))).bind fun b1 => NX b1.1 (i64.wrap (x5_0 + 1)) ((m0_0.set x5_0.toNat (x1_0, (Ac m0_0 x5_0).2)).set x5_0.toNat ((Ac (m0_0.set x5_0.toNat (x1_0, (Ac m0_0 x5_0).2)) x5_0).1, b1.2))))) (RET (x1_0, m0_0))
def Mm (k : Nat) (v : Ab) (w : Int) : Nat → Int → Int → Ab → Option (Int × Ab)
 | 0, _, _, _ => none
 | n + 1, x1_0, x5_0, m0_0 => J7 (Mm k v w n) some k v w x1_0 x5_0 m0_0
theorem Xo3 {β : Type} (k : Nat) (v : Ab) (w : Int) (K : KT β) (n : Nat) : ∀ (x1_0 x5_0 : Int) (m0_0 : Ab), Tp k v w K n x1_0 x5_0 m0_0 =
  (Mm k v w n x1_0 x5_0 m0_0).bind fun r => K (F40_O.put r) := by
 induction n with
 | zero => intros; rfl
 | succ n ih =>
  intro x1_0 x5_0 m0_0
  refine Eq.trans (b := J7 (Tp k v w K n) (fun r => K (F40_O.put r)) k v w x1_0 x5_0 m0_0) (by kernel_rfl) ?_
  rw [Mm]
  simp only [J7, z1, z2, z3, z4, z5, z6, z7, z8, ih]
def Xjp {β : Type} (LP0 : Int → Int → Ab → Option β) (k : Nat) (v : Ab) (w : Int) : Option β := LP0 w 0 v
def F40 (k : Nat) (v : Ab) (w : Int) : Option (Int × Ab) := Xjp (Mm k v w k) k v w
theorem Yb6 {β : Type} (k : Nat) (v : Ab) (w : Int) (K : KT β) : Ag (Xkp k) Tryz.f40 (PsT.put Xsd (v, w, ())) K = (F40 k v w).bind fun r => K (F40_O.put r) :=
 Eq.trans (b := Xjp (Tp k v w K k) k v w) (by kernel_rfl) (by simp only [F40, Xjp, z1, z2, z3, z4, z5, z6, z7, z8, Xo3])
def X4w (k : Nat) : FD := ⟨40, Xsd, F40_O, F40 k⟩
theorem Yh5 (k : Nat) : (X4w k).Ok Tryz.prog := ⟨fun x => Aa (Ai (Af (.c (Yf9 k) .n)) _ _ _ _) Ah Tryz.func40 rfl rfl (Yb6 k _ _ some), .of (by kernel_rfl)⟩
def Yil : Nat → Hint
 | 0 => ⟨pl 0 2 (pl 5 1 []), pl 0 1 []⟩
 | _ => ⟨[], []⟩
abbrev Xjr (k : Nat) : Env := A6 Bn Yil .own [(true, 0)] k
abbrev Xqi : List PA := [.one (.lent .own Ce), .one mI]
abbrev F68_O : RO := ⟨[.v], [mI, .sl .own Ce]⟩
noncomputable def Yiu {β : Type} (k : Nat) (v : Az) (w : Int) (K : KT β) : Ex → St → Option β := Be (Xjr k) Tryz.f68 (PsT.put Xqi (v, w, ())) K
def Yet (v : Az) (w : Int) (x1_0 x5_0 : Int) (m0_0 : Az) : St := ⟨(.one (.a (.cell 0) 0 0 none)) :: (.one (vI x1_0)) :: dz 3 ((.one (vI x5_0)) :: dz 35 []), [eM 0 (.s .own Ce m0_0)]⟩
noncomputable def Uz {β : Type} (k : Nat) (v : Az) (w : Int) (K : KT β) (n : Nat) (x1_0 x5_0 : Int) (m0_0 : Az) : Option β := A0 (Xjr k) Tryz.f68 [1, 0, 1, 0] 0 (Ad (Xjr k) [1, 0, 1, 0] (Ae Tryz.f68) 0 (Yiu k v w K)) n (Yet v w x1_0 x5_0 m0_0)
def J1 {β : Type} (NX : Int → Int → Az → Option β) (RET : (Int × Az) → Option β) (k : Nat) (v : Az) (w : Int) (x1_0 x5_0 : Int) (m0_0 : Az) : Option β := cond (decide (x5_0 < (m0_0.length : Int))) (As x5_0 m0_0 (As x5_0 (m0_0.set x5_0.toNat (x1_0, (Ac m0_0 x5_0).2)) (As x5_0 ((m0_0.set x5_0.toNat (x1_0, (Ac m0_0 x5_0).2)).set x5_0.toNat ((Ac (m0_0.set x5_0.toNat (x1_0, (Ac m0_0 x5_0).2)) x5_0).1, i64.wrap (x1_0 + 1), (Ac (m0_0.set x5_0.toNat (x1_0, (Ac m0_0 x5_0).2)) x5_0).2.2)) ((sto (((m0_0.set x5_0.toNat (x1_0, (Ac m0_0 x5_0).2)).set x5_0.toNat ((Ac (m0_0.set x5_0.toNat (x1_0, (Ac m0_0 x5_0).2)) x5_0).1, i64.wrap (x1_0 + 1), (Ac (m0_0.set x5_0.toNat (x1_0, (Ac m0_0 x5_0).2)) x5_0).2.2)).set x5_0.toNat ((Ac ((m0_0.set x5_0.toNat (x1_0, (Ac m0_0 x5_0).2)).set x5_0.toNat ((Ac (m0_0.set x5_0.toNat (x1_0, (Ac m0_0 x5_0).2)) x5_0).1, i64.wrap (x1_0 + 1), (Ac (m0_0.set x5_0.toNat (x1_0, (Ac m0_0 x5_0).2)) x5_0).2.2)) x5_0).1, (Ac ((m0_0.set x5_0.toNat (x1_0, (Ac m0_0 x5_0).2)).set x5_0.toNat ((Ac (m0_0.set x5_0.toNat (x1_0, (Ac m0_0 x5_0).2)) x5_0).1, i64.wrap (x1_0 + 1), (Ac (m0_0.set x5_0.toNat (x1_0, (Ac m0_0 x5_0).2)) x5_0).2.2)) x5_0).2.1, i64.wrap ((i64.wrap (x1_0 + 1)) + 1), (Ac ((m0_0.set x5_0.toNat (x1_0, (Ac m0_0 x5_0).2)).set x5_0.toNat ((Ac (m0_0.set x5_0.toNat (x1_0, (Ac m0_0 x5_0).2)) x5_0).1, i64.wrap (x1_0 + 1), (Ac (m0_0.set x5_0.toNat (x1_0, (Ac m0_0 x5_0).2)) x5_0).2.2)) x5_0).2.2.2))).bind fun b1 => As x5_0 b1 (NX (i64.wrap ((i64.wrap ((i64.wrap ((i64.wrap (x1_0 + 1)) + 1)) + 1)) + 1)) (i64.wrap (x5_0 + 1)) (b1.set x5_0.toNat ((Ac b1 x5_0).1, (Ac b1 x5_0).2.1, (Ac b1 x5_0).2.2.1, i64.wrap ((i64.wrap ((i64.wrap (x1_0 + 1)) + 1)) + 1)))))))) (RET (x1_0, m0_0))
def Nk (k : Nat) (v : Az) (w : Int) : Nat → Int → Int → Az → Option (Int × Az)
 | 0, _, _, _ => none
 | n + 1, x1_0, x5_0, m0_0 => J1 (Nk k v w n) some k v w x1_0 x5_0 m0_0
theorem Xnn {β : Type} (k : Nat) (v : Az) (w : Int) (K : KT β) (n : Nat) : ∀ (x1_0 x5_0 : Int) (m0_0 : Az), Uz k v w K n x1_0 x5_0 m0_0 =
  (Nk k v w n x1_0 x5_0 m0_0).bind fun r => K (F68_O.put r) := by
 induction n with
 | zero => intros; rfl
 | succ n ih =>
  intro x1_0 x5_0 m0_0
  refine Eq.trans (b := J1 (Uz k v w K n) (fun r => K (F68_O.put r)) k v w x1_0 x5_0 m0_0) (by kernel_rfl) ?_
  rw [Nk]
  simp only [J1, z1, z2, z3, z4, z5, z6, z7, z8, ih]
def Xl3 {β : Type} (LP0 : Int → Int → Az → Option β) (k : Nat) (v : Az) (w : Int) : Option β := LP0 w 0 v
def F68 (k : Nat) (v : Az) (w : Int) : Option (Int × Az) := Xl3 (Nk k v w k) k v w
theorem Ydh {β : Type} (k : Nat) (v : Az) (w : Int) (K : KT β) : Ag (Xjr k) Tryz.f68 (PsT.put Xqi (v, w, ())) K = (F68 k v w).bind fun r => K (F68_O.put r) :=
 Eq.trans (b := Xl3 (Uz k v w K k) k v w) (by kernel_rfl) (by simp only [F68, Xl3, z1, z2, z3, z4, z5, z6, z7, z8, Xnn])
def X54 (k : Nat) : FD := ⟨68, Xqi, F68_O, F68 k⟩
theorem Yg5 (k : Nat) : (X54 k).Ok Tryz.prog := ⟨fun x => Aa (Ai .none _ _ _ _) Ah Tryz.func68 rfl rfl (Ydh k _ _ some), .of (by kernel_rfl)⟩
end
end Go.Proofs.YtdmepjjepogddaaGreat.Gn
end

section
set_option linter.unusedVariables false
set_option linter.unusedSimpArgs false
namespace Go.Proofs.YtdmepjjepogddaaGreat.Gn
open Go.Rf IntKind
noncomputable section
def Ykf : Nat → Hint
 | 0 => ⟨pl 0 2 (pl 5 1 []), pl 0 1 []⟩
 | _ => ⟨[], []⟩
abbrev Xki (k : Nat) : Env := A6 (Aw [X54 k]) Ykf .own [(true, 0)] k
abbrev Xuz : List PA := [.one (.lent .own sta), .one mI]
abbrev F19_O : RO := ⟨[.v], [mI, .sl .own sta]⟩
noncomputable def Yhv {β : Type} (k : Nat) (v : Ak) (w : Int) (K : KT β) : Ex → St → Option β := Be (Xki k) Tryz.f19 (PsT.put Xuz (v, w, ())) K
def Yd6 (v : Ak) (w : Int) (x1_0 x5_0 : Int) (m0_0 : Ak) : St := ⟨(.one (.a (.cell 0) 0 0 none)) :: (.one (vI x1_0)) :: dz 3 ((.one (vI x5_0)) :: dz 21 []), [eM 0 (.s .own sta m0_0)]⟩
noncomputable def T8 {β : Type} (k : Nat) (v : Ak) (w : Int) (K : KT β) (n : Nat) (x1_0 x5_0 : Int) (m0_0 : Ak) : Option β := A0 (Xki k) Tryz.f19 [1, 0, 1, 0] 0 (Ad (Xki k) [1, 0, 1, 0] (Ae Tryz.f19) 0 (Yhv k v w K)) n (Yd6 v w x1_0 x5_0 m0_0)
def J2 {β : Type} (NX : Int → Int → Ak → Option β) (RET : (Int × Ak) → Option β) (k : Nat) (v : Ak) (w : Int) (x1_0 x5_0 : Int) (m0_0 : Ak) : Option β := cond (decide (x5_0 < (m0_0.length : Int))) (As x5_0 m0_0 (As x5_0 (m0_0.set x5_0.toNat (x1_0, (Ac m0_0 x5_0).2)) ((F68 k (Ac (m0_0.set x5_0.toNat (x1_0, (Ac m0_0 x5_0).2)) x5_0).2 (i64.wrap (x1_0 + 1))).bind fun b1 => NX b1.1 (i64.wrap (x5_0 + 1)) ((m0_0.set x5_0.toNat (x1_0, (Ac m0_0 x5_0).2)).set x5_0.toNat ((Ac (m0_0.set x5_0.toNat (x1_0, (Ac m0_0 x5_0).2)) x5_0).1, b1.2))))) (RET (x1_0, m0_0))
def Mw (k : Nat) (v : Ak) (w : Int) : Nat → Int → Int → Ak → Option (Int × Ak)
 | 0, _, _, _ => none
 | n + 1, x1_0, x5_0, m0_0 => J2 (Mw k v w n) some k v w x1_0 x5_0 m0_0
theorem Xmh {β : Type} (k : Nat) (v : Ak) (w : Int) (K : KT β) (n : Nat) : ∀ (x1_0 x5_0 : Int) (m0_0 : Ak), T8 k v w K n x1_0 x5_0 m0_0 =
  (Mw k v w n x1_0 x5_0 m0_0).bind fun r => K (F19_O.put r) := by
 induction n with
 | zero => intros; rfl
 | succ n ih =>
  intro x1_0 x5_0 m0_0
  refine Eq.trans (b := J2 (T8 k v w K n) (fun r => K (F19_O.put r)) k v w x1_0 x5_0 m0_0) (by kernel_rfl) ?_
  rw [Mw]
  simp only [J2, z1, z2, z3, z4, z5, z6, z7, z8, ih]
def Xlf {β : Type} (LP0 : Int → Int → Ak → Option β) (k : Nat) (v : Ak) (w : Int) : Option β := LP0 w 0 v
def F19 (k : Nat) (v : Ak) (w : Int) : Option (Int × Ak) := Xlf (Mw k v w k) k v w
theorem X97 {β : Type} (k : Nat) (v : Ak) (w : Int) (K : KT β) : Ag (Xki k) Tryz.f19 (PsT.put Xuz (v, w, ())) K = (F19 k v w).bind fun r => K (F19_O.put r) :=
 Eq.trans (b := Xlf (T8 k v w K k) k v w) (by kernel_rfl) (by simp only [F19, Xlf, z1, z2, z3, z4, z5, z6, z7, z8, Xmh])
def X6r (k : Nat) : FD := ⟨19, Xuz, F19_O, F19 k⟩
theorem Yip (k : Nat) : (X6r k).Ok Tryz.prog := ⟨fun x => Aa (Ai (Af (.c (Yg5 k) .n)) _ _ _ _) Ah Tryz.func19 rfl rfl (X97 k _ _ some), .of (by kernel_rfl)⟩
abbrev Yhq (k : Nat) : Env := A6 (Aw [Xut k]) Ap .own [(true, 3)] k
abbrev X6u : List PA := [.agg (.pair mI (.pair mI m_15)), .one mI]
abbrev F41_O : RO := ⟨[.v], [mI, .sl .own (.int .u8)]⟩
def F41 (k : Nat) (v : (den A5)) (w : Int) : Option (Int × Aj) := (F20 k v.2.2.2 w).bind fun b1 => some b1
theorem Yaj {β : Type} (k : Nat) (v : (den A5)) (w : Int) (K : KT β) : Ag (Yhq k) Tryz.f41 (PsT.put X6u (v, w, ())) K = (F41 k v w).bind fun r => K (F41_O.put r) :=
 Eq.trans (b := (F20 k v.2.2.2 w).bind fun b1 => K (F41_O.put b1)) (by kernel_rfl) (by simp only [F41, z1, z2, z3, z4, z5, z6, z7, z8, Ff])
def X4g (k : Nat) : FD := ⟨41, X6u, F41_O, F41 k⟩
theorem Yjq (k : Nat) : (X4g k).Ok Tryz.prog := ⟨fun x => Aa (Ai (Af (.c (X4t k) .n)) _ _ _ _) Ah Tryz.func41 rfl rfl (Yaj k _ _ some), .of (by kernel_rfl)⟩
def Yio : Nat → Hint
 | 0 => ⟨pl 0 2 (pl 5 1 []), []⟩
 | _ => ⟨[], []⟩
abbrev Xlm (k : Nat) : Env := A6 Bn Yio .own [] k
abbrev Xp0 : List PA := [.one (.sl .ro (.int .u8)), .one mI]
abbrev F21_O : RO := ⟨[.v], [mI]⟩
noncomputable def Yhb {β : Type} (k : Nat) (v : Aj) (w : Int) (K : KT β) : Ex → St → Option β := Be (Xlm k) Tryz.f21 (PsT.put Xp0 (v, w, ())) K
def Yac (v : Aj) (w : Int) (x1_0 x5_0 : Int) : St := ⟨(.one (.s .ro (.int .u8) v)) :: (.one (vI x1_0)) :: dz 3 ((.one (vI x5_0)) :: dz 16 []), []⟩
noncomputable def Vs {β : Type} (k : Nat) (v : Aj) (w : Int) (K : KT β) (n : Nat) (x1_0 x5_0 : Int) : Option β := A0 (Xlm k) Tryz.f21 [1, 0, 1, 0] 0 (Ad (Xlm k) [1, 0, 1, 0] (Ae Tryz.f21) 0 (Yhb k v w K)) n (Yac v w x1_0 x5_0)
def Jc {β : Type} (NX : Int → Int → Option β) (RET : Int → Option β) (k : Nat) (v : Aj) (w : Int) (x1_0 x5_0 : Int) : Option β := cond (decide (x5_0 < (v.length : Int))) (As x5_0 v (cond ((Ac v x5_0) != (u8.wrap x1_0)) (RET (-1)) (NX (i64.wrap (x1_0 + 1)) (i64.wrap (x5_0 + 1))))) (RET x1_0)
def Nh (k : Nat) (v : Aj) (w : Int) : Nat → Int → Int → Option (Int)
 | 0, _, _ => none
 | n + 1, x1_0, x5_0 => Jc (Nh k v w n) some k v w x1_0 x5_0
theorem Xn0 {β : Type} (k : Nat) (v : Aj) (w : Int) (K : KT β) (n : Nat) : ∀ (x1_0 x5_0 : Int), Vs k v w K n x1_0 x5_0 =
  (Nh k v w n x1_0 x5_0).bind fun r => K (F21_O.put r) := by
 induction n with
 | zero => intros; rfl
 | succ n ih =>
  intro x1_0 x5_0
  refine Eq.trans (b := Jc (Vs k v w K n) (fun r => K (F21_O.put r)) k v w x1_0 x5_0) (by kernel_rfl) ?_
  rw [Nh]
  simp only [Jc, z1, z2, z3, z4, z5, z6, z7, z8, ih]
def Xjd {β : Type} (LP0 : Int → Int → Option β) (k : Nat) (v : Aj) (w : Int) : Option β := LP0 w 0
def F21 (k : Nat) (v : Aj) (w : Int) : Option (Int) := Xjd (Nh k v w k) k v w
theorem Yev {β : Type} (k : Nat) (v : Aj) (w : Int) (K : KT β) : Ag (Xlm k) Tryz.f21 (PsT.put Xp0 (v, w, ())) K = (F21 k v w).bind fun r => K (F21_O.put r) :=
 Eq.trans (b := Xjd (Vs k v w K k) k v w) (by kernel_rfl) (by simp only [F21, Xjd, z1, z2, z3, z4, z5, z6, z7, z8, Xn0])
def X6v (k : Nat) : FD := ⟨21, Xp0, F21_O, F21 k⟩
theorem Yjl (k : Nat) : (X6v k).Ok Tryz.prog := ⟨fun x => Aa (Ai .none _ _ _ _) Ah Tryz.func21 rfl rfl (Yev k _ _ some), .of (by kernel_rfl)⟩
def X8u : Nat → Hint
 | 0 => ⟨pl 0 2 (pl 5 1 []), []⟩
 | _ => ⟨[], []⟩
abbrev Xu (k : Nat) : Env := A6 (Aw [X6v k]) X8u .own [] k
abbrev Xhs : List PA := [.one (.sl .ro A5), .one mI]
abbrev F101_O : RO := ⟨[.v], [mI]⟩
noncomputable def Yco {β : Type} (k : Nat) (v : Au) (w : Int) (K : KT β) : Ex → St → Option β := Be (Xu k) Tryz.f101 (PsT.put Xhs (v, w, ())) K
def X3r (v : Au) (w : Int) (x1_0 x5_0 : Int) : St := ⟨(.one (.s .ro A5 v)) :: (.one (vI x1_0)) :: dz 3 ((.one (vI x5_0)) :: dz 43 []), []⟩
noncomputable def Q9 {β : Type} (k : Nat) (v : Au) (w : Int) (K : KT β) (n : Nat) (x1_0 x5_0 : Int) : Option β := A0 (Xu k) Tryz.f101 [1, 0, 1, 0] 0 (Ad (Xu k) [1, 0, 1, 0] (Ae Tryz.f101) 0 (Yco k v w K)) n (X3r v w x1_0 x5_0)
def G0 {β : Type} (NX : Int → Int → Option β) (RET : Int → Option β) (k : Nat) (v : Au) (w : Int) (x1_0 x5_0 : Int) : Option β := cond (decide (x5_0 < (v.length : Int))) (As x5_0 v (cond ((Ac v x5_0).1 != x1_0) (RET (-1)) (As x5_0 v (cond ((Ac v x5_0).2.1 != (i64.wrap (x1_0 + 1))) (RET (-1)) (As x5_0 v (cond ((Ac v x5_0).2.2.1 != (i64.wrap ((i64.wrap (x1_0 + 1)) + 1))) (RET (-1)) (As x5_0 v ((F21 k (Ac v x5_0).2.2.2 (i64.wrap ((i64.wrap ((i64.wrap (x1_0 + 1)) + 1)) + 1))).bind fun b1 => cond (decide (b1 < 0)) (RET (-1)) (NX b1 (i64.wrap (x5_0 + 1))))))))))) (RET x1_0)
def Eo (k : Nat) (v : Au) (w : Int) : Nat → Int → Int → Option (Int)
 | 0, _, _ => none
 | n + 1, x1_0, x5_0 => G0 (Eo k v w n) some k v w x1_0 x5_0
theorem Xeo {β : Type} (k : Nat) (v : Au) (w : Int) (K : KT β) (n : Nat) : ∀ (x1_0 x5_0 : Int), Q9 k v w K n x1_0 x5_0 =
  (Eo k v w n x1_0 x5_0).bind fun r => K (F101_O.put r) := by
 induction n with
 | zero => intros; rfl
 | succ n ih =>
  intro x1_0 x5_0
  refine Eq.trans (b := G0 (Q9 k v w K n) (fun r => K (F101_O.put r)) k v w x1_0 x5_0) (by kernel_rfl) ?_
  rw [Eo]
  simp only [G0, z1, z2, z3, z4, z5, z6, z7, z8, ih]
def Z8 {β : Type} (LP0 : Int → Int → Option β) (k : Nat) (v : Au) (w : Int) : Option β := LP0 w 0
def Xo0 (k : Nat) (v : Au) (w : Int) : Option (Int) := Z8 (Eo k v w k) k v w
theorem Xyt {β : Type} (k : Nat) (v : Au) (w : Int) (K : KT β) : Ag (Xu k) Tryz.f101 (PsT.put Xhs (v, w, ())) K = (Xo0 k v w).bind fun r => K (F101_O.put r) :=
 Eq.trans (b := Z8 (Q9 k v w K k) k v w) (by kernel_rfl) (by simp only [Xo0, Z8, z1, z2, z3, z4, z5, z6, z7, z8, Xeo])
def Xx4 (k : Nat) : FD := ⟨101, Xhs, F101_O, Xo0 k⟩
theorem Yax (k : Nat) : (Xx4 k).Ok Tryz.prog := ⟨fun x => Aa (Ai (Af (.c (Yjl k) .n)) _ _ _ _) Ah Tryz.func101 rfl rfl (Xyt k _ _ some), .of (by kernel_rfl)⟩
def Yjk : Nat → Hint
 | 0 => ⟨pl 0 2 (pl 5 1 []), []⟩
 | _ => ⟨[], []⟩
abbrev Xlb (k : Nat) : Env := A6 (Aw [Xx4 k]) Yjk .own [] k
abbrev Xs1 : List PA := [.one (.sl .ro A2), .one mI]
abbrev F42_O : RO := ⟨[.v], [mI]⟩
noncomputable def Yin {β : Type} (k : Nat) (v : Ab) (w : Int) (K : KT β) : Ex → St → Option β := Be (Xlb k) Tryz.f42 (PsT.put Xs1 (v, w, ())) K
def Ye1 (v : Ab) (w : Int) (x1_0 x5_0 : Int) : St := ⟨(.one (.s .ro A2 v)) :: (.one (vI x1_0)) :: dz 3 ((.one (vI x5_0)) :: dz 25 []), []⟩
noncomputable def Vv {β : Type} (k : Nat) (v : Ab) (w : Int) (K : KT β) (n : Nat) (x1_0 x5_0 : Int) : Option β := A0 (Xlb k) Tryz.f42 [1, 0, 1, 0] 0 (Ad (Xlb k) [1, 0, 1, 0] (Ae Tryz.f42) 0 (Yin k v w K)) n (Ye1 v w x1_0 x5_0)
def Jh {β : Type} (NX : Int → Int → Option β) (RET : Int → Option β) (k : Nat) (v : Ab) (w : Int) (x1_0 x5_0 : Int) : Option β := cond (decide (x5_0 < (v.length : Int))) (As x5_0 v (cond ((Ac v x5_0).1 != x1_0) (RET (-1)) (As x5_0 v ((Xo0 k (Ac v x5_0).2 (i64.wrap (x1_0 + 1))).bind fun b1 => cond (decide (b1 < 0)) (RET (-1)) (NX b1 (i64.wrap (x5_0 + 1))))))) (RET x1_0)
def Hy (k : Nat) (v : Ab) (w : Int) : Nat → Int → Int → Option (Int)
 | 0, _, _ => none
 | n + 1, x1_0, x5_0 => Jh (Hy k v w n) some k v w x1_0 x5_0
theorem Xn5 {β : Type} (k : Nat) (v : Ab) (w : Int) (K : KT β) (n : Nat) : ∀ (x1_0 x5_0 : Int), Vv k v w K n x1_0 x5_0 =
  (Hy k v w n x1_0 x5_0).bind fun r => K (F42_O.put r) := by
 induction n with
 | zero => intros; rfl
 | succ n ih =>
  intro x1_0 x5_0
  refine Eq.trans (b := Jh (Vv k v w K n) (fun r => K (F42_O.put r)) k v w x1_0 x5_0) (by kernel_rfl) ?_
  rw [Hy]
  simp only [Jh, z1, z2, z3, z4, z5, z6, z7, z8, ih]
def Xlr {β : Type} (LP0 : Int → Int → Option β) (k : Nat) (v : Ab) (w : Int) : Option β := LP0 w 0
def F42 (k : Nat) (v : Ab) (w : Int) : Option (Int) := Xlr (Hy k v w k) k v w
theorem Ycr {β : Type} (k : Nat) (v : Ab) (w : Int) (K : KT β) : Ag (Xlb k) Tryz.f42 (PsT.put Xs1 (v, w, ())) K = (F42 k v w).bind fun r => K (F42_O.put r) :=
 Eq.trans (b := Xlr (Vv k v w K k) k v w) (by kernel_rfl) (by simp only [F42, Xlr, z1, z2, z3, z4, z5, z6, z7, z8, Xn5])
def X4b (k : Nat) : FD := ⟨42, Xs1, F42_O, F42 k⟩
theorem Yg1 (k : Nat) : (X4b k).Ok Tryz.prog := ⟨fun x => Aa (Ai (Af (.c (Yax k) .n)) _ _ _ _) Ah Tryz.func42 rfl rfl (Ycr k _ _ some), .of (by kernel_rfl)⟩
abbrev F6_E (k : Nat) : Env := A6 (Aw [X5n k, X4r k, Xxp k, X36 k, X48 k, Xs4 k, X6k k, X6i k, X47 k, X4s k, Xph k, X4w k, X6r k, X4g k, X4b k]) Ap .own [] k
abbrev F6_A : List PA := [.one (.sl .ro A2), .one (.sl .ro sta), .one mI, .one mI, .agg (.pair mI (.pair mI Qj))]
abbrev F6_O : RO := ⟨[.v], [mB]⟩
def X2h {β : Type} (RET : Bool → Option β) (k : Nat) (v : Ab) (w : Ak) (p q : Int) (o : (den A5)) : Option β := (F34 k v 1048576).bind fun b1 => cond (decide (b1 < 0)) (RET true) ((F12 k w b1).bind fun b2 => cond (decide (b2 < 0)) (RET true) ((F35 k o b2).bind fun b3 => cond (decide (b3 < 0)) (RET true) ((F36 k v).bind fun b4 => (F14 k w).bind fun b5 => (F37 k o).bind fun b6 => (F28 k b4 b5 p q b6).bind fun b7 => (F36 k v).bind fun b8 => (F14 k w).bind fun b9 => (F37 k o).bind fun b10 => (F27 k b8 b9 p q b10).bind fun b11 => (F38 k b11.1 b7.1).bind fun b12 => cond (!b12) (RET false) (cond (b11.2 != b7.2) (RET false) ((F36 k v).bind fun b13 => (F38 k b8 b13).bind fun b14 => cond (!b14) (RET false) ((F14 k w).bind fun b15 => (F18 k b9 b15).bind fun b16 => cond (!b16) (RET false) ((F37 k o).bind fun b17 => (F39 k b10 b17).bind fun b18 => cond (!b18) (RET false) ((F40 k b8 1).bind fun b19 => (F19 k b9 b19.1).bind fun b20 => (F41 k b10 b20.1).bind fun b21 => cond (decide (b21.1 < 0)) (RET false) ((F38 k b11.1 b7.1).bind fun b22 => cond (!b22) (RET false) (cond (b11.2 != b7.2) (RET false) ((F40 k b11.1 1).bind fun b23 => (F42 k b23.2 1).bind fun b24 => cond (decide (b24 < 0)) (RET false) (cond (b24 != b23.1) (RET false) ((F36 k v).bind fun b25 => (F14 k w).bind fun b26 => (F37 k o).bind fun b27 => (F27 k b25 b26 p q b27).bind fun b28 => (F38 k b28.1 b7.1).bind fun b29 => cond (!b29) (RET false) (cond (b28.2 != b7.2) (RET false) ((F42 k b23.2 1).bind fun b30 => cond (decide (b30 < 0)) (RET false) (cond (b30 != b23.1) (RET false) (RET true)))))))))))))))))
def F6 := X2h (β := Bool) some
theorem Yh9 {β : Type} (k : Nat) (v : Ab) (w : Ak) (p q : Int) (o : (den A5)) (K : KT β) : Ag (F6_E k) Tryz.f6 (PsT.put F6_A (v, w, p, q, o, ())) K = (F6 k v w p q o).bind fun r => K (F6_O.put r) :=
 Eq.trans (b := X2h (fun r => K (F6_O.put r)) k v w p q o) (by kernel_rfl) (by simp only [F6, X2h, z1, z2, z3, z4, z5, z6, z7, z8, Ff])
def F6_d (k : Nat) : FD := ⟨6, F6_A, F6_O, F6 k⟩
theorem F6_q (k : Nat) : (F6_d k).Ok Tryz.prog := ⟨fun x => Aa (Ai (Af (.c (Ykb k) (.c (Yjr k) (.c (X4d k) (.c (Yhz k) (.c (Yg0 k) (.c (X6f k) (.c (Yid k) (.c (Yhs k) (.c (Yib k) (.c (Yi2 k) (.c (X6c k) (.c (Yh5 k) (.c (Yip k) (.c (Yjq k) (.c (Yg1 k) .n)))))))))))))))) _ _ _ _) Ah Tryz.func6 rfl rfl (Yh9 k _ _ _ _ _ some), .of (by kernel_rfl)⟩
end
end Go.Proofs.YtdmepjjepogddaaGreat.Gn
end

section
namespace Go.Proofs.YtdmepjjepogddaaGreat.Gn
open Go.Rf Go.IntWalk
set_option linter.unusedVariables false
set_option linter.unusedSimpArgs false
def inB (a b c : Int) : Bool := decide (b ≤ a) && decide (a ≤ c)
theorem Bm (k : Nat) (a b c : Int) : Hj k a b c = some (inB a b c) := by
 unfold Hj inB; (try dsimp only)
 have : decide (a ≥ b) = decide (b ≤ a) := rfl
 rw [this]
 cases decide (b ≤ a) <;> rfl
theorem C1 (k : Nat) (a b c : Int) : S6 k a b c = some (inB a b c) := Bm k a b c
theorem Xea (k : Nat) (a : Int) : F85 k a = some (inB a 1 255) := by unfold F85; (try dsimp only); rw [C1]; rfl
theorem Fh (k : Nat) (a : Int) : F65 k a = some (inB a 0 65535) := by unfold F65; (try dsimp only); rw [C1]; rfl
abbrev Bc : Type := List (den (.int .u8))
theorem ml : maxLen = 9223372036854775807 := rfl
theorem Yae (k : Nat) (l : Bc) (x : Int) (hl : l.length ≤ maxLen) (hx : 0 ≤ x ∧ x ≤ 1048576) : F97 k l x = some (if (l.length : Int) ≤ x then x - (l.length : Int) else -1) := by
 simp only [F97, Xlh]
 rw [ml] at hl
 rw [i64_in _ (by omega)]
 by_cases h : (l.length : Int) ≤ x
 ·rw [decide_eq_false (by omega), if_pos h]; rfl
 ·rw [decide_eq_true (by omega), if_neg h]; rfl
theorem Ygk (k : Nat) (l : Bc) (hl : l.length ≤ 1048576) (hk : l.length < k) : F15 k l = some l := by
 have := Gt l id (fun n j m => Nf k l n j m) id
  (fun n j m h hm => by
   simp only [Nf, Jk, As]
   rw [Ao l j h, D5 j (by omega)]
   rw [decide_eq_true (by omega : ((j : Nat) : Int) < (l.length : Nat)), decide_eq_true (by omega : (0 : Int) ≤ (j : Nat)), decide_eq_true (by omega : ((j : Nat) : Int) < (m.length : Nat))]
   rfl)
  (fun n m hm => by simp [Nf, Jk]) k 0 (List.replicate l.length (Bl (.int .u8))) (Nat.zero_le _) (by omega) (by simp) (by simp)
 simp only [List.map_id] at this
 simp only [F15, Xkl]
 rw [decide_eq_true (by omega : (0 : Int) ≤ ((l.length : Nat) : Int)), decide_eq_true (by omega : ((l.length : Nat) : Int) * (1 : Nat) ≤ 140737488355328)]
 simp only [decide_true, Bool.and_self, cond_true]
 exact this
theorem K8 {α : Type} (c : Bool) (a b : α) : cond c (some a) (some b) = some (cond c a b) := by cases c <;> rfl
theorem X2g (k : Nat) (l : Bc) : Xow k l = some l := by
 simp only [Xow, Xa1]
 rw [decide_eq_true (by omega : (0 : Int) ≤ ((l.length : Nat) : Int))]
 simp
theorem K6 (k : Nat) (l : Bc) (h : l.length ≤ 4194304) : Pu k l = some l := by
 simp only [Pu, Xbh, X2g, List.nil_append, List.length_nil, Nat.zero_add, Bt]
 rw [decide_eq_true (by omega : l.length * 1 ≤ 140737488355328)]
 cases l with
 | nil => rfl
 | cons a r => rw [show ((((a :: r).length : Nat) : Int) == 0) = false by rw [beq_eq_false_iff_ne]; simp only [List.length_cons]; omega]; rfl
theorem Xpu (k : Nat) (a : Bc) (h9 : a.length ≤ 4194304) (k9 : a.length < k) : F17 k a a = some true := by
 have := Gz a (fun n (_ : Unit) j => Mt k a a n j) (fun s _ => s) (fun _ => true)
  (fun n s j h => by
   simp only [Mt, Js, As]
   rw [Ao a j h, D5 j (by omega)]
   simp [h])
  (fun n s => by simp [Mt, Js]) k () 0 (Nat.zero_le _) (by omega)
 simp only [F17, Xlj, bne_self_eq_false, cond_false]
 exact this
def gB (x : Int) (a : den (.int .u8)) : den (.int .u8) := IntKind.u8.wrap x
theorem Xst (k : Nat) (l : Bc) (x : Int) (hk : l.length < k) (h0 : 0 ≤ x) (hB : x + (l.length : Int) ≤ 1099511627776) :
  F20 k l x = some (x + (l.length : Int), Bv gB (fun _ => 1) x l) := by
 have := T9 1099511627776 l.length (fun n y j m => Mj k l x n y j m) gB (fun _ => 1) (fun x m => (x, m)) (fun _ => by decide)
  (fun n y j m h hN h0 hB => by
   simp only [Mj, I2, Int.toNat_natCast, As]
   rw [D5 j (by omega), i64_in (y + 1) (by omega)]
   rw [decide_eq_true (by omega : ((j : Nat) : Int) < (m.length : Nat)), decide_eq_true (by omega : (0 : Int) ≤ (j : Nat))]
   rfl)
  (fun n x m => by simp [Mj, I2]) k x [] l (by simp) hk h0 (by rw [C4]; omega)
 rw [C4, Int.one_mul] at this
 simp only [F20, Xly]
 exact this
theorem X9g (k : Nat) (l : Bc) (x : Int) (hk : l.length < k) (h0 : 0 ≤ x) (hB : x + (l.length : Int) ≤ 1099511627776) :
  F21 k (Bv gB (fun _ => 1) x l) x = some (x + (l.length : Int)) := by
 have hlen := Hd gB (fun _ => 1) x l
 have hsum := Fm (g := gB) (s := fun _ => 1) (fun _ _ => rfl) x l
 rw [C4 1 l, Int.one_mul] at hsum
 have hh := Sa (t := fun x a => a = IntKind.u8.wrap x) (g := gB) (s := fun _ => 1) (fun _ _ => rfl) (fun _ _ => rfl) x l
 have h9 := C4 1 (Bv gB (fun _ => 1) x l)
 generalize Bv gB (fun _ => 1) x l = m at hlen hsum hh h9
 have := Om 1099511627776 m (fun n y j => Nh k m x n y j) (fun x a => a = IntKind.u8.wrap x) (fun _ => 1) (fun x => x) (fun _ => by decide)
  (fun n y j h ht h0 hB => by
   simp only [Nh, Jc, As]
   rw [D5 j (by omega), i64_in (y + 1) (by omega), Ao m j h, ht]
   rw [decide_eq_true (by omega : ((j : Nat) : Int) < (m.length : Nat)), decide_eq_true (by omega : (0 : Int) ≤ (j : Nat))]
   simp only [bne_self_eq_false, cond_true, cond_false])
  (fun n y => by simp [Nh, Jc]) k x 0 (Nat.zero_le _) (by omega) h0 (by rw [List.drop_zero, hsum]; exact hB) (by rw [List.drop_zero]; exact hh)
 rw [List.drop_zero, hsum] at this
 simp only [F21, Xjd]
 exact this
theorem bs {α β : Type} {o : Option α} {f : α → Option β} {x : α} (h : o = some x) : o.bind f = f x := by rw [h]; rfl
theorem cf {α : Type} {c : Bool} {a b : α} (h : c = false) : cond c a b = b := by rw [h]; rfl
theorem ct {α : Type} {c : Bool} {a b : α} (h : c = true) : cond c a b = a := by rw [h]; rfl
def BOk (b : Bc) : Prop := ∀ x ∈ b, @LE.le Int _ 0 x ∧ @LE.le Int _ x 255
theorem BOk.of {b : Bc} (h : Wf (.sl (.int .u8)) b) : BOk b := fun x hx => by
 have := h.2 x hx
 unfold Wf Lit.wf at this
 simp only [Bool.and_eq_true, decide_eq_true_eq] at this
 exact this
abbrev Cw : Type := List (den Al)
abbrev rtL : Type := List (den Ce)
abbrev Ks : Type := List (den sta)
def Gx : Ks → Nat
 | [] => 0
 | s :: l => s.2.length + Gx l
theorem O1 : ∀ {l : Ks} {s : den sta}, s ∈ l → s.2.length ≤ Gx l
 | a :: l, s, h => by
  rcases List.mem_cons.1 h with rfl | h
  ·simp only [Gx]; omega
  ·have := O1 h
   simp only [Gx]; omega
theorem X0q (k : Nat) (l : rtL) (x : Int) (hl : l.length ≤ maxLen) (hx : 0 ≤ x ∧ x ≤ 1048576) : Xg5 k l x = some (if (l.length : Int) ≤ x then x - (l.length : Int) else -1) := by
 simp only [Xg5, Xbi]
 rw [ml] at hl
 rw [i64_in _ (by omega)]
 by_cases h : (l.length : Int) ≤ x
 ·rw [decide_eq_false (by omega), if_pos h]; rfl
 ·rw [decide_eq_true (by omega), if_neg h]; rfl
theorem Yaz (k : Nat) (s : den sta) (x : Int) (hl : s.2.length ≤ maxLen) (hx : 0 ≤ x ∧ x ≤ 1048576) : F58 k s x = some (if (s.2.length : Int) ≤ x then x - (s.2.length : Int) else -1) := by
 unfold F58; (try dsimp only)
 refine (bs (X0q k _ x hl hx)).trans ?_
 split
 ·exact (cf (decide_eq_false (by omega))).trans rfl
 ·exact (ct (by decide)).trans rfl
theorem X6q (k : Nat) (v : Ks) (w : Int) (hl : v.length ≤ 1048576) (hs : ∀ s ∈ v, s.2.length ≤ maxLen) : ∀ (n j : Nat) (x : Int), j ≤ v.length → v.length - j < n → 0 ≤ x ∧ x ≤ 1048576 → ∃ b, Ph k v w n x (j : Int) = some b ∧ (b < 0 ∨ (0 ≤ b ∧ b + (Gx (v.drop j) : Int) = x))
 | 0, j, x, _, h, _ => by omega
 | n + 1, j, x, hj, h, hx => by
  rw [Ph]
  unfold N8; (try dsimp only [As])
  rcases Nat.lt_or_ge j v.length with hlt | hge
  ·have d1 : decide ((j : Int) < ((v.length : Nat) : Int)) = true := decide_eq_true (by omega)
   have d0 : decide ((0 : Int) ≤ ((j : Nat) : Int)) = true := decide_eq_true (by omega)
   rw [Ao v j hlt, D5 j (by omega), List.drop_eq_getElem_cons hlt]
   have hz := Yaz k v[j] x (hs _ (List.getElem_mem hlt)) hx
   by_cases c : (v[j].2.length : Int) ≤ x
   ·rw [if_pos c] at hz
    obtain ⟨b, hb, hb2⟩ := X6q k v w hl hs n (j + 1) (x - v[j].2.length) hlt (by omega) (by omega)
    refine ⟨b, (ct d1).trans ((ct d0).trans ((ct d1).trans ((bs hz).trans ((cf (decide_eq_false (by omega))).trans hb)))), ?_⟩
    simp only [Gx]
    omega
   ·rw [if_neg c] at hz
    exact ⟨-1, (ct d1).trans ((ct d0).trans ((ct d1).trans ((bs hz).trans ((ct (by decide)).trans rfl)))), .inl (by decide)⟩
  ·have : j = v.length := by omega
   subst this
   rw [List.drop_length]
   exact ⟨x, (cf (decide_eq_false (by omega))).trans rfl, .inr ⟨hx.1, by simp [Gx]⟩⟩
theorem X1t (k : Nat) (l : rtL) (hl : l.length ≤ 1048576) (hk : l.length < k) : Xf3 k l = some l := by
 have := Gt l id (fun n j m => Ik k l n j m) id
  (fun n j m h hm => by
   simp only [Ik, Gq, As]
   rw [Ao l j h, D5 j (by omega), Xuq]
   simp only [Option.bind_some]
   rw [decide_eq_true (by omega : ((j : Nat) : Int) < (l.length : Nat)), decide_eq_true (by omega : (0 : Int) ≤ (j : Nat)), decide_eq_true (by omega : ((j : Nat) : Int) < (m.length : Nat))]
   rfl)
  (fun n m hm => by simp [Ik, Gq]) k 0 (List.replicate l.length (Bl Ce)) (Nat.zero_le _) (by omega) (by simp) (by simp)
 simp only [List.map_id] at this
 simp only [Xf3, Zv]
 rw [decide_eq_true (by omega : (0 : Int) ≤ ((l.length : Nat) : Int)), decide_eq_true (by omega : ((l.length : Nat) : Int) * (32 : Nat) ≤ 140737488355328)]
 simp only [decide_true, Bool.and_self, cond_true]
 exact this
theorem Yc8 (k : Nat) (s : den sta) (hl : s.2.length ≤ 1048576) (hk : s.2.length < k) : F63 k s = some s := by
 unfold F63; (try dsimp only)
 exact (bs (X1t k s.2 hl hk)).trans rfl
theorem Yb5 (k : Nat) (l : Ks) (hl : l.length ≤ 1048576) (hs : Gx l ≤ 1048576) (hk : 1048576 < k) : F14 k l = some l := by
 have := Gt l id (fun n j m => Mp k l n j m) id
  (fun n j m h hm => by
   have hs1 := O1 (List.getElem_mem h)
   simp only [Mp, I6, As]
   rw [Ao l j h, D5 j (by omega), Yc8 k _ (by omega) (by omega)]
   simp only [Option.bind_some]
   rw [decide_eq_true (by omega : ((j : Nat) : Int) < (l.length : Nat)), decide_eq_true (by omega : (0 : Int) ≤ (j : Nat)), decide_eq_true (by omega : ((j : Nat) : Int) < (m.length : Nat))]
   rfl)
  (fun n m hm => by simp [Mp, I6]) k 0 (List.replicate l.length (Bl sta)) (Nat.zero_le _) (by omega) (by simp) (by simp)
 simp only [List.map_id] at this
 simp only [F14, Xjh]
 rw [decide_eq_true (by omega : (0 : Int) ≤ ((l.length : Nat) : Int)), decide_eq_true (by omega : ((l.length : Nat) : Int) * (32 : Nat) ≤ 140737488355328)]
 simp only [decide_true, Bool.and_self, cond_true]
 exact this
theorem Xn4 (k : Nat) (r : den Ce) : Xpa k r r = some true := by
 unfold Xpa Zc; (try dsimp only)
 simp only [bne_self_eq_false, cond_false]
theorem Xng (k : Nat) (l : rtL) (hl : l.length ≤ 1048576) (hk : 1048576 < k) : Xnj k l l = some true := by
 have := Gz l (fun n (_ : Unit) j => Hz k l l n j) (fun s _ => s) (fun _ => true)
  (fun n s j h => by
   simp only [Hz, Gv, As]
   rw [Ao l j h, D5 j (by omega), Xn4 k _]
   simp [h])
  (fun n s => by simp [Hz, Gv]) k () 0 (Nat.zero_le _) (by omega)
 simp only [Xnj, Xl, bne_self_eq_false, cond_false]
 exact this
theorem Xp3 (k : Nat) (s : den sta) (hl : s.2.length ≤ 1048576) (hk : 1048576 < k) : F67 k s s = some true := by
 unfold F67 Xje; (try dsimp only)
 simp only [bne_self_eq_false, cond_false, Xng k s.2 hl hk, Option.bind_some, Bool.not_true]
theorem Xpz (k : Nat) (l : Ks) (hl : l.length ≤ 1048576) (hs : Gx l ≤ 1048576) (hk : 1048576 < k) : F18 k l l = some true := by
 have := Gz l (fun n (_ : Unit) j => Nc k l l n j) (fun s _ => s) (fun _ => true)
  (fun n s j h => by
   have hs1 := O1 (List.getElem_mem h)
   simp only [Nc, Jt, As]
   rw [Ao l j h, D5 j (by omega), Xp3 k _ (by omega) hk]
   simp [h])
  (fun n s => by simp [Nc, Jt]) k () 0 (Nat.zero_le _) (by omega)
 simp only [F18, Xi9, bne_self_eq_false, cond_false]
 exact this
def gT (y : Int) (r : den Ce) : den Ce := (y, y + 1, y + 2, y + 3)
theorem X9n (k : Nat) (l : rtL) (x : Int) (hl : l.length ≤ 1048576) (hk : l.length < k) (h0 : 0 ≤ x) (hB : x + 4 * (l.length : Int) ≤ 1099511627776) :
  F68 k l x = some (x + 4 * (l.length : Int), Bv gT (fun _ => 4) x l) := by
 have := T9 1099511627776 l.length (fun n y j m => Nk k l x n y j m) gT (fun _ => 4) (fun x m => (x, m)) (fun _ => by decide)
  (fun n y j m h hN h0 hB => by
   have d1 : decide ((j : Int) < ((m.length : Nat) : Int)) = true := decide_eq_true (by omega)
   have d0 : decide ((0 : Int) ≤ ((j : Nat) : Int)) = true := decide_eq_true (by omega)
   have w0 : IntKind.i64.wrap (y + 1) = y + 1 := by rw [i64_in _ (by omega)]
   have w1 : IntKind.i64.wrap (y + 1 + 1) = y + 2 := by rw [i64_in _ (by omega)]; omega
   have w2 : IntKind.i64.wrap (y + 2 + 1) = y + 3 := by rw [i64_in _ (by omega)]; omega
   have w3 : IntKind.i64.wrap (y + 3 + 1) = y + 4 := by rw [i64_in _ (by omega)]; omega
   simp only [Nk, J1, As]
   rw [D5 j (by omega)]
   simp only [Int.toNat_natCast, List.set_set, S2 h, List.length_set, d0, d1, cond_true, sto, Option.bind_some, w0, w1, w2, w3]
   rfl)
  (fun n x m => by simp [Nk, J1]) k x [] l (by simp) hk h0 (by rw [C4]; exact hB)
 rw [C4] at this
 simp only [F68, Xl3]
 exact this
def wT (s : den sta) : Int := 1 + 4 * (s.2.length : Int)
theorem Xge (s : den sta) : 0 ≤ wT s := by unfold wT; omega
def gS (y : Int) (s : den sta) : den sta := (y, Bv gT (fun _ => 4) (y + 1) s.2)
theorem sumT (l : Ks) : A7 wT l = (l.length : Int) + 4 * (Gx l : Int) := by
 induction l with
 | nil => rfl
 | cons a l ih => simp only [A7, Gx, wT, ih, List.length_cons]; omega
theorem X83 (k : Nat) (l : Ks) (x : Int) (hl : l.length ≤ 1048576) (hs : Gx l ≤ 1048576) (hk : 1048576 < k) (h0 : 0 ≤ x) (hB : x + A7 wT l ≤ 1099511627776) :
  F19 k l x = some (x + A7 wT l, Bv gS wT x l) := by
 simp only [F19, Xlf]
 have main : ∀ (n : Nat) (y : Int) (d r : Ks), d.length + r.length = l.length → r.length < n → Gx r ≤ 1048576 → 0 ≤ y → y + A7 wT r ≤ 1099511627776 →
   Mw k l x n y (d.length : Nat) (d ++ r) = some (y + A7 wT r, d ++ Bv gS wT y r) := by
  intro n
  induction n with
  | zero => intro y d r _ h; omega
  | succ n ih =>
   intro y d r hN2 hn hr h0 hB
   cases r with
   | nil => simp [Mw, J2, A7, Bv]
   | cons a r =>
    simp only [A7] at hB
    simp only [Gx] at hr
    have ha := Xge a
    have hr2 := Bp Xge r
    have h : d.length < (d ++ a :: r).length := by simp
    have d1 : decide (((d.length : Nat) : Int) < (((d ++ a :: r).length : Nat) : Int)) = true := decide_eq_true (by omega)
    have d0 : decide ((0 : Int) ≤ ((d.length : Nat) : Int)) = true := decide_eq_true (by omega)
    have hw : wT a = 1 + 4 * (a.2.length : Int) := rfl
    have w0 : IntKind.i64.wrap (y + 1) = y + 1 := by rw [i64_in _ (by omega)]
    have hg : (d ++ a :: r)[d.length] = a := by simp
    have m1 := X9n k a.2 (y + 1) (by omega) (by omega) (by omega) (by omega)
    have := ih (y + wT a) (d ++ [gS y a]) r (by simp at hN2 ⊢; omega) (by simp at hn; omega) (by omega) (by omega) (by omega)
    simp only [List.length_append, List.length_singleton, List.append_assoc, List.singleton_append] at this
    have hset : (d ++ a :: r).set d.length (gS y a) = d ++ gS y a :: r := by simp
    have e1 : y + 1 + 4 * (a.2.length : Int) = y + wT a := by omega
    simp only [Mw, J2, As]
    rw [Ao (d ++ a :: r) d.length h, hg, D5 d.length (by simp at hN2; omega)]
    simp only [Int.toNat_natCast, List.set_set, S2 h, List.length_set, d0, d1, cond_true, w0, m1, Option.bind_some]
    rw [show (d ++ a :: r).set d.length (y, Bv gT (fun _ => 4) (y + 1) a.2) = d ++ gS y a :: r from hset, e1, this]
    simp [A7, Bv, Int.add_assoc]
 have := main k x [] l (by simp) (by omega) hs h0 hB
 simpa using this
end Go.Proofs.YtdmepjjepogddaaGreat.Gn
end

section
namespace Go.Proofs.YtdmepjjepogddaaGreat.Gn
open Go.Rf Go.IntWalk
set_option linter.unusedVariables false
set_option linter.unusedSimpArgs false
def Dc (v : Int) : Bc := [v / 256, v % 256]
theorem u8W (v : Int) (h : 0 ≤ v ∧ v ≤ 255) : IntKind.u8.wrap v = v := u8_in v h
theorem u8M (v : Int) : IntKind.u8.wrap v = v % 256 := by rw [IntKind.wrap_u8]
theorem Mh (n : Nat) (v : Int) (h : 0 ≤ v ∧ v ≤ 65535) : F93 (n + 4) v 2 = some (Dc v) := by
 have w1 : IntKind.i64.wrap (2 - 1) = 1 := by decide
 have w0 : IntKind.i64.wrap (1 - 1) = 0 := by decide
 have wm : IntKind.i64.wrap (0 - 1) = -1 := by decide
 have hd : v.fdiv 256 = v / 256 := Int.fdiv_eq_ediv_of_nonneg v (by omega)
 have e8 : ((2 : Int) ^ 8) = 256 := by decide
 unfold F93 Xkk; (try dsimp only)
 rw [w1]
 refine (ct (by decide)).trans ?_
 have aux : ∀ k m : Nat, Jg k v 2 (m + 1 + 1 + 1) v 1 (List.replicate (Int.toNat 2) (Bl (.int .u8))) = some (Dc v) := fun k m => by
  rw [Jg]
  unfold Hf; (try dsimp only [As])
  refine (ct (by decide)).trans ((ct (by decide)).trans ((ct (by decide)).trans ?_))
  try dsimp only
  rw [w0, Jg]
  unfold Hf; (try dsimp only [As])
  refine (ct (by decide)).trans ((ct (by decide)).trans ((ct (by simp)).trans ?_))
  try dsimp only
  rw [wm, Jg]
  unfold Hf; (try dsimp only [As])
  refine (cf (by decide)).trans ?_
  rw [e8, hd, u8M, u8W (v / 256) (by omega)]
  rfl
 exact aux (n + 4) (n + 1)
theorem H9 (n : Nat) (v : Int) (h : 0 ≤ v ∧ v ≤ 65535) : Sk (n + 4) v 2 = some (Dc v) := by
 have w1 : IntKind.i64.wrap (2 - 1) = 1 := by decide
 have w0 : IntKind.i64.wrap (1 - 1) = 0 := by decide
 have wm : IntKind.i64.wrap (0 - 1) = -1 := by decide
 have hd : v.fdiv 256 = v / 256 := Int.fdiv_eq_ediv_of_nonneg v (by omega)
 have hd1 : v.fdiv 1 = v := by simp
 have e1 : ((2 : Int) ^ (min (IntKind.i64.wrap (8 * 1)).toNat 64)) = 256 := by decide
 have e0 : ((2 : Int) ^ (min (IntKind.i64.wrap (8 * 0)).toNat 64)) = 1 := by decide
 have i1 : inB 2 1 4 = true := by decide
 have i2 : inB v 0 (IntKind.i64.wrap ((IntKind.i64.wrap (1 * 2 ^ (min (IntKind.i64.wrap (8 * 2)).toNat 64))) - 1)) = true := by
  rw [show IntKind.i64.wrap ((IntKind.i64.wrap (1 * 2 ^ (min (IntKind.i64.wrap (8 * 2)).toNat 64))) - 1) = 65535 by decide]
  unfold inB
  rw [decide_eq_true h.1, decide_eq_true h.2]
  rfl
 unfold Sk Xr; (try dsimp only)
 rw [Bm, i1, Option.bind_some, w1]
 refine (cf rfl).trans ((cf (by decide)).trans ?_)
 rw [Bm, i2, Option.bind_some]
 refine (cf rfl).trans ?_
 have aux : ∀ k m : Nat, F0 k v 2 (m + 1 + 1 + 1) 1 [] = some (Dc v) := fun k m => by
  rw [F0]
  unfold E0; (try dsimp only [Bt])
  refine (ct (by decide)).trans ((cf (by decide)).trans ((ct (by simp)).trans ?_))
  try dsimp only
  rw [w0, F0]
  unfold E0; (try dsimp only [Bt])
  refine (ct (by decide)).trans ((cf (by decide)).trans ((ct (by simp)).trans ?_))
  try dsimp only
  rw [wm, F0]
  unfold E0; (try dsimp only [Bt])
  refine (cf (by decide)).trans ?_
  rw [e1, e0, hd, hd1, Int.tmod_eq_of_lt (by omega) (by omega), Int.tmod_eq_emod_of_nonneg h.1, u8W (v / 256) (by omega), u8W (v % 256) (by omega)]
  rfl
 exact aux (n + 4) (n + 1)
def red (n : Int) : Int := if n > 65535 then n - 65535 else n
def smV : Int → Bc → Int
 | s, [] => s
 | s, [x] => red (s + x * 256)
 | s, x :: y :: r => smV (red (s + (x * 256 + y))) r
theorem Qc {n : Int} (h : 0 ≤ n ∧ n ≤ 131070) : 0 ≤ red n ∧ red n ≤ 65535 := by unfold red; split <;> omega
theorem Xy2 {s x y : Int} (hs : 0 ≤ s ∧ s ≤ 65535) (hx : 0 ≤ x ∧ x ≤ 255) (hy : 0 ≤ y ∧ y ≤ 255) : red (red (s + x * 256) + y) = red (s + (x * 256 + y)) := by
 unfold red
 split <;> split <;> split <;> omega
theorem byt {l : Bc} (hb : BOk l) (j : Nat) (h : j < l.length) : @LE.le Int _ 0 l[j] ∧ @LE.le Int _ l[j] 255 := hb _ (List.getElem_mem h)
theorem Xaw (k : Nat) (l : Bc) (hb : BOk l) (hl : l.length ≤ 1048576) : ∀ (n j : Nat) (s : Int), j % 2 = 0 → j ≤ l.length → l.length - j < n → (0 ≤ s ∧ s ≤ 65535) → Em k l n s (j : Int) = some (smV s (l.drop j))
 | 0, j, s, _, _, h, _ => by omega
 | 1, j, s, h2, hj, h, hs => by
  have : j = l.length := by omega
  subst this
  rw [Em, List.drop_length]
  unfold E4; (try dsimp only [As])
  exact (cf (decide_eq_false (by omega))).trans rfl
 | n + 2, j, s, h2, hj, h, hs => by
  rw [Em]
  unfold E4; (try dsimp only [As])
  rcases Nat.lt_or_ge j l.length with hlt | hge
  ·obtain ⟨x, hx⟩ : ∃ x : Int, x = l[j] := ⟨_, rfl⟩
   have bx : 0 ≤ x ∧ x ≤ 255 := by rw [hx]; exact byt hb j hlt
   have d1 : decide ((j : Int) < ((l.length : Nat) : Int)) = true := decide_eq_true (by omega)
   have d0 : decide ((0 : Int) ≤ ((j : Nat) : Int)) = true := decide_eq_true (by omega)
   have ev : (((j : Int).tmod 2) == 0) = true := by rw [Int.tmod_eq_emod_of_nonneg (by omega)]; exact beq_iff_eq.2 (by omega)
   have nxt : ∀ s1 : Int, s1 = red (s + x * 256) → Em k l (n + 1) s1 ((j + 1 : Nat) : Int) = some (smV s (l.drop j)) := fun s1 hs1 => by
    have b1 := Qc (n := s + x * 256) (by omega)
    rw [← hs1] at b1
    rw [Em]
    unfold E4; (try dsimp only [As])
    rcases Nat.lt_or_ge (j + 1) l.length with hlt' | hge'
    ·obtain ⟨y, hy⟩ : ∃ y : Int, y = l[j + 1] := ⟨_, rfl⟩
     have by_ : 0 ≤ y ∧ y ≤ 255 := by rw [hy]; exact byt hb (j + 1) hlt'
     have od : ((((j + 1 : Nat) : Int).tmod 2) == 0) = false := by rw [Int.tmod_eq_emod_of_nonneg (by omega)]; exact beq_eq_false_iff_ne.2 (by omega)
     have e2 : smV s (l.drop j) = smV (red (s + (x * 256 + y))) (l.drop (j + 2)) := by
      rw [List.drop_eq_getElem_cons hlt, List.drop_eq_getElem_cons hlt', smV, ← hx, ← hy]
     have b2 := Qc (n := s1 + y) (by omega)
     rw [e2, ← Xy2 hs bx by_, ← hs1]
     refine (ct (decide_eq_true (by omega))).trans ((cf od).trans ((ct (decide_eq_true (by omega))).trans ((ct (decide_eq_true (by omega))).trans ?_)))
     rw [Ao l (j + 1) hlt', ← hy, i64_in y (by omega), i64_in (s1 + y) (by omega), i64_in (s1 + y - 65535) (by omega), D5 (j + 1) (by omega)]
     unfold red at b2 ⊢
     by_cases c : s1 + y > 65535
     ·rw [if_pos c] at b2 ⊢
      exact (ct (decide_eq_true c)).trans (Xaw k l hb hl n (j + 2) _ (by omega) (by omega) (by omega) b2)
     ·rw [if_neg c] at b2 ⊢
      exact (cf (decide_eq_false c)).trans (Xaw k l hb hl n (j + 2) _ (by omega) (by omega) (by omega) b2)
    ·have e1 : l.drop j = [l[j]] := by
      rw [List.drop_eq_getElem_cons hlt, List.drop_eq_nil_of_le (by omega)]
     rw [e1, smV, ← hx, ← hs1]
     exact (cf (decide_eq_false (by omega))).trans rfl
   refine (ct d1).trans ((ct ev).trans ((ct d0).trans ((ct d1).trans ?_)))
   rw [Ao l j hlt, ← hx, i64_in x (by omega), i64_in (x * 256) (by omega), i64_in (s + x * 256) (by omega), i64_in (s + x * 256 - 65535) (by omega), D5 j (by omega)]
   by_cases c : s + x * 256 > 65535
   ·exact (ct (decide_eq_true c)).trans (nxt _ (by unfold red; rw [if_pos c]))
   ·exact (cf (decide_eq_false c)).trans (nxt _ (by unfold red; rw [if_neg c]))
  ·have : j = l.length := by omega
   subst this
   rw [List.drop_length]
   exact (cf (decide_eq_false (by omega))).trans rfl
theorem Mq {α : Type} {N : Nat} (hN : 1 ≤ N) : Ca N ([] : List α) = [] := by
 unfold Ca
 rw [show (([] : List α).length + N - 1) / N = 0 from Nat.div_eq_of_lt (by simp; omega)]
 rfl
theorem I4 {α : Type} {N : Nat} (hN : 1 ≤ N) (l : List α) (h : l ≠ []) : Ca N l = l.take N :: Ca N (l.drop N) := by
 have hl : 1 ≤ l.length := List.length_pos_iff.2 h
 have hc : (l.length + N - 1) / N = ((l.drop N).length + N - 1) / N + 1 := by
  rw [List.length_drop]
  by_cases hle : N ≤ l.length
  ·rw [show l.length + N - 1 = (l.length - N + N - 1) + N by omega, Nat.add_div_right _ (by omega)]
  ·rw [show l.length - N = 0 by omega, Nat.zero_add, Nat.div_eq_of_lt (show N - 1 < N by omega)]
   exact Nat.div_eq_of_lt_le (by omega) (by omega)
 unfold Ca
 rw [hc, List.range_succ_eq_map, List.map_cons, List.map_map]
 congr 1
 ·simp [Sg]
 ·refine List.map_congr_left fun j _ => ?_
  simp only [Function.comp, Sg, List.drop_drop]
  congr 2
  rw [Nat.succ_mul]
  omega
theorem S5 (x y : Int) (hx : 0 ≤ x ∧ x ≤ 255) (hy : 0 ≤ y ∧ y ≤ 255) : Di .or .i64 (x * 256) y = x * 256 + y := by
 obtain ⟨a, rfl⟩ := Int.eq_ofNat_of_zero_le hx.1
 obtain ⟨b, rfl⟩ := Int.eq_ofNat_of_zero_le hy.1
 have ha : a ≤ 255 := by omega
 have hb : b ≤ 255 := by omega
 have e : ((a : Int) * 256) = ((a * 256 : Nat) : Int) := by omega
 rw [e]
 have h1 : (BitVec.ofInt 64 ((a * 256 : Nat) : Int) ||| BitVec.ofInt 64 (b : Int)).toNat = a * 256 + b := by
  rw [BitVec.toNat_or]
  simp only [BitVec.ofInt_natCast, BitVec.toNat_ofNat]
  rw [Nat.mod_eq_of_lt (by omega), Nat.mod_eq_of_lt (by omega)]
  have := Nat.shiftLeft_add_eq_or_of_lt (show b < 2 ^ 8 by omega) a
  rw [Nat.shiftLeft_eq] at this
  exact this.symm
 show IntKind.i64.wrap (((BitVec.ofInt 64 ((a * 256 : Nat) : Int) ||| BitVec.ofInt 64 (b : Int)).toNat : Nat) : Int) = _
 rw [h1, i64_in _ (by omega)]
 omega
theorem Xmv {l : Bc} (hb : BOk l) {x : den (.int .u8)} (h : x ∈ l) : ∃ v : Int, v = x ∧ (0 ≤ v ∧ v ≤ 255) := ⟨x, rfl, hb x h⟩
theorem Xlu (n : Nat) (s m : Int) (hs : 0 ≤ s ∧ s ≤ 65535) (hm : 0 ≤ m ∧ m ≤ 65535) : Xcg (n + 4) [s, m] = some (red (s + m)) := by
 have aux : ∀ k q : Nat, En k [s, m] (q + 1 + 1 + 1) 0 0 = some (red (s + m)) := fun k q => by
  rw [En]
  unfold Ev; (try dsimp only [As])
  refine (ct rfl).trans ((ct rfl).trans ((ct rfl).trans ?_))
  rw [show Ac (t := .int .i64) [s, m] 0 = s from rfl, Int.zero_add, i64_in s (by omega)]
  refine (cf (decide_eq_false (by omega))).trans ?_
  try dsimp only
  rw [show IntKind.i64.wrap (0 + 1) = 1 by decide, En]
  unfold Ev; (try dsimp only [As])
  refine (ct rfl).trans ((ct rfl).trans ((ct rfl).trans ?_))
  rw [show Ac (t := .int .i64) [s, m] 1 = m from rfl, i64_in (s + m) (by omega), i64_in (s + m - 65535) (by omega), show IntKind.i64.wrap (1 + 1) = 2 by decide]
  have fin : ∀ r : Int, En k [s, m] (q + 1) r 2 = some r := fun r => by
   rw [En]
   unfold Ev; (try dsimp only [As])
   exact (cf rfl).trans rfl
  unfold red
  by_cases c : s + m > 65535
  ·rw [if_pos c]
   exact (ct (decide_eq_true c)).trans (fin _)
  ·rw [if_neg c]
   exact (cf (decide_eq_false c)).trans (fin _)
 exact aux (n + 4) (n + 1)
theorem Xlz (n : Nat) (a0 : Bc) : ∀ (m : Nat) (l : Bc) (s : Int), l.length ≤ m → BOk l → (0 ≤ s ∧ s ≤ 65535) → Fk (n + 4) a0 (Ca 2 l) s = some (65535 - smV s l)
 | _, [], s, _, _, hs => by
  rw [Mq (by omega), Fk, smV, i64_in _ (by omega)]
 | 0, _ :: _, _, h, _, _ => by simp at h
 | m + 1, [x], s, h, hb, hs => by
  obtain ⟨x, rfl, bx⟩ := Xmv hb (x := x) (by simp)
  have e8 : ((2 : Int) ^ 8) = 256 := by decide
  have b1 := Qc (n := s + x * 256) (by omega)
  rw [I4 (by omega) [x] (by simp)]
  simp only [List.take_succ_cons, List.take_nil, List.drop_succ_cons, List.drop_nil]
  rw [Fk]
  refine (ct (by simp)).trans ((cf (by simp)).trans ?_)
  rw [show Ac (t := .int .u8) [x] 0 = x from rfl, e8, i64_in x (by omega), i64_in (x * 256) (by omega), Xlu n s (x * 256) hs (by omega), Option.bind_some, Mq (by omega), Fk, smV, i64_in _ (by omega)]
 | m + 1, x :: y :: r, s, h, hb, hs => by
  obtain ⟨x, rfl, bx⟩ := Xmv hb (x := x) (by simp)
  obtain ⟨y, rfl, by_⟩ := Xmv hb (x := y) (by simp)
  have e8 : ((2 : Int) ^ 8) = 256 := by decide
  have b1 := Qc (n := s + (x * 256 + y)) (by omega)
  rw [I4 (by omega) (x :: y :: r) (by simp)]
  simp only [List.take_succ_cons, List.take_zero, List.drop_succ_cons, List.drop_zero]
  rw [Fk]
  refine (ct (by simp)).trans ((ct (by simp)).trans ((ct (by simp)).trans ?_))
  rw [show Ac (t := .int .u8) [x, y] 0 = x from rfl, show Ac (t := .int .u8) [x, y] 1 = y from rfl, e8, i64_in x (by omega), i64_in y (by omega), i64_in (x * 256) (by omega), S5 x y bx by_, Xlu n s (x * 256 + y) hs (by omega), Option.bind_some, smV]
  exact Xlz n a0 m r _ (by simp only [List.length_cons] at h; omega) (fun z hz => hb z (by simp [hz])) b1
theorem Xib : ∀ (l : Bc) (s : Int), BOk l → (0 ≤ s ∧ s ≤ 65535) → 0 ≤ smV s l ∧ smV s l ≤ 65535
 | [], s, _, hs => hs
 | [x], s, hb, hs => by
  obtain ⟨x, rfl, bx⟩ := Xmv hb (x := x) (by simp)
  exact Qc (by omega)
 | x :: y :: r, s, hb, hs => by
  obtain ⟨x, rfl, bx⟩ := Xmv hb (x := x) (by simp)
  obtain ⟨y, rfl, by_⟩ := Xmv hb (x := y) (by simp)
  exact Xib r _ (fun z hz => hb z (by simp [hz])) (Qc (by omega))
def Ni (l : Bc) : Int := 65535 - smV 0 l
theorem Xx3 (n : Nat) (l : Bc) (hb : BOk l) (hl : l.length ≤ 1048576) : F94 (n + 4) l = some (Ni l) := by
 unfold F94; (try dsimp only)
 rw [decide_eq_true (by omega : l.length ≤ 140737488355328)]
 exact Xlz n l l.length l 0 (Nat.le_refl _) hb (by omega)
theorem Xkg (k : Nat) (l : Bc) (hb : BOk l) (hl : l.length ≤ 1048576) (hk : 1048576 < k) : Xgu k l = some (Ni l) := by
 have := Xaw k l hb hl k 0 0 rfl (Nat.zero_le _) (by omega) (by omega)
 have h2 := Xib l 0 hb (by omega)
 unfold Xgu Xod Xac; (try dsimp only)
 refine (bs this).trans ?_
 rw [List.drop_zero, i64_in _ (by omega)]
 rfl
theorem X2n (k : Nat) (a : Int) (h : 0 ≤ a ∧ a ≤ 16777216) : Xmc k [] a = some [] := by
 unfold Xmc Xt; (try dsimp only)
 rw [show a - 0 = a by omega, i64_in a (by omega)]
 refine (cf (decide_eq_false (by omega))).trans ?_
 by_cases c : a > 0
 ·refine (ct (decide_eq_true c)).trans ((ct (by rfl)).trans ?_)
  rw [decide_eq_true (by omega : 0 < a), decide_eq_true (by omega : a * (1 : Nat) ≤ 140737488355328)]
  refine (ct (by rfl)).trans ((ct ?_).trans ?_)
  ·rw [Bool.and_eq_true]; exact ⟨by rfl, decide_eq_true (by omega)⟩
  ·simp
 ·exact (cf (decide_eq_false c)).trans rfl
theorem Xxq (k : Nat) (l : List Bc) (hl : l.length ≤ 1048576) : ∀ (n j : Nat) (m : Bc), j ≤ l.length → l.length - j < n → m.length + (l.drop j).flatten.length ≤ 4194304 → Pw k l n (j : Int) m = some (m ++ (l.drop j).flatten)
 | 0, j, m, _, h, _ => by omega
 | n + 1, j, m, hj, h, hm => by
  rw [Pw]
  unfold Ns; (try dsimp only [As, Bt])
  rcases Nat.lt_or_ge j l.length with hlt | hge
  ·rw [List.drop_eq_getElem_cons hlt, List.flatten_cons, List.length_append] at hm
   rw [List.drop_eq_getElem_cons hlt, List.flatten_cons, Ao (t := .sl (.int .u8)) l j hlt, D5 j (by omega)]
   refine (ct (decide_eq_true (by omega))).trans ((ct (decide_eq_true (by omega))).trans ((ct (decide_eq_true (by omega))).trans ((ct (decide_eq_true (by omega))).trans ?_)))
   try dsimp only
   rw [Xxq k l hl n (j + 1) (m ++ l[j]) hlt (by omega) (by rw [List.length_append]; omega), List.append_assoc]
  ·have : j = l.length := by omega
   subst this
   rw [List.drop_length]
   refine (cf (decide_eq_false (by omega))).trans ?_
   simp
theorem Xxn (k : Nat) (l : List Bc) (hk : l.length < k) (hl : l.length ≤ 1048576) (ht : l.flatten.length ≤ 4194304) : ∀ (n j : Nat) (s : Int), j ≤ l.length → l.length - j < n → (0 ≤ s ∧ s + ((l.drop j).flatten.length : Int) ≤ 4194304) → Qm k l n s (j : Int) = some l.flatten
 | 0, j, s, _, h, _ => by omega
 | n + 1, j, s, hj, h, hm => by
  rw [Qm]
  unfold N2; (try dsimp only [As])
  rcases Nat.lt_or_ge j l.length with hlt | hge
  ·rw [List.drop_eq_getElem_cons hlt, List.flatten_cons, List.length_append] at hm
   rw [Ao (t := .sl (.int .u8)) l j hlt, D5 j (by omega), i64_in (s + ((l[j].length : Nat) : Int)) (by omega)]
   refine (ct (decide_eq_true (by omega))).trans ((ct (decide_eq_true (by omega))).trans ((ct (decide_eq_true (by omega))).trans ((cf (decide_eq_false (by omega))).trans ?_)))
   exact Xxn k l hk hl ht n (j + 1) _ hlt (by omega) (by omega)
  ·have : j = l.length := by omega
   subst this
   rw [List.drop_length] at hm
   refine (cf (decide_eq_false (by omega))).trans ?_
   refine (bs (X2n k s (by simp at hm; omega))).trans ?_
   have := Xxq k l hl k 0 [] (Nat.zero_le _) (by omega) (by rw [List.drop_zero]; simpa using ht)
   simpa using this
theorem Rs (k : Nat) (l : List Bc) (hk : l.length < k) (hl : l.length ≤ 1048576) (ht : l.flatten.length ≤ 4194304) : F92 k l = some l.flatten := by
 unfold F92 Xj9; (try dsimp only)
 exact Xxn k l hk hl ht k 0 0 (Nat.zero_le _) (by omega) (by rw [List.drop_zero]; omega)
def I1 (v : Int) : den (.int .u8) := IntKind.u8.wrap v
theorem Kz (v : Int) : (Dc v).length = 2 := rfl
theorem BOk.app {x y : Bc} (hx : BOk x) (hy : BOk y) : BOk (x ++ y) := fun z hz => (List.mem_append.1 hz).elim (hx z) (hy z)
theorem BOk.nil : BOk [] := fun z hz => by cases hz
theorem BOk.cons {v : Int} {x : Bc} (hx : BOk x) : BOk (I1 v :: x) := fun z hz => by
 rcases List.mem_cons.1 hz with rfl | hz
 ·have e : I1 v = v % 256 := u8M v
  rw [e]
  exact ⟨show (0 : Int) ≤ v % 256 by omega, show v % 256 ≤ (255 : Int) by omega⟩
 ·exact hx z hz
theorem Ei {v : Int} (h : 0 ≤ v ∧ v ≤ 65535) : BOk (Dc v) := fun z hz => by
 rcases List.mem_cons.1 hz with rfl | hz
 ·exact ⟨show (0 : Int) ≤ v / 256 by omega, show v / 256 ≤ (255 : Int) by omega⟩
 ·obtain rfl := List.mem_singleton.1 hz
  exact ⟨show (0 : Int) ≤ v % 256 by omega, show v % 256 ≤ (255 : Int) by omega⟩
theorem Xju (k : Nat) (b : Bool) (v : Int) : Xi6 k b v = some (if b then v else 0) := by
 unfold Xi6; (try dsimp only)
 cases b <;> rfl
theorem Y0 {l : Bc} (hb : BOk l) : 0 ≤ Ni l ∧ Ni l ≤ 65535 := by
 have := Xib l 0 hb (by omega)
 unfold Ni
 omega
end Go.Proofs.YtdmepjjepogddaaGreat.Gn
end

section
namespace Go.Proofs.YtdmepjjepogddaaGreat.Gn
open Go.Rf Go.IntWalk
set_option linter.unusedVariables false
set_option linter.unusedSimpArgs false
def rest (n : Int) : Int := 2 ^ (16 - n).toNat
theorem p2 (m : Nat) (h : m ≤ 16) : (1 : Int) ≤ 2 ^ m ∧ (2 : Int) ^ m ≤ 65536 := (by decide : ∀ m : Fin 17, (1 : Int) ≤ 2 ^ (m : Nat) ∧ (2 : Int) ^ (m : Nat) ≤ 65536) ⟨m, by omega⟩
theorem S4 {n : Int} (h : 0 ≤ n ∧ n ≤ 16) : 1 ≤ rest n ∧ rest n ≤ 65536 := p2 _ (by omega)
theorem Xs {n : Int} (h : 0 ≤ n ∧ n ≤ 16) : IntKind.i64.wrap (1 * 2 ^ (min (16 - n).toNat 64)) = rest n := by
 have := S4 h
 rw [Nat.min_eq_left (by omega), Int.one_mul]
 exact i64_in (rest n) (by omega)
theorem Xz (k : Nat) {n : Int} (h : 0 ≤ n ∧ n ≤ 16) : Xdi k n = some (rest n) := by
 unfold Xdi Zy; (try dsimp only)
 rw [i64_in (16 - n) (by omega), Xs h]
 exact (cf (decide_eq_false (by omega))).trans rfl
def okR (r : den Ce) : Bool := inB r.2.1 0 16 && inB r.1 0 65535 && (Int.tmod r.1 (rest r.2.1) == 0) && inB r.2.2.1 0 65535 && inB r.2.2.2 1 48
theorem A8 {a b c : Int} (h : inB a b c = true) : b ≤ a ∧ a ≤ c := by simpa [inB] using h
theorem Cn {a b c : Int} (h : b ≤ a ∧ a ≤ c) : inB a b c = true := by simpa [inB] using h
theorem Xj5 (k : Nat) (r : den Ce) : Xfv k r = some (okR r) := by
 obtain ⟨v0, v1, v2, v3⟩ := r
 unfold Xfv Zx okR; (try dsimp only [Gl])
 refine (bs (Bm k v1 0 16)).trans ?_
 try dsimp only
 cases h1 : inB v1 0 16 with
 | false => rfl
 | true =>
  have hr := S4 (A8 h1)
  refine (ct rfl).trans ((bs (Bm k v0 0 65535)).trans ?_)
  cases h2 : inB v0 0 65535 with
  | false => rfl
  | true =>
   refine (ct rfl).trans ((bs (Xz k (A8 h1))).trans ((cf (decide_eq_false (by omega))).trans ?_))
   cases h3 : (Int.tmod v0 (rest v1) == 0) with
   | false => rfl
   | true =>
    refine (ct rfl).trans ((bs (Bm k v2 0 65535)).trans ?_)
    cases h4 : inB v2 0 65535 with
    | false => rfl
    | true => exact (ct rfl).trans ((bs (Bm k v3 1 48)).trans rfl)
theorem X0v (k : Nat) (r : den Ce) : Xno k r = some (okR r) := by
 obtain ⟨v0, v1, v2, v3⟩ := r
 unfold Xno Yd okR; (try dsimp only [Gl])
 refine (bs (C1 k v1 0 16)).trans ?_
 try dsimp only
 cases h1 : inB v1 0 16 with
 | false => rfl
 | true =>
  have hi := A8 h1
  have hr := S4 hi
  refine (ct rfl).trans ((bs (Fh k v0)).trans ?_)
  cases h2 : inB v0 0 65535 with
  | false => rfl
  | true =>
   have e1 := i64_in (16 - v1) (by omega)
   refine (ct rfl).trans ((cf (by rw [e1]; exact decide_eq_false (by omega))).trans ((cf (by rw [e1, Xs hi]; exact decide_eq_false (by omega))).trans ?_))
   rw [e1, Xs hi]
   cases h3 : (Int.tmod v0 (rest v1) == 0) with
   | false => rfl
   | true =>
    refine (ct rfl).trans ((bs (Fh k v2)).trans ?_)
    cases h4 : inB v2 0 65535 with
    | false => rfl
    | true => exact (ct rfl).trans ((bs (C1 k v3 1 48)).trans rfl)
theorem Ow {r : den Ce} (h : okR r = true) : inB r.2.1 0 16 = true ∧ inB r.1 0 65535 = true ∧ inB r.2.2.1 0 65535 = true ∧ inB r.2.2.2 1 48 = true := by
 unfold okR at h
 simp only [Bool.and_eq_true] at h
 exact ⟨h.1.1.1.1, h.1.1.1.2, h.1.2, h.2⟩
def Pq (a b : Int) : Int := if a < b then -1 else if a > b then 1 else 0
def orV (a b : Int) : Int := if a ≠ 0 then a else b
theorem Xae (k : Nat) (a b : Int) : X7 k a b = some (Pq a b) := by
 unfold X7 Xbd Xm2 Pq; (try dsimp only)
 simp only [bne_self_eq_false, Option.bind_some, cond_false]
 by_cases h1 : a < b
 ·rw [decide_eq_true h1, if_pos h1]; rfl
 ·rw [decide_eq_false h1, if_neg h1]
  by_cases h2 : a > b
  ·rw [decide_eq_true h2, if_pos h2]; rfl
  ·rw [decide_eq_false h2, if_neg h2]; rfl
theorem Xzf (n : Nat) (a b : Int) : Xqf (n + 4) [a, b] = some (orV a b) := by
 have aux : ∀ k m : Nat, Gb k [a, b] (m + 1 + 1 + 1) 0 = some (orV a b) := fun k m => by
  rw [Gb]
  unfold E2 orV; (try dsimp only [As])
  refine (ct rfl).trans ((ct rfl).trans ((ct rfl).trans ?_))
  rw [show Ac (t := .int .i64) [a, b] 0 = a from rfl]
  by_cases h : a ≠ 0
  ·rw [if_pos h]
   exact (ct (bne_iff_ne.2 h)).trans rfl
  ·rw [if_neg h]
   refine (cf (bne_eq_false_iff_eq.2 (Decidable.not_not.1 h))).trans ?_
   rw [show IntKind.i64.wrap (0 + 1) = 1 by decide, Gb]
   unfold E2; (try dsimp only [As])
   refine (ct rfl).trans ((ct rfl).trans ((ct rfl).trans ?_))
   rw [show Ac (t := .int .i64) [a, b] 1 = b from rfl]
   by_cases h2 : b ≠ 0
   ·exact (ct (bne_iff_ne.2 h2)).trans rfl
   ·refine (cf (bne_eq_false_iff_eq.2 (Decidable.not_not.1 h2))).trans ?_
    rw [show IntKind.i64.wrap (1 + 1) = 2 by decide, Gb]
    unfold E2; (try dsimp only [As])
    rw [Decidable.not_not.1 h2]
    exact (cf rfl).trans rfl
 exact aux (n + 4) (n + 1)
theorem Xz7 (n : Nat) (p c : den Ce) : Xn6 (n + 4) p c = some (orV (Pq p.2.1 c.2.1) (Pq p.1 c.1)) := by
 unfold Xn6 Y7; (try dsimp only)
 exact (bs (Xae _ _ _)).trans ((bs (Xae _ _ _)).trans ((bs (Xzf _ _ _)).trans rfl))
def ltR (p1 p0 c1 c0 : Int) : Bool := decide (p1 < c1) || (decide (p1 = c1) && decide (p0 < c0))
theorem ordS {α : Type} (p1 p0 c1 c0 : Int) (x y : α) : cond (decide (p1 > c1)) x (cond (p1 == c1) (cond (decide (p0 ≥ c0)) x y) y) = cond (ltR p1 p0 c1 c0) y x := by
 unfold ltR
 rcases Int.lt_trichotomy p1 c1 with h | h | h
 ·rw [decide_eq_false (by omega : ¬ p1 > c1), decide_eq_true h, show (p1 == c1) = false from beq_eq_false_iff_ne.2 (by omega)]; rfl
 ·rw [decide_eq_false (by omega : ¬ p1 > c1), decide_eq_false (by omega : ¬ p1 < c1), decide_eq_true h, show (p1 == c1) = true from beq_iff_eq.2 h]
  by_cases h2 : p0 < c0
  ·rw [decide_eq_false (by omega : ¬ p0 ≥ c0), decide_eq_true h2]; rfl
  ·rw [decide_eq_true (by omega : p0 ≥ c0), decide_eq_false h2]; rfl
 ·rw [decide_eq_true (by omega : p1 > c1), decide_eq_false (by omega : ¬ p1 < c1), decide_eq_false (by omega : ¬ p1 = c1)]; rfl
theorem ordI {α : Type} (p1 p0 c1 c0 : Int) (x y : α) : cond (decide (orV (Pq p1 c1) (Pq p0 c0) ≥ 0)) x y = cond (ltR p1 p0 c1 c0) y x := by
 unfold ltR orV Pq
 rcases Int.lt_trichotomy p1 c1 with h | h | h
 ·rw [if_pos h, if_pos (by decide), decide_eq_true h]; rfl
 ·rw [if_neg (by omega : ¬ p1 < c1), if_neg (by omega : ¬ p1 > c1), if_neg (by decide), decide_eq_false (by omega : ¬ p1 < c1), decide_eq_true h]
  by_cases h2 : p0 < c0
  ·rw [if_pos h2, decide_eq_true h2]; rfl
  ·rw [if_neg h2, decide_eq_false h2]
   by_cases h3 : p0 > c0
   ·rw [if_pos h3]; rfl
   ·rw [if_neg h3]; rfl
 ·rw [if_neg (by omega : ¬ p1 < c1), if_pos h, if_pos (by decide), decide_eq_false (by omega : ¬ p1 < c1), decide_eq_false (by omega : ¬ p1 = c1)]; rfl
theorem rs_l (q : Nat) (v : rtL) (hl : v.length ≤ 1048576) : ∀ (n j : Nat), j ≤ v.length → v.length - j < n → ∃ b, Le (q + 4) v n (j : Int) = some b ∧ Kv (q + 4) v n (j : Int) = some b ∧ (b = true → (∀ r ∈ v.drop j, okR r = true) ∧ v.length ≤ 8)
 | 0, j, _, h => by omega
 | n + 1, j, hj, h => by
  rw [Le, Kv]
  unfold K4 Ku; (try dsimp only [As])
  rcases Nat.lt_or_ge j v.length with hlt | hge
  ·have d1 : decide ((j : Int) < ((v.length : Nat) : Int)) = true := decide_eq_true (by omega)
   have d0 : decide ((0 : Int) ≤ ((j : Nat) : Int)) = true := decide_eq_true (by omega)
   obtain ⟨b, hb1, hb2, hb3⟩ := rs_l q v hl n (j + 1) hlt (by omega)
   rw [Ao v j hlt, D5 j (by omega), List.drop_eq_getElem_cons hlt, Xj5, X0v]
   cases ho : okR v[j] with
   | false => exact ⟨false, (ct d1).trans ((ct d0).trans ((ct d1).trans rfl)), (ct d1).trans ((ct d0).trans ((ct d1).trans rfl)), fun h => by cases h⟩
   | true =>
    have hb4 : b = true → (∀ r ∈ v[j] :: v.drop (j + 1), okR r = true) ∧ v.length ≤ 8 := fun hb => ⟨fun r hr => (List.mem_cons.1 hr).elim (fun e => by rw [e]; exact ho) ((hb3 hb).1 r), (hb3 hb).2⟩
    rcases Nat.eq_zero_or_pos j with h0 | h0
    ·have g0 : decide ((j : Int) > 0) = false := decide_eq_false (by omega)
     exact ⟨b, (ct d1).trans ((ct d0).trans ((ct d1).trans ((bs rfl).trans ((cf rfl).trans ((cf g0).trans hb1))))), (ct d1).trans ((ct d0).trans ((ct d1).trans ((bs rfl).trans ((cf rfl).trans ((cf g0).trans hb2))))), hb4⟩
    ·have g0 : decide ((j : Int) > 0) = true := decide_eq_true (by omega)
     have e1 : IntKind.i64.wrap ((j : Int) - 1) = ((j - 1 : Nat) : Int) := by rw [i64_in _ (by omega)]; omega
     have q1 : decide (((j - 1 : Nat) : Int) < ((v.length : Nat) : Int)) = true := decide_eq_true (by omega)
     have q0 : decide ((0 : Int) ≤ ((j - 1 : Nat) : Int)) = true := decide_eq_true (by omega)
     rw [e1, Ao v (j - 1) (by omega), Xz7]
     simp only [d1, d0, q1, q0, g0, cond_true, Option.bind_some, Bool.not_true, cond_false, hb1, hb2]
     refine ⟨cond (ltR v[j - 1].2.1 v[j - 1].1 v[j].2.1 v[j].1) b false, (ordS _ _ _ _ _ _).trans (K8 _ _ _), (ordI _ _ _ _ _ _).trans (K8 _ _ _), fun hc => ?_⟩
     cases hlt2 : ltR v[j - 1].2.1 v[j - 1].1 v[j].2.1 v[j].1 with
     | false => rw [hlt2] at hc; cases hc
     | true => rw [hlt2] at hc; exact hb4 hc
  ·have : j = v.length := by omega
   subst this
   rw [List.drop_length]
   have d1 : decide (((v.length : Nat) : Int) < ((v.length : Nat) : Int)) = false := decide_eq_false (by omega)
   exact ⟨decide (((v.length : Nat) : Int) ≤ 8), (cf d1).trans rfl, (cf d1).trans rfl, fun h => ⟨fun r hr => (by cases hr), by have := of_decide_eq_true h; omega⟩⟩
theorem Yi6 (q : Nat) (v : rtL) (hl : v.length ≤ 1048576) (hk : 1048576 < q + 4) : ∃ b, F202 (q + 4) v = some b ∧ Xoa (q + 4) v = some b ∧ (b = true → (∀ r ∈ v, okR r = true) ∧ v.length ≤ 8) := by
 have := rs_l q v hl (q + 4) 0 (Nat.zero_le _) (by omega)
 rw [List.drop_zero] at this
 exact this
structure StaOk (k : Nat) (s : den sta) : Prop where
 st : F129 k s = some true
 rs : F202 k s.2 = some true
 at1 : inB s.1 0 65535 = true
 ok : ∀ r ∈ s.2, okR r = true
 len : s.2.length ≤ 8
theorem Ygw (q : Nat) (s : den sta) (hl : s.2.length ≤ 1048576) (hk : 1048576 < q + 4) : ∃ b, F129 (q + 4) s = some b ∧ F88 (q + 4) s = some b ∧ (b = true → StaOk (q + 4) s) := by
 obtain ⟨b, h1, h2, h3⟩ := Yi6 q s.2 hl hk
 have e1 : F129 (q + 4) s = some (inB s.1 0 65535 && b) := by
  unfold F129; (try dsimp only)
  refine (bs (Bm _ _ _ _)).trans ?_
  cases inB s.1 0 65535 with
  | false => rfl
  | true => exact (ct rfl).trans ((bs h1).trans rfl)
 have e2 : F88 (q + 4) s = some (inB s.1 0 65535 && b) := by
  unfold F88; (try dsimp only)
  refine (bs (Fh _ _)).trans ?_
  cases inB s.1 0 65535 with
  | false => rfl
  | true => exact (ct rfl).trans ((bs h2).trans rfl)
 refine ⟨_, e1, e2, fun h => ?_⟩
 rw [h] at e1
 rw [Bool.and_eq_true] at h
 rw [h.2] at h1
 exact ⟨e1, h1, h.1, (h3 h.2).1, (h3 h.2).2⟩
def hit (s : den sta) (a : Int) : Bool := @BEq.beq Int _ s.1 a
def fi (a : Int) : Ks → Nat → Int
 | [], _ => -1
 | s :: l, j => cond (hit s a) (j : Int) (fi a l (j + 1))
theorem Xqy (k : Nat) (v : Ks) (w : Int) (hl : v.length ≤ 1048576) : ∀ (n j : Nat), j ≤ v.length → v.length - j < n → Kl k v w n (j : Int) = some (fi w (v.drop j) j)
 | 0, j, _, h => by omega
 | n + 1, j, hj, h => by
  rw [Kl]
  unfold Ko; (try dsimp only [As])
  rcases Nat.lt_or_ge j v.length with hlt | hge
  ·have d1 : decide ((j : Int) < ((v.length : Nat) : Int)) = true := decide_eq_true (by omega)
   have d0 : decide ((0 : Int) ≤ ((j : Nat) : Int)) = true := decide_eq_true (by omega)
   rw [Ao v j hlt, D5 j (by omega), List.drop_eq_getElem_cons hlt]
   refine (ct d1).trans ((ct d0).trans ((ct d1).trans ?_))
   rw [fi, Xqy k v w hl n (j + 1) hlt (by omega)]
   exact K8 (hit v[j] w) _ _
  ·have : j = v.length := by omega
   subst this
   rw [List.drop_length]
   exact (cf (decide_eq_false (by omega))).trans rfl
theorem X1y (k : Nat) (v : Ks) (w : Int) (hl : v.length ≤ 1048576) (hk : 1048576 < k) : Xnx k v w = some (fi w v 0) := Xqy k v w hl k 0 (Nat.zero_le _) (by omega)
theorem Xpi (k : Nat) (v : Ks) (wx w : Int) (hl : v.length ≤ 1048576) : ∀ (n j : Nat), j ≤ v.length → v.length - j < n → Lw k v wx n (j : Int) w = some (fi w (v.drop j) j, w)
 | 0, j, _, h => by omega
 | n + 1, j, hj, h => by
  rw [Lw]
  unfold Lh; (try dsimp only [As])
  rcases Nat.lt_or_ge j v.length with hlt | hge
  ·have d1 : decide ((j : Int) < ((v.length : Nat) : Int)) = true := decide_eq_true (by omega)
   have d0 : decide ((0 : Int) ≤ ((j : Nat) : Int)) = true := decide_eq_true (by omega)
   rw [Ao v j hlt, D5 j (by omega), List.drop_eq_getElem_cons hlt]
   refine (ct d1).trans ((ct d0).trans ((ct d1).trans ((bs (show Xrc k v[j] w = some (hit v[j] w, w) from rfl)).trans ?_)))
   rw [fi, Xpi k v wx w hl n (j + 1) hlt (by omega)]
   cases hit v[j] w <;> rfl
  ·have : j = v.length := by omega
   subst this
   rw [List.drop_length]
   exact (cf (decide_eq_false (by omega))).trans rfl
theorem Xff (k : Nat) (v : Ks) (w : Int) (hl : v.length ≤ 1048576) (hk : 1048576 < k) : F75 k v w = some (fi w v 0) := by
 unfold F75; (try dsimp only)
 exact (bs (Xpi k v w w hl k 0 (Nat.zero_le _) (by omega))).trans rfl
theorem Xkh (a : Int) : ∀ (l : Ks) (j : Nat), fi a l j = -1 ∨ ((j : Int) ≤ fi a l j ∧ fi a l j < (j : Int) + (l.length : Int))
 | [], j => .inl rfl
 | s :: l, j => by
  rw [fi]
  cases hit s a with
  | true => right; simp only [cond_true, List.length_cons]; omega
  | false =>
   simp only [cond_false, List.length_cons]
   rcases Xkh a l (j + 1) with h | h
   ·exact .inl h
   ·right; omega
theorem Wp (k : Nat) (v : Ks) (i : Nat) (hi : i < v.length) (hl : v.length ≤ 1048576) : ∀ (n j : Nat), j ≤ i → i - j < n →
  (fi v[i].1 (v.drop j) j < (i : Int) ∧ ∃ y, M8 k v n (i : Int) (j : Int) = some (.inl y)) ∨ (fi v[i].1 (v.drop j) j = (i : Int) ∧ M8 k v n (i : Int) (j : Int) = some (.inr ((i : Int), (i : Int))))
 | 0, j, _, h => by omega
 | n + 1, j, hj, h => by
  have hjl : j < v.length := by omega
  have d1 : decide ((j : Int) < ((v.length : Nat) : Int)) = true := decide_eq_true (by omega)
  have d0 : decide ((0 : Int) ≤ ((j : Nat) : Int)) = true := decide_eq_true (by omega)
  have i1 : decide ((i : Int) < ((v.length : Nat) : Int)) = true := decide_eq_true (by omega)
  have i0 : decide ((0 : Int) ≤ ((i : Nat) : Int)) = true := decide_eq_true (by omega)
  rw [M8]
  unfold Oy; (try dsimp only [As])
  rw [Ao v j hjl, Ao v i hi, D5 j (by omega), List.drop_eq_getElem_cons hjl, fi]
  rcases Nat.lt_or_ge j i with hlt | hge
  ·have ji : decide ((j : Int) < (i : Int)) = true := decide_eq_true (by omega)
   cases hh : hit v[j] v[i].1 with
   | true => exact .inl ⟨by simp only [cond_true]; omega, _, (ct ji).trans ((ct d0).trans ((ct d1).trans ((ct i0).trans ((ct i1).trans ((ct hh).trans rfl)))))⟩
   | false =>
    rw [cond_false]
    rcases Wp k v i hi hl n (j + 1) (by omega) (by omega) with ⟨h1, y, h2⟩ | ⟨h1, h2⟩
    ·exact .inl ⟨h1, y, (ct ji).trans ((ct d0).trans ((ct d1).trans ((ct i0).trans ((ct i1).trans ((cf hh).trans h2)))))⟩
    ·exact .inr ⟨h1, (ct ji).trans ((ct d0).trans ((ct d1).trans ((ct i0).trans ((ct i1).trans ((cf hh).trans h2)))))⟩
  ·have e : j = i := by omega
   subst e
   have hh : hit v[j] v[j].1 = true := beq_self_eq_true _
   rw [hh]
   exact .inr ⟨rfl, (cf (decide_eq_false (by omega))).trans rfl⟩
theorem X6o (q : Nat) (v : Ks) (hl : v.length ≤ 1048576) (hs : Gx v ≤ 1048576) (hk : 1048576 < q + 4) : ∀ (n j : Nat), j ≤ v.length → v.length - j < n → ∃ b, Mg (q + 4) v n (j : Int) = some b ∧ Qq (q + 4) v n (j : Int) = some b ∧ (b = true → (∀ s ∈ v.drop j, StaOk (q + 4) s) ∧ v.length ≤ 5)
 | 0, j, _, h => by omega
 | n + 1, j, hj, h => by
  rw [Mg, Qq]
  unfold Oh; (try dsimp only [As])
  rcases Nat.lt_or_ge j v.length with hlt | hge
  ·have d1 : decide ((j : Int) < ((v.length : Nat) : Int)) = true := decide_eq_true (by omega)
   have d0 : decide ((0 : Int) ≤ ((j : Nat) : Int)) = true := decide_eq_true (by omega)
   have hs1 := O1 (List.getElem_mem hlt)
   obtain ⟨o, ho1, ho2, ho3⟩ := Ygw q v[j] (by omega) hk
   obtain ⟨b, hb1, hb2, hb3⟩ := X6o q v hl hs hk n (j + 1) hlt (by omega)
   rw [Ao v j hlt, D5 j (by omega), List.drop_eq_getElem_cons hlt, ho1, ho2]
   have ef := Xff (q + 4) v v[j].1 hl hk
   have e0 := Wp (q + 4) v j hlt hl (q + 4) 0 (Nat.zero_le _) (by omega)
   rw [List.drop_zero] at e0
   cases o with
   | false => exact ⟨false, (ct d1).trans ((ct d0).trans ((ct d1).trans rfl)), (ct d1).trans ((ct d0).trans ((ct d1).trans rfl)), fun h => by cases h⟩
   | true =>
    rcases e0 with ⟨h1, y, h2⟩ | ⟨h1, h2⟩
    ·exact ⟨false, (ct d1).trans ((ct d0).trans ((ct d1).trans ((bs rfl).trans ((cf rfl).trans ((bs h2).trans rfl))))), (ct d1).trans ((ct d0).trans ((ct d1).trans ((bs rfl).trans ((cf rfl).trans ((bs ef).trans ((ct (decide_eq_true h1)).trans rfl)))))), fun h => by cases h⟩
    ·refine ⟨b, (ct d1).trans ((ct d0).trans ((ct d1).trans ((bs rfl).trans ((cf rfl).trans ((bs h2).trans ?_))))), (ct d1).trans ((ct d0).trans ((ct d1).trans ((bs rfl).trans ((cf rfl).trans ((bs ef).trans ((cf (decide_eq_false (by rw [h1]; omega))).trans hb2)))))), fun hb => ⟨fun s hs => ?_, (hb3 hb).2⟩⟩
     ·show Mg (q + 4) v n (IntKind.i64.wrap ((j : Int) + 1)) = some b
      rw [D5 j (by omega)]
      exact hb1
     ·rcases List.mem_cons.1 hs with e | e
      ·rw [e]; exact ho3 rfl
      ·exact (hb3 hb).1 s e
  ·have : j = v.length := by omega
   subst this
   rw [List.drop_length]
   have d1 : decide (((v.length : Nat) : Int) < ((v.length : Nat) : Int)) = false := decide_eq_false (by omega)
   exact ⟨decide (((v.length : Nat) : Int) ≤ 5), (cf d1).trans rfl, (cf d1).trans rfl, fun h => ⟨fun r hr => (by cases hr), by have := of_decide_eq_true h; omega⟩⟩
theorem Xvk (q : Nat) (v : Ks) (hl : v.length ≤ 1048576) (hs : Gx v ≤ 1048576) (hk : 1048576 < q + 4) : ∃ b, F59 (q + 4) v = some b ∧ F31 (q + 4) v = some b ∧ (b = true → (∀ s ∈ v, StaOk (q + 4) s) ∧ v.length ≤ 5) := by
 have := X6o q v hl hs hk (q + 4) 0 (Nat.zero_le _) (by omega)
 rw [List.drop_zero] at this
 exact this
end Go.Proofs.YtdmepjjepogddaaGreat.Gn
end

section
namespace Go.Proofs.YtdmepjjepogddaaGreat.Gn
open Go.Rf Go.IntWalk
set_option linter.unusedVariables false
set_option linter.unusedSimpArgs false
def a8 (b : Bc) (j : Nat) : Int := Ac b (j : Int)
def n2 (b : Bc) (j : Nat) : Int := a8 b j * 256 + a8 b (j + 1)
theorem Nn {b : Bc} (hb : BOk b) {j : Nat} (h : j < b.length) : 0 ≤ a8 b j ∧ a8 b j ≤ 255 := by
 unfold a8; rw [Ao b j h]; exact byt hb j h
theorem atI8 (b : Bc) (j : Nat) : @Eq Int (Ac b (j : Int)) (a8 b j) := rfl
theorem cut2 (b : Bc) (j : Nat) (h : j + 2 ≤ b.length) : (b.take (j + 2)).drop j = [a8 b j, a8 b (j + 1)] := by
 have h1 : j < (b.take (j + 2)).length := by rw [List.length_take]; omega
 have h2 : j + 1 < (b.take (j + 2)).length := by rw [List.length_take]; omega
 rw [List.drop_eq_getElem_cons h1, List.drop_eq_getElem_cons h2, List.drop_eq_nil_of_le (by rw [List.length_take]; omega)]
 unfold a8
 rw [Ao b j (by omega), Ao b (j + 1) (by omega), List.getElem_take, List.getElem_take]
theorem Xld (q : Nat) (b : Bc) (hb : BOk b) (hl : b.length ≤ 1048576) (j : Nat) (h : j + 2 ≤ b.length) : Xgd (q + 4) b (j : Int) 2 = some (n2 b j) := by
 have b1 := Nn hb (j := j) (by omega)
 have b2 := Nn hb (j := j + 1) (by omega)
 have i1 : inB 2 1 4 = true := by decide
 have i2 : inB (j : Int) 0 (IntKind.i64.wrap (((b.length : Nat) : Int) - 2)) = true := by
  rw [i64_in _ (by omega)]
  unfold inB
  rw [decide_eq_true (by omega), decide_eq_true (by omega)]
  rfl
 have e0 : IntKind.i64.wrap ((j : Int) + 0) = (j : Int) := by rw [i64_in _ (by omega)]; omega
 have e1 : IntKind.i64.wrap ((j : Int) + 1) = ((j + 1 : Nat) : Int) := D5 j (by omega)
 have w1 : IntKind.i64.wrap (0 + 1) = 1 := by decide
 have w2 : IntKind.i64.wrap (1 + 1) = 2 := by decide
 have w3 : IntKind.i64.wrap (0 * 256) = 0 := by decide
 unfold Xgd Z6; (try dsimp only)
 refine (bs (Bm (q + 4) 2 1 4)).trans ?_
 rw [i1]
 refine (cf rfl).trans ?_
 refine (bs (Bm (q + 4) (j : Int) 0 _)).trans ?_
 rw [i2]
 refine (cf rfl).trans ?_
 have aux : ∀ k m : Nat, F9 k b (j : Int) 2 (m + 1 + 1 + 1) 0 0 = some (n2 b j) := fun k m => by
  rw [F9]
  unfold Eu; (try dsimp only [As])
  rw [e0, w1, w3]
  refine (ct rfl).trans ((ct (decide_eq_true (by omega))).trans ((ct (decide_eq_true (by omega))).trans ?_))
  rw [atI8 b j, i64_in (a8 b j) (by omega), Int.zero_add, i64_in (a8 b j) (by omega)]
  try dsimp only
  rw [F9]
  unfold Eu; (try dsimp only [As])
  rw [e1, w2]
  refine (ct rfl).trans ((ct (decide_eq_true (by omega))).trans ((ct (decide_eq_true (by omega))).trans ?_))
  rw [atI8 b (j + 1), i64_in (a8 b (j + 1)) (by omega), i64_in (a8 b j * 256) (by omega), i64_in _ (by omega)]
  try dsimp only
  rw [F9]
  unfold Eu; (try dsimp only [As])
  exact (cf rfl).trans rfl
 exact aux (q + 4) (q + 1)
theorem X1d (q : Nat) (b : Bc) (hb : BOk b) (hl : b.length ≤ 1048576) (j : Nat) (h : j + 2 ≤ b.length) : Xo8 (q + 4) b (j : Int) 2 = some (n2 b j) := by
 have b1 := Nn hb (j := j) (by omega)
 have b2 := Nn hb (j := j + 1) (by omega)
 have i1 : inB 2 1 4 = true := by decide
 have e8 : ((2 : Int) ^ 8) = 256 := by decide
 have w1 : IntKind.i64.wrap (0 + 1) = 1 := by decide
 have w2 : IntKind.i64.wrap (1 + 1) = 2 := by decide
 have w3 : IntKind.i64.wrap (0 * 256) = 0 := by decide
 have e2 : IntKind.i64.wrap ((j : Int) + 2) = ((j + 2 : Nat) : Int) := by rw [i64_in _ (by omega)]; omega
 have c2 := cut2 b j h
 unfold Xo8 Z4; (try dsimp only)
 refine (bs (C1 (q + 4) 2 1 4)).trans ?_
 rw [i1]
 refine (cf rfl).trans ?_
 refine (cf (decide_eq_false (by omega))).trans ?_
 refine (cf (decide_eq_false (by rw [i64_in _ (by omega)]; omega))).trans ?_
 rw [e2]
 refine (ct (by rw [decide_eq_true (by omega), decide_eq_true (by omega)]; rfl)).trans ?_
 refine (ct (by rw [decide_eq_true (by omega), decide_eq_true (by omega)]; rfl)).trans ?_
 have aux : ∀ k m : Nat, Ga k b (j : Int) 2 (m + 1 + 1 + 1) 0 0 = some (n2 b j) := fun k m => by
  rw [Ga]
  unfold E3; (try dsimp only [As])
  rw [e2, Int.toNat_natCast, Int.toNat_natCast, c2, e8, w1, w3]
  refine (ct rfl).trans ((ct rfl).trans ((ct rfl).trans ?_))
  rw [show @Eq Int (Ac (t := .int .u8) [a8 b j, a8 b (j + 1)] 0) (a8 b j) from rfl, i64_in (a8 b j) (by omega), show (0 : Int) = 0 * 256 from rfl, S5 0 (a8 b j) (by omega) b1]
  rw [show (0 : Int) * 256 + a8 b j = a8 b j by omega]
  try dsimp only
  rw [Ga]
  unfold E3; (try dsimp only [As])
  rw [e2, Int.toNat_natCast, Int.toNat_natCast, c2, e8, w2]
  refine (ct rfl).trans ((ct rfl).trans ((ct rfl).trans ?_))
  rw [show @Eq Int (Ac (t := .int .u8) [a8 b j, a8 b (j + 1)] 1) (a8 b (j + 1)) from rfl, i64_in (a8 b (j + 1)) (by omega), i64_in (a8 b j * 256) (by omega), S5 (a8 b j) (a8 b (j + 1)) b1 b2]
  try dsimp only
  rw [Ga]
  unfold E3; (try dsimp only [As])
  rw [e2, Int.toNat_natCast, Int.toNat_natCast, c2]
  exact (cf rfl).trans rfl
 exact aux (q + 4) (q + 1)
theorem Xkf (k : Nat) (a b : Bc) (h9 : a.length ≤ 4194304) (k9 : a.length < k) : Xdb k a b = some (decide (a = b)) := by
 unfold Xdb Yf; (try dsimp only)
 by_cases hlen : a.length = b.length
 ·have := Xqp a b (fun n j => Hw k a b n j) hlen
   (fun n j h h' => by
    simp only [Hw, G4, As]
    rw [Ao a j h, Ao b j h', D5 j (by omega)]
    rw [decide_eq_true (by omega : ((j : Nat) : Int) < (a.length : Nat)), decide_eq_true (by omega : ((j : Nat) : Int) < (b.length : Nat)), decide_eq_true (by omega : (0 : Int) ≤ (j : Nat))]
    by_cases hc : a[j] = b[j]
    ·rw [if_pos hc, hc]; simp
    ·rw [if_neg hc, (bne_iff_ne (a := (a[j] : Int)) (b := b[j])).2 hc]; rfl)
   (fun n => by
    simp only [Hw, G4, As]
    rw [decide_eq_false (by omega : ¬ ((a.length : Nat) : Int) < (a.length : Nat))]; rfl) k 0 (Nat.zero_le _) (by omega)
  refine (cf (by rw [hlen]; simp)).trans ?_
  simpa using this
 ·refine (ct (by rw [bne_iff_ne]; omega)).trans ?_
  rw [decide_eq_false (fun h => hlen (by rw [h]))]
end Go.Proofs.YtdmepjjepogddaaGreat.Gn
end

section
namespace Go.Proofs.YtdmepjjepogddaaGreat.Gn
open Go.Rf Go.IntWalk
set_option linter.unusedVariables false
set_option linter.unusedSimpArgs false
def Lr (p : den Al) : Bool := inB p.1 0 65535 && inB p.2.1 0 65535 && inB p.2.2.1 0 255 && inB p.2.2.2.1 0 255 && inB p.2.2.2.2.1 0 255 && inB p.2.2.2.2.2.1 0 255 && decide ((p.2.2.2.2.2.2.2.2.length : Int) ≤ 48) && (!p.2.2.2.2.2.2.1 || decide ((p.2.2.2.2.2.2.2.2.length : Int) > 0)) && (!p.2.2.2.2.2.2.2.1 || (@BEq.beq Int _ p.2.2.2.2.2.1 0 && !p.2.2.2.2.2.2.1))
theorem Cz (k : Nat) (p : den Al) : G8 k p = some (Lr p) := by
 obtain ⟨v0, v1, v2, v3, v4, v5, v6, v7, v8⟩ := p
 unfold G8 Zs Lr; (try dsimp only [A1])
 simp only [Bm, Option.bind_some]
 cases inB v0 0 65535; · rfl
 cases inB v1 0 65535; · rfl
 cases inB v2 0 255; · rfl
 cases inB v3 0 255; · rfl
 cases inB v4 0 255; · rfl
 cases inB v5 0 255; · rfl
 cases decide ((v8.length : Int) ≤ 48); · rfl
 cases v6 <;> cases v7 <;> cases decide ((v8.length : Int) > 0) <;> cases @BEq.beq Int _ v5 0 <;> rfl
theorem Mz (k : Nat) (p : den Al) : F89 k p = some (Lr p) := by
 obtain ⟨v0, v1, v2, v3, v4, v5, v6, v7, v8⟩ := p
 unfold F89 Xkq Lr; (try dsimp only [A1])
 simp only [C1, Fh, Option.bind_some]
 cases inB v0 0 65535; · rfl
 cases inB v1 0 65535; · rfl
 cases inB v2 0 255; · rfl
 cases inB v3 0 255; · rfl
 cases inB v4 0 255; · rfl
 cases inB v5 0 255; · rfl
 cases decide ((v8.length : Int) ≤ 48); · rfl
 cases v6 <;> cases v7 <;> cases decide ((v8.length : Int) > 0) <;> cases @BEq.beq Int _ v5 0 <;> rfl
theorem Cy {v0 v1 v2 v3 v4 v5 : Int} {v6 v7 : Bool} {v8 : Bc} (h : Lr (v0, v1, v2, v3, v4, v5, v6, v7, v8) = true) : (0 ≤ v0 ∧ v0 ≤ 65535) ∧ (0 ≤ v1 ∧ v1 ≤ 65535) ∧ (0 ≤ v2 ∧ v2 ≤ 255) ∧ (0 ≤ v3 ∧ v3 ≤ 255) ∧ (0 ≤ v4 ∧ v4 ≤ 255) ∧ (0 ≤ v5 ∧ v5 ≤ 255) ∧ v8.length ≤ 48 ∧ (v6 = true → 0 < v8.length) ∧ (v7 = true → v5 = 0 ∧ v6 = false) := by
 unfold Lr at h
 simp only [Bool.and_eq_true, Bool.or_eq_true, Bool.not_eq_true', decide_eq_true_eq, beq_iff_eq] at h
 obtain ⟨⟨⟨⟨⟨⟨⟨⟨q0, q1⟩, q2⟩, q3⟩, q4⟩, q5⟩, q6⟩, q7⟩, q8⟩ := h
 refine ⟨A8 q0, A8 q1, A8 q2, A8 q3, A8 q4, A8 q5, by omega, fun e => ?_, fun e => ?_⟩
 ·rcases q7 with q | q
  ·rw [e] at q; cases q
  ·omega
 ·rcases q8 with q | q
  ·rw [e] at q; cases q
  ·exact q
theorem My {v0 v1 v2 v3 v4 v5 : Int} {v6 v7 : Bool} {v8 : Bc} (h0 : 0 ≤ v0 ∧ v0 ≤ 65535) (h1 : 0 ≤ v1 ∧ v1 ≤ 65535) (h2 : 0 ≤ v2 ∧ v2 ≤ 255) (h3 : 0 ≤ v3 ∧ v3 ≤ 255) (h4 : 0 ≤ v4 ∧ v4 ≤ 255) (h5 : 0 ≤ v5 ∧ v5 ≤ 255) (h6 : v8.length ≤ 48) (h7 : v6 = true → 0 < v8.length) (h8 : v7 = true → v5 = 0 ∧ v6 = false) : Lr (v0, v1, v2, v3, v4, v5, v6, v7, v8) = true := by
 unfold Lr
 simp only [Bool.and_eq_true, Bool.or_eq_true, Bool.not_eq_true', decide_eq_true_eq, beq_iff_eq]
 refine ⟨⟨⟨⟨⟨⟨⟨⟨Cn h0, Cn h1⟩, Cn h2⟩, Cn h3⟩, Cn h4⟩, Cn h5⟩, by omega⟩, ?_⟩, ?_⟩
 ·cases v6 with
  | false => exact .inl rfl
  | true => have := h7 rfl; right; omega
 ·cases v7 with
  | false => exact .inl rfl
  | true => exact .inr (h8 rfl)
def flP (v6 v7 : Bool) : Int := cond v6 (cond v7 3 1) (cond v7 2 0)
def hdP (v0 v1 v2 v3 v4 v5 : Int) (v6 v7 : Bool) (n : Int) : Bc := Dc v0 ++ Dc v1 ++ [I1 v2, I1 v3, I1 v4, I1 v5, I1 (flP v6 v7), I1 n]
def pkB (v0 v1 v2 v3 v4 v5 : Int) (v6 v7 : Bool) (v8 : Bc) : Bc := hdP v0 v1 v2 v3 v4 v5 v6 v7 (v8.length : Int) ++ Dc (Ni (hdP v0 v1 v2 v3 v4 v5 v6 v7 (v8.length : Int))) ++ v8
theorem Zd (v0 v1 v2 v3 v4 v5 : Int) (v6 v7 : Bool) (n : Int) : (hdP v0 v1 v2 v3 v4 v5 v6 v7 n).length = 10 := rfl
theorem Xlx {v0 v1 : Int} (h0 : 0 ≤ v0 ∧ v0 ≤ 65535) (h1 : 0 ≤ v1 ∧ v1 ≤ 65535) (v2 v3 v4 v5 : Int) (v6 v7 : Bool) (n : Int) : BOk (hdP v0 v1 v2 v3 v4 v5 v6 v7 n) :=
 ((Ei h0).app (Ei h1)).app BOk.nil.cons.cons.cons.cons.cons.cons
theorem Xjt (v0 v1 v2 v3 v4 v5 : Int) (v6 v7 : Bool) (v8 : Bc) : (pkB v0 v1 v2 v3 v4 v5 v6 v7 v8).length = 12 + v8.length := by
 unfold pkB
 rw [List.length_append, List.length_append, Zd, Kz]
theorem X2c (q : Nat) {v0 v1 v2 v3 v4 v5 : Int} {v6 v7 : Bool} {v8 : Bc} (h : Lr (v0, v1, v2, v3, v4, v5, v6, v7, v8) = true) : Xo6 (q + 4) (v0, v1, v2, v3, v4, v5, v6, v7, v8) = some (hdP v0 v1 v2 v3 v4 v5 v6 v7 (v8.length : Int)) := by
 obtain ⟨h0, h1, _⟩ := Cy h
 have e : Xok (q + 4) (v0, v1, v2, v3, v4, v5, v6, v7, v8) = some (flP v6 v7) := by
  unfold Xok flP; (try dsimp only)
  cases v6 <;> cases v7 <;> rfl
 unfold Xo6 Yc; (try dsimp only [Bt, A1])
 refine (bs (H9 q v0 h0)).trans ((bs (H9 q v1 h1)).trans ((ct rfl).trans ((bs e).trans ((ct rfl).trans rfl))))
theorem X0g (q : Nat) {v0 v1 v2 v3 v4 v5 : Int} {v6 v7 : Bool} {v8 : Bc} (h : Lr (v0, v1, v2, v3, v4, v5, v6, v7, v8) = true) (hk : 1048576 < q + 4) : Xme (q + 4) (v0, v1, v2, v3, v4, v5, v6, v7, v8) = some (pkB v0 v1 v2 v3 v4 v5 v6 v7 v8) := by
 obtain ⟨h0, h1, _, _, _, _, h6, _⟩ := Cy h
 have hB := Xlx h0 h1 v2 v3 v4 v5 v6 v7 (v8.length : Int)
 have hl := Zd v0 v1 v2 v3 v4 v5 v6 v7 (v8.length : Int)
 unfold Xme Z0; (try dsimp only [Bt])
 refine (bs (Cz (q + 4) _)).trans ?_
 rw [h]
 refine (cf rfl).trans ((bs (X2c q h)).trans ((bs (Xkg (q + 4) _ hB (by omega) hk)).trans ((bs (H9 q _ (Y0 hB))).trans ?_)))
 refine (ct (decide_eq_true (by rw [hl, Kz]; omega))).trans ((ct (decide_eq_true (by rw [List.length_append, hl, Kz]; show (10 + 2 + v8.length) * 1 ≤ _; omega))).trans rfl)
theorem X11 (q : Nat) {v0 v1 v2 v3 v4 v5 : Int} {v6 v7 : Bool} {v8 : Bc} (h : Lr (v0, v1, v2, v3, v4, v5, v6, v7, v8) = true) (hk : 1048576 < q + 4) : Xm9 (q + 4) (v0, v1, v2, v3, v4, v5, v6, v7, v8) = some (pkB v0 v1 v2 v3 v4 v5 v6 v7 v8) := by
 obtain ⟨h0, h1, _, _, _, _, h6, _⟩ := Cy h
 have hB := Xlx h0 h1 v2 v3 v4 v5 v6 v7 (v8.length : Int)
 have hl := Zd v0 v1 v2 v3 v4 v5 v6 v7 (v8.length : Int)
 have hf : IntKind.i64.wrap ((if v6 = true then 1 else 0) + (if v7 = true then 2 else 0)) = flP v6 v7 := by unfold flP; cases v6 <;> cases v7 <;> decide
 unfold Xm9 Xa8; (try dsimp only [A1])
 refine (bs (Mh q v0 h0)).trans ((bs (Mh q v1 h1)).trans ((bs (Xju (q + 4) v6 1)).trans ((bs (Xju (q + 4) v7 2)).trans ?_)))
 rw [hf]
 have c1 := Rs (q + 4) [Dc v0, Dc v1, [I1 v2, I1 v3, I1 v4, I1 v5, I1 (flP v6 v7), I1 (v8.length : Int)]] (show 3 < q + 4 by omega) (by show 3 ≤ 1048576; omega) (by show 10 ≤ 4194304; omega)
 have e1 : [Dc v0, Dc v1, [I1 v2, I1 v3, I1 v4, I1 v5, I1 (flP v6 v7), I1 (v8.length : Int)]].flatten = hdP v0 v1 v2 v3 v4 v5 v6 v7 (v8.length : Int) := rfl
 rw [e1] at c1
 refine (bs c1).trans ((bs (Xx3 q _ hB (by omega))).trans ((bs (Mh q _ (Y0 hB))).trans ?_))
 have e2 : [hdP v0 v1 v2 v3 v4 v5 v6 v7 (v8.length : Int), Dc (Ni (hdP v0 v1 v2 v3 v4 v5 v6 v7 (v8.length : Int))), v8].flatten = pkB v0 v1 v2 v3 v4 v5 v6 v7 v8 := by simp [pkB]
 have c2 := Rs (q + 4) [hdP v0 v1 v2 v3 v4 v5 v6 v7 (v8.length : Int), Dc (Ni (hdP v0 v1 v2 v3 v4 v5 v6 v7 (v8.length : Int))), v8] (show 3 < q + 4 by omega) (by show 3 ≤ 1048576; omega) (by rw [e2, Xjt]; omega)
 rw [e2] at c2
 exact (bs c2).trans rfl
def Yp (a b : Int) (n : Nat) : Bool := inB a 1 6 && inB b 0 65535 && decide ((n : Int) ≤ 20)
theorem Xli (k : Nat) (a b : Int) (l : Bc) : Xi4 k (a, b, l) = some (Yp a b l.length) := by
 unfold Xi4 Xk Yp; (try dsimp only)
 simp only [Bm, Option.bind_some]
 cases inB a 1 6; · rfl
 cases inB b 0 65535 <;> rfl
theorem X23 (k : Nat) (a b : Int) (l : Bc) : Xn9 k (a, b, l) = some (Yp a b l.length) := by
 unfold Xn9 Xa9 Yp; (try dsimp only)
 simp only [C1, Fh, Option.bind_some]
 cases inB a 1 6; · rfl
 cases inB b 0 65535 <;> rfl
def noB (a b : Int) (l : Bc) : Bc := cond (Yp a b l.length) ([I1 a] ++ Dc b ++ [I1 (l.length : Int)] ++ l) []
theorem Ss {a b : Int} {n : Nat} (h : Yp a b n = true) : (1 ≤ a ∧ a ≤ 6) ∧ (0 ≤ b ∧ b ≤ 65535) ∧ n ≤ 20 := by
 unfold Yp at h
 simp only [Bool.and_eq_true, decide_eq_true_eq] at h
 exact ⟨A8 h.1.1, A8 h.1.2, by omega⟩
theorem X18 (q : Nat) (a b : Int) (l : Bc) : Xot (q + 4) (a, b, l) = some (noB a b l) := by
 unfold Xot Yo noB; (try dsimp only [Bt, u_3])
 refine (bs (Xli (q + 4) a b l)).trans ?_
 cases h : Yp a b l.length with
 | false => rfl
 | true =>
  obtain ⟨_, h2, h3⟩ := Ss h
  refine (cf rfl).trans ((bs (H9 q b h2)).trans ((ct rfl).trans ((ct rfl).trans ((ct (decide_eq_true ?_)).trans rfl))))
  show (4 + l.length) * 1 ≤ _
  omega
theorem Xj3 (q : Nat) (a b : Int) (l : Bc) (hk : 1048576 < q + 4) : Xde (q + 4) (a, b, l) = some (noB a b l) := by
 unfold Xde Yh noB; (try dsimp only [u_3])
 refine (bs (X23 (q + 4) a b l)).trans ?_
 cases h : Yp a b l.length with
 | false => rfl
 | true =>
  obtain ⟨_, h2, h3⟩ := Ss h
  have e1 : [[I1 a], Dc b, [I1 (l.length : Int)], l].flatten = [I1 a] ++ Dc b ++ [I1 (l.length : Int)] ++ l := by simp
  have c1 := Rs (q + 4) [[I1 a], Dc b, [I1 (l.length : Int)], l] (show 4 < q + 4 by omega) (by show 4 ≤ 1048576; omega) (by rw [e1]; show l.length + 1 + 1 + 1 + 1 ≤ 4194304; omega)
  rw [e1] at c1
  exact (cf rfl).trans ((bs (Mh q b h2)).trans ((bs c1).trans rfl))
theorem Xo {a b : Int} {l : Bc} (h : Yp a b l.length = true) : (noB a b l).length = 4 + l.length ∧ l.length ≤ 20 := by
 unfold noB
 rw [h]
 exact ⟨show l.length + 1 + 1 + 1 + 1 = 4 + l.length by omega, (Ss h).2.2⟩
def noF (v : Bc) : (Int × (Int × Bc)) × Bool := cond (decide (4 ≤ v.length) && Yp (a8 v 0) (n2 v 1) (v.drop 4).length && (a8 v 3 == ((v.drop 4).length : Int))) ((a8 v 0, n2 v 1, v.drop 4), true) ((0, 0, []), false)
theorem w8 {v : Bc} (hb : BOk v) {j : Nat} (h : j < v.length) : IntKind.i64.wrap (a8 v j) = a8 v j := by
 have := Nn hb h
 exact i64_in _ (by omega)
theorem X1m (q : Nat) (v : Bc) (hb : BOk v) (hl : v.length ≤ 1048576) : Xnv (q + 4) v = some (noF v) := by
 unfold Xnv Xag noF; (try dsimp only [Bt])
 by_cases h : v.length < 4
 ·rw [decide_eq_false (by omega : ¬ 4 ≤ v.length)]
  exact (ct (decide_eq_true (by omega))).trans rfl
 ·rw [decide_eq_true (by omega : 4 ≤ v.length)]
  refine (cf (decide_eq_false (by omega))).trans ((ct (decide_eq_true (by omega))).trans ((bs (Xld q v hb hl 1 (by omega))).trans ?_))
  refine (ct (by rw [decide_eq_true (by omega : (4 : Int) ≤ (v.length : Int))]; rfl)).trans ((ct (decide_eq_true (by simp only [List.length_nil, List.length_drop]; omega))).trans ?_)
  rw [List.nil_append, show IntKind.i64.wrap (Ac v 0) = a8 v 0 from w8 hb (j := 0) (by omega), show IntKind.i64.wrap (Ac v 3) = a8 v 3 from w8 hb (j := 3) (by omega)]
  refine (bs (Xli (q + 4) (a8 v 0) (n2 v 1) (v.drop 4))).trans ?_
  cases Yp (a8 v 0) (n2 v 1) (v.drop 4).length with
  | false => rfl
  | true =>
   refine (cf rfl).trans ((ct (decide_eq_true (by omega))).trans ?_)
   cases hc : (a8 v 3 == ((v.drop 4).length : Int)) with
   | true => exact (cf (by rw [bne, hc]; rfl)).trans rfl
   | false => exact (ct (by rw [bne, hc]; rfl)).trans rfl
theorem four (v : Bc) (h : 4 ≤ v.length) : v = a8 v 0 :: a8 v 1 :: a8 v 2 :: a8 v 3 :: v.drop 4 := by
 obtain _ | ⟨a, _ | ⟨b, _ | ⟨c, _ | ⟨d, r⟩⟩⟩⟩ := v
 ·simp at h
 ·simp at h
 ·simp at h
 ·simp at h
 ·rfl
theorem Xzp (q : Nat) (v : Bc) (hb : BOk v) (hl : v.length ≤ 1048576) (hk : 1048576 < q + 4) : Xnk (q + 4) v = some (noF v) := by
 unfold Xnk Y3 noF; (try dsimp only)
 by_cases h : v.length < 4
 ·rw [decide_eq_false (by omega : ¬ 4 ≤ v.length)]
  exact (ct (decide_eq_true (by omega))).trans rfl
 ·have hv := four v (by omega)
  have q0 := Nn hb (j := 0) (by omega)
  have q1 := Nn hb (j := 1) (by omega)
  have q2 := Nn hb (j := 2) (by omega)
  have q3 := Nn hb (j := 3) (by omega)
  have hd : (v.drop 4).length = v.length - 4 := List.length_drop
  rw [decide_eq_true (by omega : 4 ≤ v.length)]
  refine (cf (decide_eq_false (by omega))).trans ((ct (decide_eq_true (by omega))).trans ((bs (X1d q v hb hl 1 (by omega))).trans ?_))
  refine (ct (by rw [decide_eq_true (by omega : (4 : Int) ≤ (v.length : Int))]; rfl)).trans ((bs (K6 (q + 4) (v.drop 4) (by omega))).trans ?_)
  rw [show IntKind.i64.wrap (Ac v 0) = a8 v 0 from w8 hb (j := 0) (by omega)]
  refine (bs (Xj3 q (a8 v 0) (n2 v 1) (v.drop 4) hk)).trans ?_
  have hnl : (noB (a8 v 0) (n2 v 1) (v.drop 4)).length ≤ 24 := by
   cases ho : Yp (a8 v 0) (n2 v 1) (v.drop 4).length with
   | false => unfold noB; rw [ho]; simp
   | true => have := Xo ho; omega
  refine (bs (Xkf (q + 4) _ v (by omega) (by omega))).trans ?_
  have key : decide (noB (a8 v 0) (n2 v 1) (v.drop 4) = v) = (Yp (a8 v 0) (n2 v 1) (v.drop 4).length && (a8 v 3 == ((v.drop 4).length : Int))) := by
   cases ho : Yp (a8 v 0) (n2 v 1) (v.drop 4).length with
   | false =>
    unfold noB
    rw [ho]
    exact decide_eq_false (fun e => by rw [← e] at h; simp at h)
   | true =>
    obtain ⟨_, h2, h3⟩ := Ss ho
    unfold noB
    rw [ho, Bool.true_and, cond_true]
    have e0 : I1 (a8 v 0) = a8 v 0 := u8W _ q0
    have e1 : n2 v 1 / 256 = a8 v 1 := by show (a8 v 1 * 256 + a8 v 2) / 256 = _; omega
    have e2 : n2 v 1 % 256 = a8 v 2 := by show (a8 v 1 * 256 + a8 v 2) % 256 = _; omega
    have e3 : I1 ((v.drop 4).length : Int) = ((v.drop 4).length : Int) := u8W _ (by omega)
    by_cases c : a8 v 3 = ((v.drop 4).length : Int)
    ·rw [show (a8 v 3 == ((v.drop 4).length : Int)) = true from beq_iff_eq.2 c]
     refine decide_eq_true ?_
     rw [e0, e3, ← c]
     show a8 v 0 :: n2 v 1 / 256 :: n2 v 1 % 256 :: a8 v 3 :: v.drop 4 = v
     rw [e1, e2]
     exact hv.symm
    ·rw [show (a8 v 3 == ((v.drop 4).length : Int)) = false from beq_eq_false_iff_ne.2 c]
     refine decide_eq_false (fun e => c ?_)
     have e4 := congrArg (fun l => a8 l 3) e
     have e5 : I1 ((v.drop 4).length : Int) = a8 v 3 := e4
     exact e5.symm.trans e3
  rw [key]
  cases Yp (a8 v 0) (n2 v 1) (v.drop 4).length <;> cases (a8 v 3 == ((v.drop 4).length : Int)) <;> rfl
def L7 (k2 : Int) (v : Bc) : Bool := (noF v).2 && (@BEq.beq Int _ k2 1) && decide ((noF v).1.1 ≥ 3)
theorem X2a (q : Nat) (p : den Al) (hb : BOk p.2.2.2.2.2.2.2.2) (hl : p.2.2.2.2.2.2.2.2.length ≤ 1048576) : Xnw (q + 4) p = some (L7 p.2.2.1 p.2.2.2.2.2.2.2.2) := by
 unfold Xnw Xai L7; (try dsimp only)
 refine (bs (X1m q _ hb hl)).trans ?_
 cases (noF p.2.2.2.2.2.2.2.2).2; · rfl
 refine (ct rfl).trans ?_
 cases @BEq.beq Int _ p.2.2.1 1 <;> rfl
theorem X1r (q : Nat) (p : den Al) (hb : BOk p.2.2.2.2.2.2.2.2) (hl : p.2.2.2.2.2.2.2.2.length ≤ 1048576) (hk : 1048576 < q + 4) : Xox (q + 4) p = some (L7 p.2.2.1 p.2.2.2.2.2.2.2.2) := by
 unfold Xox Zu L7; (try dsimp only)
 refine (bs (Xzp q _ hb hl hk)).trans ?_
 cases (noF p.2.2.2.2.2.2.2.2).2; · rfl
 refine (ct rfl).trans ?_
 cases @BEq.beq Int _ p.2.2.1 1 <;> rfl
def noP : den Al := (0, 0, 0, 0, 0, 0, false, false, [])
def Xc (v0 v1 v2 v3 v4 v5 : Int) (v6 v7 : Bool) (v8 : Bc) (w p q : Int) : den Al × Bool :=
 cond (!L7 v2 v8 && @BEq.beq Int _ v5 0) ((w, v0, 1, 64, v4, 0, false, false, noB p q ((pkB v0 v1 v2 v3 v4 v5 v6 v7 v8).take 20)), true) (noP, false)
theorem tk20 (l : Bc) (n : Nat) (hl : l.length = n) : (l.take (if 20 < (n : Int) then 20 else (n : Int)).toNat).drop 0 = l.take 20 ∧ 0 ≤ (if 20 < (n : Int) then 20 else (n : Int)) ∧ (if 20 < (n : Int) then 20 else (n : Int)) ≤ (n : Int) := by
 by_cases c : 20 < (n : Int)
 ·rw [if_pos c]
  exact ⟨rfl, by omega, by omega⟩
 ·rw [if_neg c]
  refine ⟨?_, by omega, by omega⟩
  rw [Int.toNat_natCast, List.drop_zero, List.take_of_length_le (by omega), List.take_of_length_le (by omega)]
theorem X2m (n : Nat) {v0 v1 v2 v3 v4 v5 : Int} {v6 v7 : Bool} {v8 : Bc} (h : Lr (v0, v1, v2, v3, v4, v5, v6, v7, v8) = true) (hb : BOk v8) (hk : 1048576 < n + 4) {w p q : Int} (hw : inB w 0 65535 = true) (hp : 3 ≤ p ∧ p ≤ 6) (hq : 0 ≤ q ∧ q ≤ 65535) :
  Xcj (n + 4) (v0, v1, v2, v3, v4, v5, v6, v7, v8) w p q = some (Xc v0 v1 v2 v3 v4 v5 v6 v7 v8 w p q) := by
 obtain ⟨h0, h1, _, _, _, h5, h6, _⟩ := Cy h
 have hl := Xjt v0 v1 v2 v3 v4 v5 v6 v7 v8
 obtain ⟨t1, t2, t3⟩ := tk20 (pkB v0 v1 v2 v3 v4 v5 v6 v7 v8) _ rfl
 have ho : Yp p q ((pkB v0 v1 v2 v3 v4 v5 v6 v7 v8).take 20).length = true := by
  unfold Yp
  rw [Cn (show 1 ≤ p ∧ p ≤ 6 by omega), Cn hq, List.length_take]
  exact decide_eq_true (by omega)
 have hn := Xo ho
 unfold Xcj Zi Xc; (try dsimp only)
 refine (bs (X0g n h hk)).trans ((ct (by rw [decide_eq_true t2, decide_eq_true t3]; rfl)).trans ?_)
 rw [t1]
 refine (bs (X18 n _ _ _)).trans ((bs (Cz _ _)).trans ?_)
 rw [h]
 refine (cf rfl).trans ((bs (Bm _ _ _ _)).trans ?_)
 rw [hw]
 refine (cf rfl).trans ((bs (Bm _ _ _ _)).trans ?_)
 rw [Cn hp]
 refine (cf rfl).trans ((cf (beq_eq_false_iff_ne.2 (by omega))).trans ((bs (X2a n _ hb (show v8.length ≤ 1048576 by omega))).trans ?_))
 show cond (L7 v2 v8) _ _ = _
 cases L7 v2 v8 with
 | true => rfl
 | false =>
  refine (cf rfl).trans ?_
  by_cases c : v5 = 0
  ·subst c
   exact (cf (decide_eq_false (by show ¬ (0 : Int) > 0; omega))).trans rfl
  ·rw [show @BEq.beq Int _ v5 0 = false from beq_eq_false_iff_ne.2 c]
   exact (ct (decide_eq_true (by show v5 > 0; omega))).trans rfl
theorem Xk9 (n : Nat) {v0 v1 v2 v3 v4 v5 : Int} {v6 v7 : Bool} {v8 : Bc} (h : Lr (v0, v1, v2, v3, v4, v5, v6, v7, v8) = true) (hb : BOk v8) (hk : 1048576 < n + 4) {w p q : Int} (hw : inB w 0 65535 = true) (hp : 3 ≤ p ∧ p ≤ 6) (hq : 0 ≤ q ∧ q ≤ 65535) :
  Xcv (n + 4) (v0, v1, v2, v3, v4, v5, v6, v7, v8) w p q = some (Xc v0 v1 v2 v3 v4 v5 v6 v7 v8 w p q) := by
 obtain ⟨h0, h1, _, _, _, h5, h6, _⟩ := Cy h
 obtain ⟨t1, t2, t3⟩ := tk20 (pkB v0 v1 v2 v3 v4 v5 v6 v7 v8) _ rfl
 unfold Xcv Ze Xc; (try dsimp only)
 refine (bs (Mz _ _)).trans ?_
 rw [h]
 refine (cf rfl).trans ((bs (Fh _ _)).trans ?_)
 rw [hw]
 refine (cf rfl).trans ?_
 by_cases c : v5 = 0
 ·subst c
  refine (cf (by decide)).trans ((bs (X1r n _ hb (show v8.length ≤ 1048576 by omega) hk)).trans ?_)
  show cond (L7 v2 v8) _ _ = _
  cases L7 v2 v8 with
  | true => rfl
  | false =>
   refine (cf rfl).trans ((bs (C1 _ _ _ _)).trans ?_)
   rw [Cn hp]
   refine (cf rfl).trans ((bs (Fh _ _)).trans ?_)
   rw [Cn hq]
   refine (cf rfl).trans ((bs (X11 n h hk)).trans ((ct (by rw [decide_eq_true t2, decide_eq_true t3]; rfl)).trans ?_))
   rw [t1]
   unfold Xvv; (try dsimp only)
   rw [Xj3 n _ _ _ hk]
   rfl
 ·rw [show @BEq.beq Int _ v5 0 = false from beq_eq_false_iff_ne.2 c, Bool.and_false]
  exact (ct (bne_iff_ne.2 c)).trans rfl
def Jj (b : den Al × Bool) : den So := cond b.2 (3, 0, [b.1]) (0, 0, [])
theorem Xzu {k : Nat} {s : den sta} {w : den Al} {p q : Int} {b : den Al × Bool} (h : Xcj k w s.1 p q = some b) : Xcr k s w p q = some (Jj b) := by
 unfold Xcr Jj; (try dsimp only)
 refine (bs h).trans ?_
 cases b.2 <;> rfl
theorem Xlt {k : Nat} {s : den sta} {w : den Al} {p q : Int} {b : den Al × Bool} (h : Xcv k w s.1 p q = some b) : Xb2 k s w p q = some (Jj b) := by
 unfold Xb2 Jj; (try dsimp only)
 refine (bs h).trans ?_
 cases b.2 <;> rfl
end Go.Proofs.YtdmepjjepogddaaGreat.Gn
end

section
namespace Go.Proofs.YtdmepjjepogddaaGreat.Gn
open Go.Rf Go.IntWalk
set_option linter.unusedVariables false
set_option linter.unusedSimpArgs false
theorem X3w (k : Nat) {r : den Ce} {w : Int} (ho : okR r = true) (hw : inB w 0 65535 = true) : Xnr k r w = some (Rt.V0 w r) := by
 obtain ⟨a, n, g, m⟩ := r
 obtain ⟨h1, h2, _⟩ := Ow ho
 have hn := A8 h1
 have ha := A8 h2
 have hx := A8 hw
 have hr : 1 ≤ rest n ∧ rest n ≤ 65536 := S4 hn
 unfold Xnr Xp Rt.V0; (try dsimp only)
 refine (bs (Xj5 k _)).trans ?_
 rw [ho]
 refine (ct rfl).trans ((bs (Bm _ _ _ _)).trans ?_)
 rw [hw]
 have hz : ¬ rest n = 0 := by omega
 refine (ct rfl).trans ((bs (Xz k hn)).trans ((cf (decide_eq_false hz)).trans ((bs (Xz k hn)).trans ((cf (decide_eq_false hz)).trans ?_))))
 have e : ∀ x : Int, 0 ≤ x ∧ x ≤ 65535 → IntKind.i64.wrap (x.tdiv (rest n)) = x.fdiv (rest n) := fun x hx => by
  rw [Int.tdiv_eq_ediv_of_nonneg hx.1, Int.fdiv_eq_ediv_of_nonneg x (by omega)]
  have h1 := Int.ediv_nonneg hx.1 (show 0 ≤ rest n by omega)
  have h2 := Int.ediv_le_self (rest n) hx.1
  exact i64_in _ (by omega)
 show some (IntKind.i64.wrap (w.tdiv (rest n)) == IntKind.i64.wrap (Int.tdiv a (rest n))) = some (w.fdiv (rest n) == Int.fdiv a (rest n))
 rw [e w hx, e a ha]
theorem Xrv (k : Nat) (v : rtL) (w : Int) (hl : v.length ≤ 1048576) (hr : F202 k v = some true) (ho : ∀ r ∈ v, okR r = true) (hw : inB w 0 65535 = true) : ∀ (j n : Nat), j ≤ v.length → j < n → Ii k v w n ((j : Int) - 1) = some (Rt.Cf w 17 (v.take j).reverse)
 | _, 0, _, h => by omega
 | 0, n + 1, _, _ => by
  rw [Ii]
  unfold Gj; (try dsimp only [As])
  exact (cf (decide_eq_false (by omega))).trans rfl
 | j + 1, n + 1, hj, h => by
  have hlt : j < v.length := by omega
  have d1 : decide ((j : Int) < ((v.length : Nat) : Int)) = true := decide_eq_true (by omega)
  have d0 : decide ((0 : Int) ≤ ((j : Nat) : Int)) = true := decide_eq_true (by omega)
  have e1 : (((j + 1 : Nat) : Int) - 1) = (j : Int) := by omega
  have ok := ho _ (List.getElem_mem hlt)
  have hn := A8 (Ow ok).1
  rw [Ii]
  unfold Gj; (try dsimp only [As])
  rw [e1, i64_in ((j : Int) - 1) (by omega), Ao v j hlt, Xrv k v w hl hr ho hw j n (by omega) (by omega), List.take_add_one, List.getElem?_eq_getElem hlt]
  refine (ct (decide_eq_true (by omega))).trans ((bs hr).trans ((ct rfl).trans ((ct d0).trans ((ct d1).trans ((bs (X3w k ok hw)).trans ?_)))))
  rw [Option.toList_some, List.reverse_append, List.reverse_singleton, List.singleton_append, Rt.Cf]
  rw [show decide (@LT.lt Int _ v[j].2.1 17) = true from decide_eq_true (by omega), Bool.true_and]
  cases Rt.V0 w v[j] with
  | true => exact (ct rfl).trans ((ct d0).trans ((ct d1).trans rfl))
  | false => rfl
theorem Xzy (k : Nat) (v : rtL) (w : Int) (hl : v.length ≤ 8) (hr : F202 k v = some true) (ho : ∀ r ∈ v, okR r = true) (hw : inB w 0 65535 = true) (hk : 1048576 < k) : Xnu k v w = some (Rt.Cf w 17 v.reverse) := by
 have := Xrv k v w (by omega) hr ho hw v.length k (Nat.le_refl _) (by omega)
 rw [List.take_length] at this
 unfold Xnu Y2; (try dsimp only)
 rw [i64_in ((v.length : Int) - 1) (by omega)]
 exact this
theorem Xtb (k : Nat) (v : rtL) (w : Int) (hl : v.length ≤ 8) (ho : ∀ r ∈ v, okR r = true) : F74 k v w 17 = some (Rt.Cf w 17 v.reverse) := by
 unfold F74 Rt.to; (try dsimp only)
 refine ct ?_
 rw [Bool.and_eq_true]
 refine ⟨List.all_eq_true.2 fun r hr => ?_, decide_eq_true (by omega)⟩
 exact (Ow (ho r hr)).1
theorem Un (w p : Int) : ∀ {l : rtL}, (Rt.Cf w p l).2 = true → (Rt.Cf w p l).1 ∈ l
 | [], h => by cases h
 | r :: l, h => by
  rw [Rt.Cf] at h ⊢
  cases hc : (decide (@LT.lt Int _ r.2.1 p) && Rt.V0 w r) with
  | true => rw [hc] at h; exact List.mem_cons_self ..
  | false => rw [hc] at h; exact List.mem_cons_of_mem _ (Un w p h)
def I0 (v0 v1 v2 v3 v4 : Int) (v7 : Bool) (a : Int) (m : Bool) (d : Bc) : den Al := (v0, v1, v2, v3, v4, a, m, v7, d)
def C0 (g : Int → Bool → Bc → den Al) (N : Nat) (f : Bool) : Nat → Int → Bc → Cw
 | 0, _, _ => []
 | c + 1, a, d => if d.length ≤ N then [g a f d] else g a true (d.take N) :: C0 g N f c (a + (N : Int)) (d.drop N)
def Dt (N : Nat) : Nat → Int → Bc → Int
 | 0, a, _ => a
 | c + 1, a, d => if d.length ≤ N then a else Dt N c (a + (N : Int)) (d.drop N)
theorem Ur (N : Nat) : ∀ (c : Nat) (a : Int) (d : Bc), a ≤ Dt N c a d
 | 0, a, d => Int.le_refl _
 | c + 1, a, d => by
  rw [Dt]
  split
  ·exact Int.le_refl _
  ·have := Ur N c (a + (N : Int)) (d.drop N)
   omega
theorem Xc8 (N : Nat) : ∀ (c : Nat) (a : Int) (d : Bc), Dt N c a d ≤ a + (d.length : Int)
 | 0, a, d => by rw [Dt]; omega
 | c + 1, a, d => by
  rw [Dt]
  split
  ·omega
  ·have := Xc8 N c (a + (N : Int)) (d.drop N)
   rw [List.length_drop] at this
   omega
def Me (g : Int → Bool → Bc → den Al) (N : Nat) (f : Bool) (m : Cw) (c : Nat) (a : Int) (d : Bc) : Cw × Bool := cond (decide (Dt N c a d > 255)) ([], false) (m ++ C0 g N f c a d, true)
theorem win (l : Bc) (x N : Nat) : (l.take (x + min N (l.length - x))).drop x = (l.drop x).take N := by
 rw [List.drop_take, Nat.add_sub_cancel_left]
 by_cases h : N ≤ l.length - x
 ·rw [Nat.min_eq_left h]
 ·rw [Nat.min_eq_right (by omega), List.take_of_length_le (by rw [List.length_drop]; omega), List.take_of_length_le (by rw [List.length_drop]; omega)]
theorem Xty (k : Nat) (v0 v1 v2 v3 v4 v5 : Int) (v6 v7 : Bool) (v8 : Bc) (N : Nat) (h5 : 0 ≤ v5 ∧ v5 ≤ 255) (h8 : v8.length ≤ 48) (hN : 1 ≤ N ∧ N ≤ 48) : ∀ (c n x : Nat) (m : Cw), x = 0 ∨ x < v8.length → v8.length - x < c → c < n → m.length + c ≤ 200 →
  Ek k (v0, v1, v2, v3, v4, v5, v6, v7, v8) (N : Int) n (x : Int) m = some (Me (I0 v0 v1 v2 v3 v4 v7) N v6 m c (v5 + (x : Int)) (v8.drop x))
 | 0, _, _, _, _, h, _, _ => by omega
 | _, 0, _, _, _, _, h, _ => by omega
 | c + 1, n + 1, x, m, hx, hc, hn, hm => by
  have hxl : x ≤ v8.length := by omega
  rw [Ek]
  unfold Hc; (try dsimp only)
  have step : Fe k (v0, v1, v2, v3, v4, v5, v6, v7, v8) (N : Int) (Ek k (v0, v1, v2, v3, v4, v5, v6, v7, v8) (N : Int) n) some (x : Int) m = some (Me (I0 v0 v1 v2 v3 v4 v7) N v6 m (c + 1) (v5 + (x : Int)) (v8.drop x)) := by
   have hme : (if ((v8.length : Nat) : Int) < (x : Int) + (N : Int) then ((v8.length : Nat) : Int) else (x : Int) + (N : Int)) = ((x + min N (v8.length - x) : Nat) : Int) := by split <;> omega
   have hd : (v8.drop x).length = v8.length - x := List.length_drop
   have g1 : (decide ((0 : Int) ≤ ((x + min N (v8.length - x) : Nat) : Int)) && decide (((x + min N (v8.length - x) : Nat) : Int) ≤ ((v8.length : Nat) : Int))) = true := by rw [decide_eq_true (by omega), decide_eq_true (by omega)]; rfl
   have g2 : (decide ((0 : Int) ≤ (x : Int)) && decide ((x : Int) ≤ ((x + min N (v8.length - x) : Nat) : Int))) = true := by rw [decide_eq_true (by omega), decide_eq_true (by omega)]; rfl
   have g3 : decide ((([] : Bc).length + ((v8.drop x).take N).length) * 1 ≤ 140737488355328) = true := decide_eq_true (by rw [List.length_take, hd, List.length_nil]; omega)
   have g4 : decide ((m.length + 1) * 80 ≤ 140737488355328) = true := decide_eq_true (by omega)
   have lg := Ur N (c + 1) (v5 + (x : Int)) (v8.drop x)
   have nx : ∀ b : Bool, b = (if (v8.drop x).length ≤ N then v6 else true) → ¬ v5 + (x : Int) > 255 → Ek k (v0, v1, v2, v3, v4, v5, v6, v7, v8) (N : Int) n ((x : Int) + (N : Int)) (m ++ [I0 v0 v1 v2 v3 v4 v7 (v5 + (x : Int)) b ((v8.drop x).take N)]) = some (Me (I0 v0 v1 v2 v3 v4 v7) N v6 m (c + 1) (v5 + (x : Int)) (v8.drop x)) := fun b hb ha => by
    have e1 : (x : Int) + (N : Int) = ((x + N : Nat) : Int) := by omega
    rw [e1]
    by_cases hlast : (v8.drop x).length ≤ N
    ·rw [if_pos hlast] at hb
     obtain ⟨n', rfl⟩ : ∃ n', n = n' + 1 := ⟨n - 1, by omega⟩
     rw [Ek]
     unfold Hc; (try dsimp only)
     refine (cf (beq_eq_false_iff_ne.2 (by omega))).trans ((cf (decide_eq_false (by omega))).trans ?_)
     unfold Me
     rw [Dt, if_pos hlast, C0, if_pos hlast, decide_eq_false ha, List.take_of_length_le hlast, hb]
     rfl
    ·rw [if_neg hlast] at hb
     have := Xty k v0 v1 v2 v3 v4 v5 v6 v7 v8 N h5 h8 hN c n (x + N) (m ++ [I0 v0 v1 v2 v3 v4 v7 (v5 + (x : Int)) b ((v8.drop x).take N)]) (.inr (by omega)) (by omega) (by omega) (by rw [List.length_append, List.length_singleton]; omega)
     rw [this]
     unfold Me
     rw [Dt, if_neg hlast, C0, if_neg hlast, hb, List.drop_drop, List.append_assoc, List.singleton_append]
     rw [show v5 + ((x + N : Nat) : Int) = v5 + (x : Int) + (N : Int) by omega]
   unfold Fe; (try dsimp only [Bt, A1])
   rw [i64_in ((x : Int) + (N : Int)) (by omega), hme, i64_in (v5 + (x : Int)) (by omega), Int.toNat_natCast, Int.toNat_natCast, win, List.nil_append, List.length_singleton]
   by_cases ha : v5 + (x : Int) > 255
   ·have fin : some (([] : Cw), false) = some (Me (I0 v0 v1 v2 v3 v4 v7) N v6 m (c + 1) (v5 + (x : Int)) (v8.drop x)) := by
     unfold Me
     rw [decide_eq_true (by omega : Dt N (c + 1) (v5 + (x : Int)) (v8.drop x) > 255)]
     rfl
    cases v6 with
    | true => exact (ct rfl).trans ((ct g1).trans ((ct g2).trans ((ct g3).trans ((ct (decide_eq_true ha)).trans fin))))
    | false => exact (cf rfl).trans ((ct g1).trans ((ct g2).trans ((ct g3).trans ((ct (decide_eq_true ha)).trans fin))))
   ·cases v6 with
    | true => exact (ct rfl).trans ((ct g1).trans ((ct g2).trans ((ct g3).trans ((cf (decide_eq_false ha)).trans ((ct g4).trans (nx true (by split <;> rfl) ha))))))
    | false =>
     refine (cf rfl).trans ((ct g1).trans ((ct g2).trans ((ct g3).trans ((cf (decide_eq_false ha)).trans ((ct g4).trans (nx _ ?_ ha))))))
     by_cases hlast : (v8.drop x).length ≤ N
     ·rw [if_pos hlast]; exact decide_eq_false (by omega)
     ·rw [if_neg hlast]; exact decide_eq_true (by omega)
  rcases hx with h0 | h0
  ·subst h0
   exact (ct rfl).trans step
  ·by_cases hz : x = 0
   ·subst hz
    exact (ct rfl).trans step
   ·exact (cf (beq_eq_false_iff_ne.2 (by omega))).trans ((ct (decide_eq_true (by omega))).trans step)
theorem Xzc (k : Nat) {v0 v1 v2 v3 v4 v5 : Int} {v6 v7 : Bool} {v8 : Bc} {N : Nat} (h : Lr (v0, v1, v2, v3, v4, v5, v6, v7, v8) = true) (hN : 1 ≤ N ∧ N ≤ 48) (h7 : v7 = true → v8.length ≤ N) (hk : 1048576 < k) :
  Xce k (v0, v1, v2, v3, v4, v5, v6, v7, v8) (N : Int) = some (Me (I0 v0 v1 v2 v3 v4 v7) N v6 [] 50 v5 v8) := by
 obtain ⟨_, _, _, _, _, h5, h8, _⟩ := Cy h
 have := Xty k v0 v1 v2 v3 v4 v5 v6 v7 v8 N h5 h8 hN 50 k 0 [] (.inl rfl) (by omega) (by omega) (by simp)
 rw [List.drop_zero, show v5 + ((0 : Nat) : Int) = v5 by omega] at this
 unfold Xce Zl; (try dsimp only)
 refine (bs (Cz k _)).trans ?_
 rw [h]
 refine (cf rfl).trans ((bs (Bm k _ _ _)).trans ?_)
 rw [Cn (show 1 ≤ (N : Int) ∧ (N : Int) ≤ 48 by omega)]
 refine (cf rfl).trans ?_
 by_cases c : (v8.length : Int) > (N : Int)
 ·refine (ct (decide_eq_true c)).trans ?_
  cases v7 with
  | true => have := h7 rfl; omega
  | false => exact (cf rfl).trans this
 ·exact (cf (decide_eq_false c)).trans this
theorem Xj0 (k : Nat) (l : Cw) : Xcu k l = some l := by
 unfold Xcu Xw; (try dsimp only)
 rw [decide_eq_true (by omega : (0 : Int) ≤ ((l.length : Nat) : Int)), decide_eq_true (Int.le_refl _)]
 simp
theorem Xpx (k : Nat) (v0 v1 v2 v3 v4 v5 : Int) (v6 : Bool) (v8 : Bc) (N : Nat) (hN : 1 ≤ N) : ∀ (c : Nat) (d : Bc) (m : Cw) (a : Int), d ≠ [] → d.length < c → m.length + c ≤ 200 → 0 ≤ a ∧ a + (d.length : Int) ≤ 1000 →
  F2 k (v0, v1, v2, v3, v4, v5, v6, false, v8) (N : Int) (Ca N d) m a = some (Me (I0 v0 v1 v2 v3 v4 false) N v6 m c a d)
 | 0, _, _, _, _, h, _, _ => by omega
 | c + 1, d, m, a, h0, hc, hm, ha => by
  rw [I4 hN d h0, F2]
  try dsimp only [A1]
  have htl : (d.take N).length = min N d.length := List.length_take
  refine (bs (K6 k (d.take N) (by omega))).trans ((ct (decide_eq_true (by rw [List.length_singleton]; omega))).trans ?_)
  by_cases hlast : d.length ≤ N
  ·have e0 : d.drop N = [] := List.drop_eq_nil_of_le hlast
   have e1 : d.take N = d := List.take_of_length_le hlast
   rw [e0, Mq hN, e1, F2]
   have hl : (m ++ [(v0, v1, v2, v3, v4, a, true, false, d)]).length = m.length + 1 := by rw [List.length_append, List.length_singleton]
   have hi : IntKind.i64.wrap (((m ++ [(v0, v1, v2, v3, v4, a, true, false, d)]).length : Int) - 1) = ((m.length : Nat) : Int) := by rw [hl, i64_in _ (by omega)]; omega
   have hg : Ac (t := Al) (m ++ [(v0, v1, v2, v3, v4, a, true, false, d)]) ((m.length : Nat) : Int) = (v0, v1, v2, v3, v4, a, true, false, d) := by rw [Ao _ m.length (by rw [hl]; omega)]; simp
   have hset : (m ++ [(v0, v1, v2, v3, v4, a, true, false, d)]).set m.length (v0, v1, v2, v3, v4, a, v6, false, d) = m ++ [I0 v0 v1 v2 v3 v4 false a v6 d] := by simp [I0]
   have hg2 : Ac (t := Al) (m ++ [I0 v0 v1 v2 v3 v4 false a v6 d]) ((m.length : Nat) : Int) = I0 v0 v1 v2 v3 v4 false a v6 d := by rw [Ao _ m.length (by rw [List.length_append, List.length_singleton]; omega)]; simp
   try dsimp only
   rw [hi, hg, Int.toNat_natCast]
   refine (ct (decide_eq_true (by omega))).trans ((ct (decide_eq_true (by rw [hl]; omega))).trans ((bs (congrArg some hset)).trans ((cf rfl).trans ?_)))
   rw [hg2]
   unfold Me
   rw [Dt, if_pos hlast, C0, if_pos hlast]
   by_cases c2 : a > 255
   ·rw [decide_eq_true c2]
    exact (ct (decide_eq_true c2)).trans rfl
   ·rw [decide_eq_false c2]
    exact (cf (decide_eq_false c2)).trans ((bs (Xj0 k _)).trans rfl)
  ·have hdl : (d.drop N).length = d.length - N := List.length_drop
   have hne : d.drop N ≠ [] := by
    intro e
    rw [e] at hdl
    simp at hdl
    omega
   have ea : IntKind.i64.wrap (a + ((d.take N).length : Int)) = a + (N : Int) := by rw [htl, i64_in _ (by omega)]; omega
   rw [ea, Xpx k v0 v1 v2 v3 v4 v5 v6 v8 N hN c (d.drop N) _ _ hne (by omega) (by rw [List.length_append, List.length_singleton]; omega) (by omega)]
   unfold Me
   rw [Dt, if_neg hlast, C0, if_neg hlast, List.append_assoc, List.singleton_append]
   rfl
theorem Id (k : Nat) (p : den Al) (hl : p.2.2.2.2.2.2.2.2.length ≤ 1048576) : Sj k p = some p := by
 unfold Sj; (try dsimp only [A1])
 exact (bs (K6 k _ (by omega))).trans rfl
theorem N3 (k : Nat) (p : den Al) (hl : p.2.2.2.2.2.2.2.2.length ≤ 1048576) : Nq k p = some p := by
 unfold Nq; (try dsimp only [Bt, A1])
 refine (ct (decide_eq_true (by rw [List.length_nil]; omega))).trans ?_
 rw [List.nil_append]
theorem Xko (k : Nat) {v0 v1 v2 v3 v4 v5 : Int} {v6 v7 : Bool} {v8 : Bc} {N : Nat} (h : Lr (v0, v1, v2, v3, v4, v5, v6, v7, v8) = true) (hN : 1 ≤ N ∧ N ≤ 48) (h7 : v7 = true → v8.length ≤ N) :
  Xc7 k (v0, v1, v2, v3, v4, v5, v6, v7, v8) (N : Int) = some (Me (I0 v0 v1 v2 v3 v4 v7) N v6 [] 50 v5 v8) := by
 obtain ⟨_, _, _, _, _, h5, h8, _⟩ := Cy h
 unfold Xc7; (try dsimp only)
 by_cases c : v8.length ≤ N
 ·refine (ct (decide_eq_true (by omega))).trans ((bs (Id k _ (show v8.length ≤ 1048576 by omega))).trans ?_)
  unfold Me
  rw [Dt, if_pos c, C0, if_pos c, decide_eq_false (by omega : ¬ v5 > 255)]
  rfl
 ·have e7 : v7 = false := by
   cases v7 with
   | false => rfl
   | true => exact absurd (h7 rfl) c
  subst e7
  refine (cf (decide_eq_false (by omega))).trans ((ct ?_).trans ?_)
  ·rw [decide_eq_true (by omega : (1 : Int) ≤ (N : Int)), decide_eq_true (by omega : (N : Int) ≤ 9223372036854775807), decide_eq_true (show v8.length ≤ 140737488355328 by omega)]; rfl
  ·rw [Int.toNat_natCast]
   exact Xpx k v0 v1 v2 v3 v4 v5 v6 v8 N hN.1 50 v8 [] v5 (fun e => c (by rw [e]; simp)) (by omega) (by simp) (by omega)
end Go.Proofs.YtdmepjjepogddaaGreat.Gn
end

section
namespace Go.Proofs.YtdmepjjepogddaaGreat.Gn
open Go.Rf Go.IntWalk
set_option linter.unusedVariables false
set_option linter.unusedSimpArgs false
def wl (n : Nat) : Int := if n = 0 then 1 else (n : Int)
def wt (p : den Al) : Int := wl p.2.2.2.2.2.2.2.2.length * ((p.2.2.2.1 : Int) + 1)
theorem Xv4 (n : Nat) : 1 ≤ wl n := by unfold wl; split <;> omega
theorem Xdc (v0 v1 v2 v3 v4 : Int) (v7 : Bool) {N : Nat} (hN : 1 ≤ N) (f : Bool) : ∀ (c : Nat) (a : Int) (d : Bc), d.length < c → A7 wt (C0 (I0 v0 v1 v2 v3 v4 v7) N f c a d) = wl d.length * (v3 + 1)
 | 0, _, _, h => by omega
 | c + 1, a, d, h => by
  rw [C0]
  by_cases hl : d.length ≤ N
  ·rw [if_pos hl]
   simp only [A7]
   show wl d.length * (v3 + 1) + 0 = _
   omega
  ·rw [if_neg hl]
   have hd : (d.drop N).length = d.length - N := List.length_drop
   have ht : (d.take N).length = N := by rw [List.length_take]; omega
   simp only [A7]
   rw [Xdc v0 v1 v2 v3 v4 v7 hN f c (a + (N : Int)) (d.drop N) (by omega)]
   show wl (d.take N).length * (v3 + 1) + _ = _
   rw [ht, hd, ← Int.add_mul]
   congr 1
   unfold wl
   split <;> split <;> split <;> omega
theorem Xd3 (g : Int → Bool → Bc → den Al) {N : Nat} (hN : 1 ≤ N) (f : Bool) {p : den Al} : ∀ (c : Nat) (a : Int) (d : Bc), p ∈ C0 g N f c a d → ∃ a' m d', p = g a' m d' ∧ a ≤ a' ∧ a' ≤ Dt N c a d ∧ d'.length ≤ d.length ∧ (d ≠ [] → d' ≠ []) ∧ (m = f ∨ d' ≠ []) ∧ (∀ x ∈ d', x ∈ d)
 | 0, _, _, h => by simp [C0] at h
 | c + 1, a, d, h => by
  rw [C0] at h
  rw [Dt]
  by_cases hl : d.length ≤ N
  ·rw [if_pos hl] at h ⊢
   obtain rfl := List.mem_singleton.1 h
   exact ⟨a, f, d, rfl, Int.le_refl _, Int.le_refl _, Nat.le_refl _, id, .inl rfl, fun x hx => hx⟩
  ·rw [if_neg hl] at h ⊢
   have hd : (d.drop N).length = d.length - N := List.length_drop
   have ht : (d.take N).length = N := by rw [List.length_take]; omega
   have hge := Ur N c (a + (N : Int)) (d.drop N)
   rcases List.mem_cons.1 h with e | h
   ·have hne : d.take N ≠ [] := fun e => by rw [e] at ht; simp at ht; omega
    exact ⟨a, true, d.take N, e, Int.le_refl _, by omega, by omega, fun _ => hne, .inr hne, fun x hx => List.mem_of_mem_take hx⟩
   ·have hne : d.drop N ≠ [] := fun e => by rw [e] at hd; simp at hd; omega
    obtain ⟨a', m, d', h1, h2, h3, h4, h5, h6, h7⟩ := Xd3 g hN f c (a + (N : Int)) (d.drop N) h
    exact ⟨a', m, d', h1, by omega, h3, by omega, fun _ => h5 hne, h6, fun x hx => List.mem_of_mem_drop (h7 x hx)⟩
def Oe (p : den Al) : den Al := (p.1, p.2.1, p.2.2.1, IntKind.i64.wrap ((p.2.2.2.1 : Int) - 1), p.2.2.2.2)
theorem Uj {v3 : Int} (h3 : 0 ≤ v3 ∧ v3 ≤ 255) (v0 v1 v2 v4 : Int) (v7 : Bool) (N : Nat) (f : Bool) : ∀ (c : Nat) (a : Int) (d : Bc), (C0 (I0 v0 v1 v2 v3 v4 v7) N f c a d).map Oe = C0 (I0 v0 v1 v2 (v3 - 1) v4 v7) N f c a d
 | 0, _, _ => rfl
 | c + 1, a, d => by
  have e : ∀ (a : Int) (m : Bool) (d : Bc), Oe (I0 v0 v1 v2 v3 v4 v7 a m d) = I0 v0 v1 v2 (v3 - 1) v4 v7 a m d := fun a m d => by
   show (v0, v1, v2, IntKind.i64.wrap (v3 - 1), v4, a, m, v7, d) = _
   rw [i64_in (v3 - 1) (by omega)]
   rfl
  rw [C0, C0]
  split
  ·rw [List.map_cons, e]; rfl
  ·rw [List.map_cons, e, Uj h3 v0 v1 v2 v4 v7 N f c]
theorem Xi5 (k : Nat) (s : den sta) (w : den Al) (z : den Ce) : ∀ (n : Nat) (d r : Cw), d.length + r.length ≤ 1000 → r.length < n → El k s w n ((d.length + r.length : Nat) : Int) (d.length : Int) z (d ++ r) = some ((2 : Int), (z.2.2.1 : Int), d ++ r.map Oe)
 | 0, _, _, _, h => by omega
 | n + 1, d, [], hl, h => by
  rw [El]
  unfold Gw; (try dsimp only [As])
  simp
 | n + 1, d, p :: r, hl, h => by
  rw [El]
  unfold Gw; (try dsimp only [As])
  rw [List.length_cons] at hl h
  have hj : d.length < (d ++ p :: r).length := by simp
  have hg : Ac (t := Al) (d ++ p :: r) (d.length : Int) = p := by rw [Ao _ d.length hj]; simp
  have hset : (d ++ p :: r).set d.length (Oe p) = (d ++ [Oe p]) ++ r := by simp
  have ih := Xi5 k s w z n (d ++ [Oe p]) r (by simp; omega) (by omega)
  have e1 : (((d ++ [Oe p]).length + r.length : Nat) : Int) = ((d.length + (p :: r).length : Nat) : Int) := by simp; omega
  have e2 : ((d ++ [Oe p]).length : Int) = ((d.length + 1 : Nat) : Int) := by simp
  rw [e1, e2] at ih
  rw [hg, D5 d.length (by omega), Int.toNat_natCast]
  refine (ct (decide_eq_true (by simp only [List.length_cons]; omega))).trans ?_
  have d0 : decide ((0 : Int) ≤ (d.length : Int)) = true := decide_eq_true (by omega)
  have d1 : decide ((d.length : Int) < ((d ++ p :: r).length : Int)) = true := decide_eq_true (by omega)
  refine (ct d0).trans ((ct d1).trans ((ct d0).trans ((ct d1).trans ?_)))
  refine (congrArg (fun l => El k s w n ((d.length + (p :: r).length : Nat) : Int) ((d.length + 1 : Nat) : Int) z l) hset).trans (ih.trans ?_)
  rw [List.map_cons, List.append_assoc, List.singleton_append]
def X0h (p : den Al) (d : den So) : Prop :=
 (@Eq Int d.1 0 ∧ d.2.2 = []) ∨ (@Eq Int d.1 1 ∧ d.2.2 = [p]) ∨ (@Eq Int d.1 3 ∧ ∃ n : den Al, d.2.2 = [n] ∧ n.2.2.2.2.2.2.2.2.length ≤ 1048576) ∨
  (@Eq Int d.1 2 ∧ (∀ r ∈ d.2.2, Lr r = true ∧ BOk r.2.2.2.2.2.2.2.2) ∧ A7 wt d.2.2 + 1 ≤ wt p ∧ d.2.2.length ≤ 50)
theorem Jd (p : den Al) (v0 v1 v2 v3 v4 v5 : Int) (v6 v7 : Bool) (v8 : Bc) (w a b : Int) : X0h p (Jj (Xc v0 v1 v2 v3 v4 v5 v6 v7 v8 w a b)) := by
 unfold Xc
 cases (!L7 v2 v8 && @BEq.beq Int _ v5 0) with
 | false => exact .inl ⟨rfl, rfl⟩
 | true =>
  refine .inr (.inr (.inl ⟨rfl, _, rfl, ?_⟩))
  show (noB a b ((pkB v0 v1 v2 v3 v4 v5 v6 v7 v8).take 20)).length ≤ _
  cases ho : Yp a b ((pkB v0 v1 v2 v3 v4 v5 v6 v7 v8).take 20).length with
  | false => unfold noB; rw [ho]; simp
  | true => have := Xo ho; omega
theorem Jm (g : Int → Bool → Bc → den Al) (N : Nat) (f : Bool) : ∀ (c : Nat) (a : Int) (d : Bc), (C0 g N f c a d).length ≤ c
 | 0, _, _ => Nat.le_refl _
 | c + 1, a, d => by
  rw [C0]
  split
  ·simp
  ·have := Jm g N f c (a + (N : Int)) (d.drop N)
   rw [List.length_cons]
   omega
theorem Xum {v0 v1 v2 v3 v4 v5 : Int} {v6 v7 : Bool} {v8 : Bc} {N : Nat} (h : Lr (v0, v1, v2, v3, v4, v5, v6, v7, v8) = true) (hb : BOk v8) (hN : 1 ≤ N ∧ N ≤ 48) (h7 : v7 = true → v8.length ≤ N) (h3 : ¬ v3 < 2) (gw : Int) (ha : ¬ Dt N 50 v5 v8 > 255) :
  X0h (v0, v1, v2, v3, v4, v5, v6, v7, v8) (2, gw, C0 (I0 v0 v1 v2 (v3 - 1) v4 v7) N v6 50 v5 v8) := by
 obtain ⟨q0, q1, q2, q3, q4, q5, q6, q7, q8⟩ := Cy h
 refine .inr (.inr (.inr ⟨rfl, fun r hr => ?_, ?_, Jm _ _ _ _ _ _⟩))
 ·cases v7 with
  | true =>
   have hr : r ∈ C0 (I0 v0 v1 v2 (v3 - 1) v4 true) N v6 50 v5 v8 := hr
   rw [C0, if_pos (h7 rfl)] at hr
   obtain rfl := List.mem_singleton.1 hr
   exact ⟨My q0 q1 q2 (by omega) q4 q5 q6 q7 q8, hb⟩
  | false =>
   obtain ⟨a', m, d', rfl, e1, e2, e3, e4, e5, e6⟩ := Xd3 (I0 v0 v1 v2 (v3 - 1) v4 false) hN.1 v6 50 v5 v8 hr
   refine ⟨My q0 q1 q2 (by omega) q4 (by omega) (by omega) (fun hm => ?_) (fun e => by cases e), fun x hx => hb x (e6 x hx)⟩
   refine List.length_pos_iff.2 ?_
   rcases e5 with e5 | e5
   ·exact e4 (List.length_pos_iff.1 (q7 (e5.symm.trans hm)))
   ·exact e5
 ·show A7 wt (C0 (I0 v0 v1 v2 (v3 - 1) v4 v7) N v6 50 v5 v8) + 1 ≤ wl v8.length * (v3 + 1)
  rw [Xdc v0 v1 v2 (v3 - 1) v4 v7 hN.1 v6 50 v5 v8 (by omega)]
  have := Xv4 v8.length
  rw [show v3 - 1 + 1 = v3 by omega, Int.mul_add, Int.mul_one]
  omega
theorem fwd (q : Nat) {s : den sta} (hs : StaOk (q + 4) s) {v0 v1 v2 v3 v4 v5 : Int} {v6 v7 : Bool} {v8 : Bc} (h : Lr (v0, v1, v2, v3, v4, v5, v6, v7, v8) = true) (hb : BOk v8) (hk : 1048576 < q + 4) :
  ∃ d : den So, Xhg (q + 4) s (v0, v1, v2, v3, v4, v5, v6, v7, v8) = some d ∧ Zb (q + 4) s (v0, v1, v2, v3, v4, v5, v6, v7, v8) = some d ∧ X0h (v0, v1, v2, v3, v4, v5, v6, v7, v8) d := by
 obtain ⟨q0, q1, q2, q3, q4, q5, q6, q7, q8⟩ := Cy h
 have hp : G8 (q + 4) (v0, v1, v2, v3, v4, v5, v6, v7, v8) = some true := by rw [Cz, h]
 have h58 := Id (q + 4) (v0, v1, v2, v3, v4, v5, v6, v7, v8) (show v8.length ≤ 1048576 by omega)
 have h39 := N3 (q + 4) (v0, v1, v2, v3, v4, v5, v6, v7, v8) (show v8.length ≤ 1048576 by omega)
 have sg := fun (a b : Int) (ha : 3 ≤ a ∧ a ≤ 6) (hb2 : 0 ≤ b ∧ b ≤ 65535) => Xzu (X2m q h hb hk hs.at1 ha hb2)
 have ig := fun (a b : Int) (ha : 3 ≤ a ∧ a ≤ 6) (hb2 : 0 ≤ b ∧ b ≤ 65535) => Xlt (Xk9 q h hb hk hs.at1 ha hb2)
 unfold Xhg Y4 Zb Up; (try dsimp only)
 rw [hs.st, hp]
 by_cases c1 : v1 = s.1
 ·have b1 : (v1 == s.1) = true := beq_iff_eq.2 c1
  exact ⟨(1, 0, [(v0, v1, v2, v3, v4, v5, v6, v7, v8)]), (bs rfl).trans ((cf rfl).trans ((bs rfl).trans ((cf rfl).trans ((ct b1).trans ((bs h39).trans rfl))))), (ct b1).trans ((bs h58).trans rfl), .inr (.inl ⟨rfl, rfl⟩)⟩
 have b1 : (v1 == s.1) = false := beq_eq_false_iff_ne.2 c1
 by_cases c2 : v3 < 2
 ·have b2 : decide (v3 < 2) = true := decide_eq_true c2
  exact ⟨_, (bs rfl).trans ((cf rfl).trans ((bs rfl).trans ((cf rfl).trans ((cf b1).trans ((ct b2).trans ((bs (sg 4 0 (by omega) (by omega))).trans rfl)))))), (cf b1).trans ((ct b2).trans ((bs (ig 4 0 (by omega) (by omega))).trans rfl)), Jd _ _ _ _ _ _ _ _ _ _ _ _ _⟩
 have b2 : decide (v3 < 2) = false := decide_eq_false c2
 have fs := Xzy (q + 4) s.2 v1 hs.len hs.rs hs.ok (Cn q1) hk
 have fi := Xtb (q + 4) s.2 v1 hs.len hs.ok
 have fm := Un v1 17 (l := s.2.reverse)
 generalize Rt.Cf v1 17 s.2.reverse = r at fs fi fm
 obtain ⟨r, fd⟩ := r
 cases fd with
 | false =>
  exact ⟨_, (bs rfl).trans ((cf rfl).trans ((bs rfl).trans ((cf rfl).trans ((cf b1).trans ((cf b2).trans ((bs fs).trans ((ct rfl).trans ((bs (sg 3 0 (by omega) (by omega))).trans rfl)))))))), (cf b1).trans ((cf b2).trans ((bs fi).trans ((ct rfl).trans ((bs (ig 3 0 (by omega) (by omega))).trans rfl)))), Jd _ _ _ _ _ _ _ _ _ _ _ _ _⟩
 | true =>
  have hm := List.mem_reverse.1 (fm rfl)
  obtain ⟨r0, r1, gw, mtu⟩ := r
  have hmtu : @LE.le Int _ 1 mtu ∧ @LE.le Int _ mtu 48 := A8 (Ow (hs.ok _ hm)).2.2.2
  obtain ⟨N, hN⟩ : ∃ N : Nat, mtu = (N : Int) := ⟨Int.toNat mtu, (Int.toNat_of_nonneg (by omega)).symm⟩
  subst hN
  have hN : 1 ≤ N ∧ N ≤ 48 := by omega
  have w3 : IntKind.i64.wrap (v3 - 1) = v3 - 1 := i64_in _ (by omega)
  have hok' : Lr (v0, v1, v2, v3 - 1, v4, v5, v6, v7, v8) = true := My q0 q1 q2 (by omega) q4 q5 q6 q7 q8
  have sj : (v7 = true → v8.length ≤ N) → ∃ d : den So, Ob (q + 4) s (v0, v1, v2, v3, v4, v5, v6, v7, v8) some ((r0, r1, gw, (N : Int)), true) = some d ∧ (Xc7 (q + 4) (v0, v1, v2, v3, v4, v5, v6, v7, v8) (N : Int)).bind (fun b6 => cond (!b6.2) (some ((0 : Int), (0 : Int), ([] : Cw))) (El (q + 4) s (v0, v1, v2, v3, v4, v5, v6, v7, v8) (q + 4) (b6.1.length : Int) 0 (r0, r1, gw, (N : Int)) b6.1)) = some d ∧ X0h (v0, v1, v2, v3, v4, v5, v6, v7, v8) d := fun h7 => by
   have e1 := Xzc (q + 4) hok' hN h7 hk
   have e2 := Xko (q + 4) h hN h7
   unfold Ob; (try dsimp only)
   unfold Me at e1 e2
   by_cases ha : Dt N 50 v5 v8 > 255
   ·rw [decide_eq_true ha] at e1 e2
    refine ⟨(0, 0, []), (bs h39).trans ?_, (bs e2).trans rfl, .inl ⟨rfl, rfl⟩⟩
    show (Xce (q + 4) (v0, v1, v2, IntKind.i64.wrap (v3 - 1), v4, v5, v6, v7, v8) (N : Int)).bind _ = _
    rw [w3]
    exact (bs e1).trans rfl
   ·rw [decide_eq_false ha] at e1 e2
    refine ⟨(2, gw, C0 (I0 v0 v1 v2 (v3 - 1) v4 v7) N v6 50 v5 v8), (bs h39).trans ?_, (bs e2).trans ?_, Xum h hb hN h7 c2 gw ha⟩
    ·show (Xce (q + 4) (v0, v1, v2, IntKind.i64.wrap (v3 - 1), v4, v5, v6, v7, v8) (N : Int)).bind _ = _
     rw [w3]
     exact (bs e1).trans rfl
    ·have hl := Jm (I0 v0 v1 v2 v3 v4 v7) N v6 50 v5 v8
     have := Xi5 (q + 4) s (v0, v1, v2, v3, v4, v5, v6, v7, v8) (r0, r1, gw, (N : Int)) (q + 4) [] (C0 (I0 v0 v1 v2 v3 v4 v7) N v6 50 v5 v8) (by simp; omega) (by omega)
     simp only [List.nil_append, List.length_nil, Nat.zero_add] at this
     rw [Uj q3] at this
     exact (cf rfl).trans this
  by_cases c3 : (v8.length : Int) > (N : Int)
  ·have b3 : decide ((v8.length : Int) > (N : Int)) = true := decide_eq_true c3
   cases v7 with
   | true =>
    exact ⟨_, (bs rfl).trans ((cf rfl).trans ((bs rfl).trans ((cf rfl).trans ((cf b1).trans ((cf b2).trans ((bs fs).trans ((cf rfl).trans ((ct b3).trans ((ct rfl).trans ((bs (sg 6 (N : Int) (by omega) (by omega))).trans rfl)))))))))), (cf b1).trans ((cf b2).trans ((bs fi).trans ((cf rfl).trans ((ct b3).trans ((ct rfl).trans ((bs (ig 6 (N : Int) (by omega) (by omega))).trans rfl)))))), Jd _ _ _ _ _ _ _ _ _ _ _ _ _⟩
   | false =>
    obtain ⟨d, e1, e2, e3⟩ := sj (fun e => by cases e)
    exact ⟨d, (bs rfl).trans ((cf rfl).trans ((bs rfl).trans ((cf rfl).trans ((cf b1).trans ((cf b2).trans ((bs fs).trans ((cf rfl).trans ((ct b3).trans ((cf rfl).trans e1))))))))), (cf b1).trans ((cf b2).trans ((bs fi).trans ((cf rfl).trans ((ct b3).trans ((cf rfl).trans e2))))), e3⟩
  ·have b3 : decide ((v8.length : Int) > (N : Int)) = false := decide_eq_false c3
   obtain ⟨d, e1, e2, e3⟩ := sj (fun e => by omega)
   exact ⟨d, (bs rfl).trans ((cf rfl).trans ((bs rfl).trans ((cf rfl).trans ((cf b1).trans ((cf b2).trans ((bs fs).trans ((cf rfl).trans ((cf b3).trans e1)))))))), (cf b1).trans ((cf b2).trans ((bs fi).trans ((cf rfl).trans ((cf b3).trans e2)))), e3⟩
end Go.Proofs.YtdmepjjepogddaaGreat.Gn
end
