/-
  What the proof of this row needs, part 5: the typed evaluator of the translated code, the functions that the law reaches as plain functions, and what they answer.
-/
import Derived.KernelRfl
import Derived.Test.YtdmepjjepogddaaGreatA4
section
set_option linter.unusedVariables false
set_option linter.unusedSimpArgs false
namespace Go.Proofs.YtdmepjjepogddaaGreat.Gn
open Go.Rf IntKind
noncomputable section
def X2t : Nat → Hint
 | 0 => ⟨(3, .own .own Ak []) :: (pl 6 3 []), []⟩
 | _ => ⟨[], []⟩
abbrev Zh (k : Nat) : Env := Bd (A0 [Pd k, Xgo k]) X2t .own [] k
abbrev Xdq : List PA := [.one (.sl .ro Ak)]
abbrev F209_O : RO := ⟨[.v], [.sl .own Ak]⟩
noncomputable def X4k {β : Type} (k : Nat) (v : Al) (K : KT β) : Ex → St → Option β := Bx (Zh k) Tryz.f209 (PsT.put Xdq (v, ())) K
def Xvc (v : Al) (x8_0 : Int) (m3900_0 : Al) : St := ⟨dz 3 ((.one (.a (.cell 3900) 0 0 none)) :: (.one .d) :: (.one .d) :: (.one (.s .ro Ak v)) :: (.one (vI (v.length : Int))) :: (.one (vI x8_0)) :: dz 11 []), [eM 3900 (.s .own Ak m3900_0)]⟩
noncomputable def O2 {β : Type} (k : Nat) (v : Al) (K : KT β) (n : Nat) (x8_0 : Int) (m3900_0 : Al) : Option β := A7 (Zh k) Tryz.f209 [1, 1, 0, 1, 0] 0 (Ap (Zh k) [1, 1, 0, 1, 0] (Ar Tryz.f209) 0 (X4k k v K)) n (Xvc v x8_0 m3900_0)
def Ku {β : Type} (NX : Int → Al → Option β) (RET : Al → Option β) (k : Nat) (v : Al) (x8_0 : Int) (m3900_0 : Al) : Option β := cond (decide (x8_0 < (v.length : Int))) (Az x8_0 v ((Qy k (Aw v x8_0)).bind fun b1 => Bi (m3900_0.length) ([b1].length) 80 (NX (i64.wrap (x8_0 + 1)) (m3900_0 ++ [b1])))) ((Xa5 k m3900_0).bind fun b2 => RET b2)
def Kk (k : Nat) (v : Al) : Nat → Int → Al → Option (Al)
 | 0, _, _ => none
 | n + 1, x8_0, m3900_0 => Ku (Kk k v n) some k v x8_0 m3900_0
theorem Xey {β : Type} (k : Nat) (v : Al) (K : KT β) (n : Nat) : ∀ (x8_0 : Int) (m3900_0 : Al), O2 k v K n x8_0 m3900_0 =
  (Kk k v n x8_0 m3900_0).bind fun r => K (F209_O.put r) := by
 induction n with
 | zero => intros; rfl
 | succ n ih =>
  intro x8_0 m3900_0
  refine Eq.trans (b := Ku (O2 k v K n) (fun r => K (F209_O.put r)) k v x8_0 m3900_0) (by kernel_rfl) ?_
  rw [Kk]
  simp only [Ku, z1, z2, z3, z4, z5, z6, z7, z8, ih]
def Zy {β : Type} (LP0 : Int → Al → Option β) (k : Nat) (v : Al) : Option β := LP0 0 []
def Q2 (k : Nat) (v : Al) : Option (Al) := Zy (Kk k v k) k v
theorem Xuz {β : Type} (k : Nat) (v : Al) (K : KT β) : Af (Zh k) Tryz.f209 (PsT.put Xdq (v, ())) K = (Q2 k v).bind fun r => K (F209_O.put r) :=
 Eq.trans (b := Zy (O2 k v K k) k v) (by kernel_rfl) (by simp only [Q2, Zy, z1, z2, z3, z4, z5, z6, z7, z8, Xey])
def Xcr (k : Nat) : FD := ⟨209, Xdq, F209_O, Q2 k⟩
theorem Xp3 (k : Nat) : (Xcr k).Ok Tryz.prog := ⟨fun x => Ab (Aj (Ah (.c (Rw k) (.c (Xm0 k) .n))) _ _ _ _) Ag Tryz.func209 rfl rfl (Xuz k _ some), .of (by kernel_rfl)⟩
def X35 : Nat → Hint
 | 0 => ⟨pl 0 1 (pl 6 2 ((8, .own .sown (.pair (.int .i64) Ak) []) :: [])), pl 6000 3 ((7000, .own .own Ak []) :: (7001, .own .own Ak []) :: (pl 7002 1 []))⟩
 | 3 => ⟨pl 0 1 (pl 6 2 ((8, .own .sown (.pair (.int .i64) Ak) []) :: (pl 11 1 (pl 65 3 [])))), pl 6000 3 (pl 7000 3 ((37002, .own .sown Ak []) :: []))⟩
 | _ => ⟨[], []⟩
abbrev E8 (k : Nat) : Env := Bd (A0 [Xt8 k, Xi3 k, Xcr k]) X35 .own [] k
abbrev Xd9 : List PA := [.one (.sl .ro sta), .one mI, .agg (.pair mI Ka)]
abbrev F140_O : RO := ⟨[.a], [Sj]⟩
noncomputable def Xe7 {β : Type} (k : Nat) (v : Aq) (w : Int) (p : (den Ak)) (K : KT β) : Ex → St → Option β := Bx (E8 k) Tryz.f140 (PsT.put Xd9 (v, w, p, ())) K
def Xzf (v : Aq) (w : Int) (p : (den Ak)) (x11_3 x66_3 x67_3 : Int) (m7000_3 : (den Eg)) (m37002_3 : Al) (m8900_3 : Cg) : St := ⟨(.one (.s .ro sta v)) :: dz 5 ((.one (.ptr (.cell 6000) 3 0)) :: (.one (.ptr (.cell 7000) 3 0)) :: (.one (.a (.cell 8900) 0 0 none)) :: (.one .d) :: (.one .d) :: (.one (vI x11_3)) :: dz 53 ((.one (.a (.cell 37002) 0 0 none)) :: (.one (vI x66_3)) :: (.one (vI x67_3)) :: dz 19 [])), Cj 6000 (Jb Sj ([], [], 0)) (Cj 7000 (Jb Sj m7000_3) [eM 37002 (.s .sown Ak m37002_3), eM 8900 (.s .sown (.pair (.int .i64) Ak) m8900_3)])⟩
noncomputable def O4 {β : Type} (k : Nat) (v : Aq) (w : Int) (p : (den Ak)) (KK : Ex → St → Option β) (n : Nat) (x11_3 x66_3 x67_3 : Int) (m7000_3 : (den Eg)) (m37002_3 : Al) (m8900_3 : Cg) : Option β := A7 (E8 k) Tryz.f140 [1, 1, 0, 1, 0, 0, 1, 0, 1, 1, 1, 1, 1, 0, 1, 1, 1, 1, 1, 0, 1, 1, 0, 1, 0] 3 KK n (Xzf v w p x11_3 x66_3 x67_3 m7000_3 m37002_3 m8900_3)
def J3 {β : Type} (NX : Int → Int → Int → (den Eg) → Al → Cg → Option β) (EX0 : (Int × Int × Int × (den Eg) × Al × Cg) → Option β) (k : Nat) (v : Aq) (w : Int) (p : (den Ak)) (x11_3 x66_3 x67_3 : Int) (m7000_3 : (den Eg)) (m37002_3 : Al) (m8900_3 : Cg) : Option β := cond (decide (x67_3 < x66_3)) (Az x67_3 m37002_3 (Bi (m8900_3.length) ([(x11_3, (Aw m37002_3 x67_3))].length) 88 (NX x11_3 x66_3 (i64.wrap (x67_3 + 1)) m7000_3 m37002_3 (m8900_3 ++ [(x11_3, (Aw m37002_3 x67_3))])))) (EX0 (x11_3, x66_3, x67_3, m7000_3, m37002_3, m8900_3))
def Kj (k : Nat) (v : Aq) (w : Int) (p : (den Ak)) : Nat → Int → Int → Int → (den Eg) → Al → Cg → Option ((Int × Int × Int × (den Eg) × Al × Cg))
 | 0, _, _, _, _, _, _ => none
 | n + 1, x11_3, x66_3, x67_3, m7000_3, m37002_3, m8900_3 => J3 (Kj k v w p n) (fun y3 => some y3) k v w p x11_3 x66_3 x67_3 m7000_3 m37002_3 m8900_3
theorem Xft {β : Type} (k : Nat) (v : Aq) (w : Int) (p : (den Ak)) (KK : Ex → St → Option β) (n : Nat) : ∀ (x11_3 x66_3 x67_3 : Int) (m7000_3 : (den Eg)) (m37002_3 : Al) (m8900_3 : Cg), O4 k v w p KK n x11_3 x66_3 x67_3 m7000_3 m37002_3 m8900_3 =
  (Kj k v w p n x11_3 x66_3 x67_3 m7000_3 m37002_3 m8900_3).bind fun y3 => KK (.exit 3) ⟨(.one (.s .ro sta v)) :: dz 5 ((.one (.ptr (.cell 6000) 3 0)) :: (.one (.ptr (.cell 7000) 3 0)) :: (.one (.a (.cell 8900) 0 0 none)) :: (.one .d) :: (.one .d) :: (.one (vI y3.1)) :: dz 53 ((.one (.a (.cell 37002) 0 0 none)) :: (.one (vI y3.2.1)) :: (.one (vI y3.2.2.1)) :: (.one (vB false)) :: dz 18 [])), Cj 6000 (Jb Sj ([], [], 0)) (Cj 7000 (Jb Sj y3.2.2.2.1) [eM 37002 (.s .sown Ak y3.2.2.2.2.1), eM 8900 (.s .sown (.pair (.int .i64) Ak) y3.2.2.2.2.2)])⟩ := by
 induction n with
 | zero => intros; rfl
 | succ n ih =>
  intro x11_3 x66_3 x67_3 m7000_3 m37002_3 m8900_3
  refine Eq.trans (b := J3 (O4 k v w p KK n) (fun y3 => KK (.exit 3) ⟨(.one (.s .ro sta v)) :: dz 5 ((.one (.ptr (.cell 6000) 3 0)) :: (.one (.ptr (.cell 7000) 3 0)) :: (.one (.a (.cell 8900) 0 0 none)) :: (.one .d) :: (.one .d) :: (.one (vI y3.1)) :: dz 53 ((.one (.a (.cell 37002) 0 0 none)) :: (.one (vI y3.2.1)) :: (.one (vI y3.2.2.1)) :: (.one (vB false)) :: dz 18 [])), Cj 6000 (Jb Sj ([], [], 0)) (Cj 7000 (Jb Sj y3.2.2.2.1) [eM 37002 (.s .sown Ak y3.2.2.2.2.1), eM 8900 (.s .sown (.pair (.int .i64) Ak) y3.2.2.2.2.2)])⟩) k v w p x11_3 x66_3 x67_3 m7000_3 m37002_3 m8900_3) (by kernel_rfl) ?_
  rw [Kj]
  simp only [J3, z1, z2, z3, z4, z5, z6, z7, z8, A5, ih]
def Xwm (v : Aq) (w : Int) (p : (den Ak)) (m7000_0 : (den Eg)) (m8900_0 : Cg) : St := ⟨(.one (.s .ro sta v)) :: dz 5 ((.one (.ptr (.cell 6000) 3 0)) :: (.one (.ptr (.cell 7000) 3 0)) :: (.one (.a (.cell 8900) 0 0 none)) :: dz 78 []), Cj 6000 (Jb Sj ([], [], 0)) (Cj 7000 (Jb Sj m7000_0) [eM 8900 (.s .sown (.pair (.int .i64) Ak) m8900_0)])⟩
noncomputable def Dm {β : Type} (k : Nat) (v : Aq) (w : Int) (p : (den Ak)) (K : KT β) (n : Nat) (m7000_0 : (den Eg)) (m8900_0 : Cg) : Option β := A7 (E8 k) Tryz.f140 [1, 1, 0, 1, 0] 0 (Ap (E8 k) [1, 1, 0, 1, 0] (Ar Tryz.f140) 0 (Xe7 k v w p K)) n (Xwm v w p m7000_0 m8900_0)
def Bg (k : Nat) (v : Aq) (w : Int) (p : (den Ak)) : Nat → (den Eg) → Cg → Option ((den Eg))
 | 0, _, _ => none
 | n + 1, m7000_0, m8900_0 => cond (decide ((m8900_0.length : Int) > 0)) (cond (decide (0 < (m8900_0.length : Int))) (cond (decide (0 ≤ 1) && decide (1 ≤ (m8900_0.length : Int))) (Az (Aw m8900_0 0).1 v ((Xf k (Aw v (Aw m8900_0 0).1) (Aw m8900_0 0).2).bind fun b1 => cond (b1.1 == 1) (Bi (m7000_0.1.length) (b1.2.2.length) 80 (Bg k v w p n (m7000_0.1 ++ b1.2.2, m7000_0.2.1, i64.wrap (m7000_0.2.2 + 1)) ((m8900_0.take (((m8900_0.length : Int)).toNat)).drop 1))) (cond (b1.1 == 3) (Bi (m7000_0.2.1.length) (b1.2.2.length) 80 (Bg k v w p n (m7000_0.1, m7000_0.2.1 ++ b1.2.2, i64.wrap (m7000_0.2.2 + 1)) ((m8900_0.take (((m8900_0.length : Int)).toNat)).drop 1))) (cond (b1.1 == 2) ((F75 k v b1.2.1).bind fun b2 => cond (decide (b2 ≥ 0)) ((Kj k v w p k b2 (b1.2.2.length : Int) 0 (m7000_0.1, m7000_0.2.1, i64.wrap (m7000_0.2.2 + 1)) b1.2.2 ((m8900_0.take (((m8900_0.length : Int)).toNat)).drop 1)).bind fun y3 => Bg k v w p n y3.2.2.2.1 y3.2.2.2.2.2) (Bg k v w p n (m7000_0.1, m7000_0.2.1, i64.wrap (m7000_0.2.2 + 1)) ((m8900_0.take (((m8900_0.length : Int)).toNat)).drop 1))) (Bg k v w p n (m7000_0.1, m7000_0.2.1, i64.wrap (m7000_0.2.2 + 1)) ((m8900_0.take (((m8900_0.length : Int)).toNat)).drop 1)))))) none) none) ((Q2 k m7000_0.1).bind fun b3 => (Q2 k m7000_0.2.1).bind fun b4 => some (b3, b4, m7000_0.2.2))
theorem Wu {β : Type} (k n : Nat) (v : Aq) (w : Int) (p : (den Ak)) (y3 : Int × Int × Int × (den Eg) × Al × Cg) (K : KT β) :
  (Ap (E8 k) [1, 0, 1, 1, 1, 1, 1, 0, 1, 1, 1, 1, 1, 0, 1, 1, 0, 1, 0] (C0 [1, 1, 0, 1, 0, 0] (Ar Tryz.f140)) 0 (Xd (E8 k) Tryz.f140 [1, 1, 0, 1, 0] 0 (Ap (E8 k) [1, 1, 0, 1, 0] (Ar Tryz.f140) 0 (Xe7 k v w p K)) n)) (.exit 3) ⟨(.one (.s .ro sta v)) :: dz 5 ((.one (.ptr (.cell 6000) 3 0)) :: (.one (.ptr (.cell 7000) 3 0)) :: (.one (.a (.cell 8900) 0 0 none)) :: (.one .d) :: (.one .d) :: (.one (vI y3.1)) :: dz 53 ((.one (.a (.cell 37002) 0 0 none)) :: (.one (vI y3.2.1)) :: (.one (vI y3.2.2.1)) :: (.one (vB false)) :: dz 18 [])), Cj 6000 (Jb Sj ([], [], 0)) (Cj 7000 (Jb Sj y3.2.2.2.1) [eM 37002 (.s .sown Ak y3.2.2.2.2.1), eM 8900 (.s .sown (.pair (.int .i64) Ak) y3.2.2.2.2.2)])⟩ =
  Dm k v w p K n y3.2.2.2.1 y3.2.2.2.2.2 := by kernel_rfl
theorem Xfe {β : Type} (k : Nat) (v : Aq) (w : Int) (p : (den Ak)) (K : KT β) (n : Nat) : ∀ (m7000_0 : (den Eg)) (m8900_0 : Cg), Dm k v w p K n m7000_0 m8900_0 =
  (Bg k v w p n m7000_0 m8900_0).bind fun r => K (F140_O.put r) := by
 induction n with
 | zero => intros; rfl
 | succ n ih =>
  intro m7000_0 m8900_0
  refine Eq.trans (b := cond (decide ((m8900_0.length : Int) > 0)) (cond (decide (0 < (m8900_0.length : Int))) (cond (decide (0 ≤ 1) && decide (1 ≤ (m8900_0.length : Int))) (Az (Aw m8900_0 0).1 v ((Xf k (Aw v (Aw m8900_0 0).1) (Aw m8900_0 0).2).bind fun b1 => cond (b1.1 == 1) (Bi (m7000_0.1.length) (b1.2.2.length) 80 (Dm k v w p K n (m7000_0.1 ++ b1.2.2, m7000_0.2.1, i64.wrap (m7000_0.2.2 + 1)) ((m8900_0.take (((m8900_0.length : Int)).toNat)).drop 1))) (cond (b1.1 == 3) (Bi (m7000_0.2.1.length) (b1.2.2.length) 80 (Dm k v w p K n (m7000_0.1, m7000_0.2.1 ++ b1.2.2, i64.wrap (m7000_0.2.2 + 1)) ((m8900_0.take (((m8900_0.length : Int)).toNat)).drop 1))) (cond (b1.1 == 2) ((F75 k v b1.2.1).bind fun b2 => cond (decide (b2 ≥ 0)) (O4 k v w p (Ap (E8 k) [1, 0, 1, 1, 1, 1, 1, 0, 1, 1, 1, 1, 1, 0, 1, 1, 0, 1, 0] (C0 [1, 1, 0, 1, 0, 0] (Ar Tryz.f140)) 0 (Xd (E8 k) Tryz.f140 [1, 1, 0, 1, 0] 0 (Ap (E8 k) [1, 1, 0, 1, 0] (Ar Tryz.f140) 0 (Xe7 k v w p K)) n)) k b2 (b1.2.2.length : Int) 0 (m7000_0.1, m7000_0.2.1, i64.wrap (m7000_0.2.2 + 1)) b1.2.2 ((m8900_0.take (((m8900_0.length : Int)).toNat)).drop 1)) (Dm k v w p K n (m7000_0.1, m7000_0.2.1, i64.wrap (m7000_0.2.2 + 1)) ((m8900_0.take (((m8900_0.length : Int)).toNat)).drop 1))) (Dm k v w p K n (m7000_0.1, m7000_0.2.1, i64.wrap (m7000_0.2.2 + 1)) ((m8900_0.take (((m8900_0.length : Int)).toNat)).drop 1)))))) none) none) ((Q2 k m7000_0.1).bind fun b3 => (Q2 k m7000_0.2.1).bind fun b4 => K (F140_O.put (b3, b4, m7000_0.2.2)))) (by kernel_rfl) ?_
  rw [Bg]
  simp only [z1, z2, z3, z4, z5, z6, z7, z8, A5, Xft, Wu k n v w p _ K, ih, Az, Bi]
def X3 {β : Type} (LP0 : (den Eg) → Cg → Option β) (k : Nat) (v : Aq) (w : Int) (p : (den Ak)) : Option β := A5 p fun p0 p1 p2 p3 p4 p5 p6 p7 p8 => LP0 ([], [], 0) [(w, p0, p1, p2, p3, p4, p5, p6, p7, p8)]
def Xi8 (k : Nat) (v : Aq) (w : Int) (p : (den Ak)) : Option ((den Eg)) := X3 (Bg k v w p k) k v w p
theorem Xu8 {β : Type} (k : Nat) (v : Aq) (w : Int) (p : (den Ak)) (K : KT β) : Af (E8 k) Tryz.f140 (PsT.put Xd9 (v, w, p, ())) K = (Xi8 k v w p).bind fun r => K (F140_O.put r) :=
 Eq.trans (b := X3 (Dm k v w p K k) k v w p) (by kernel_rfl) (by simp only [Xi8, X3, z1, z2, z3, z4, z5, z6, z7, z8, A5, Xfe])
def Xqt (k : Nat) : FD := ⟨140, Xd9, F140_O, Xi8 k⟩
theorem X6o (k : Nat) : (Xqt k).Ok Tryz.prog := ⟨fun x => Ab (Aj (Ah (.c (X4z k) (.c (Xse k) (.c (Xp3 k) .n)))) _ _ _ _) Ag Tryz.func140 rfl rfl (Xu8 k _ _ _ some), .of (by kernel_rfl)⟩
abbrev X6y (k : Nat) : Env := Bd Bq Am .own [] k
abbrev Xp7 : List PA := [.agg (.pair mI Ka), .agg (.pair mI Ka)]
abbrev F217_O : RO := ⟨[.v], [mB]⟩
def Xej {β : Type} (RET : Bool → Option β) (k : Nat) (v w : (den Ak)) : Option β := cond (v.1 == w.1) (cond (v.2.1 == w.2.1) (cond (v.2.2.1 == w.2.2.1) (RET (v.2.2.2.2.1 == w.2.2.2.2.1)) (RET false)) (RET false)) (RET false)
def Xgr := Xej (β := Bool) some
theorem Xvm {β : Type} (k : Nat) (v w : (den Ak)) (K : KT β) : Af (X6y k) Tryz.f217 (PsT.put Xp7 (v, w, ())) K = (Xgr k v w).bind fun r => K (F217_O.put r) :=
 Eq.trans (b := Xej (fun r => K (F217_O.put r)) k v w) (by kernel_rfl) (by simp only [Xgr, Xej, z1, z2, z3, z4, z5, z6, z7, z8, A5])
def Y6 (k : Nat) : FD := ⟨217, Xp7, F217_O, Xgr k⟩
theorem Xc9 (k : Nat) : (Y6 k).Ok Tryz.prog := ⟨fun x => Ab (Aj .none _ _ _ _) Ag Tryz.func217 rfl rfl (Xvm k _ _ some), .of (by kernel_rfl)⟩
def X07 : Nat → Hint
 | 0 => ⟨pl 1 1 (pl 3 1 (pl 8 3 [])), pl 1000 2 []⟩
 | _ => ⟨[], []⟩
abbrev Ya (k : Nat) : Env := Bd (A0 [Xil k, Y6 k, D3 k]) X07 .own [] k
abbrev Xen : List PA := [.agg (.pair (.sl .ro Ak) mI)]
abbrev F267_O : RO := ⟨[.v], [mB]⟩
noncomputable def X5k {β : Type} (k : Nat) (v : (den Bb)) (K : KT β) : Ex → St → Option β := Bx (Ya k) Tryz.f267 (PsT.put Xen (v, ())) K
def Xxl (v : (den Bb)) (x3_0 x10_0 : Int) : St := ⟨(.one .d) :: (.one (.ptr (.cell 1000) 2 0)) :: (.one .d) :: (.one (vI x3_0)) :: dz 4 ((.one (.s .ro Ak v.1)) :: (.one (vI (v.1.length : Int))) :: (.one (vI x10_0)) :: dz 57 []), Cj 1000 (Jb (.pair (.sl .ro Ak) mI) v) []⟩
noncomputable def N7 {β : Type} (k : Nat) (v : (den Bb)) (K : KT β) (n : Nat) (x3_0 x10_0 : Int) : Option β := A7 (Ya k) Tryz.f267 [1, 1, 0, 1, 0] 0 (Ap (Ya k) [1, 1, 0, 1, 0] (Ar Tryz.f267) 0 (X5k k v K)) n (Xxl v x3_0 x10_0)
def Gx {β : Type} (NX : Int → Int → Option β) (RET : Bool → Option β) (k : Nat) (v : (den Bb)) (x3_0 x10_0 : Int) : Option β := Bz v fun v0 v1 => cond (decide (x10_0 < (v0.length : Int))) (Az x10_0 v0 ((F89 k (Aw v0 x10_0)).bind fun b1 => cond (!b1) (RET false) (cond (decide (0 < (v0.length : Int))) ((Xgr k (Aw v0 x10_0) (Aw v0 0)).bind fun b2 => cond (!b2) (RET false) (cond (decide (x10_0 > 0)) (Az (i64.wrap (x10_0 - 1)) v0 (cond (decide ((Aw v0 x10_0).2.2.2.2.2.1 < (i64.wrap ((Aw v0 (i64.wrap (x10_0 - 1))).2.2.2.2.2.1 + ((Aw v0 (i64.wrap (x10_0 - 1))).2.2.2.2.2.2.2.2.length : Int))))) (RET false) (cond (!(Aw v0 (i64.wrap (x10_0 - 1))).2.2.2.2.2.2.1) (RET false) (NX (i64.wrap (x3_0 + ((Aw v0 x10_0).2.2.2.2.2.2.2.2.length : Int))) (i64.wrap (x10_0 + 1)))))) (NX (i64.wrap (x3_0 + ((Aw v0 x10_0).2.2.2.2.2.2.2.2.length : Int))) (i64.wrap (x10_0 + 1))))) none))) (cond (decide ((v0.length : Int) > 0)) (cond (decide (x3_0 ≤ 48)) ((N5 k v1 0 1000000).bind fun b3 => RET b3) (RET false)) (RET false))
def Eh (k : Nat) (v : (den Bb)) : Nat → Int → Int → Option (Bool)
 | 0, _, _ => none
 | n + 1, x3_0, x10_0 => Gx (Eh k v n) some k v x3_0 x10_0
theorem Xf3 {β : Type} (k : Nat) (v : (den Bb)) (K : KT β) (n : Nat) : ∀ (x3_0 x10_0 : Int), N7 k v K n x3_0 x10_0 =
  (Eh k v n x3_0 x10_0).bind fun r => K (F267_O.put r) := by
 induction n with
 | zero => intros; rfl
 | succ n ih =>
  intro x3_0 x10_0
  refine Eq.trans (b := Gx (N7 k v K n) (fun r => K (F267_O.put r)) k v x3_0 x10_0) (by kernel_rfl) ?_
  rw [Eh]
  simp only [Gx, z1, z2, z3, z4, z5, z6, z7, z8, Bz, ih]
def Xdu {β : Type} (LP0 : Int → Int → Option β) (k : Nat) (v : (den Bb)) : Option β := LP0 0 0
def Xgk (k : Nat) (v : (den Bb)) : Option (Bool) := Xdu (Eh k v k) k v
theorem Xwe {β : Type} (k : Nat) (v : (den Bb)) (K : KT β) : Af (Ya k) Tryz.f267 (PsT.put Xen (v, ())) K = (Xgk k v).bind fun r => K (F267_O.put r) :=
 Eq.trans (b := Xdu (N7 k v K k) k v) (by kernel_rfl) (by simp only [Xgk, Xdu, z1, z2, z3, z4, z5, z6, z7, z8, Bz, Xf3])
def Xdd (k : Nat) : FD := ⟨267, Xen, F267_O, Xgk k⟩
theorem Xtg (k : Nat) : (Xdd k).Ok Tryz.prog := ⟨fun x => Ab (Aj (Ah (.c (Xls k) (.c (Xc9 k) (.c (Eb k) .n)))) _ _ _ _) Ag Tryz.func267 rfl rfl (Xwe k _ some), .of (by kernel_rfl)⟩
abbrev X4a (k : Nat) : Env := Bd (A0 [Y6 k]) Am .own [(false, 1000), (false, 1001)] k
abbrev Xl5 : List PA := [.agg (.pair (.sl .ro Ak) mI), .p (.pair (.sl .ro Ak) mI)]
abbrev F269_O : RO := ⟨[.v], [mB, .pair (.sl .ro Ak) mI]⟩
def Xet {β : Type} (RET : (Bool × (den Bb)) → Option β) (k : Nat) (v w : (den Bb)) : Option β := cond (decide (0 < (v.1.length : Int))) (cond (decide (0 < (w.1.length : Int))) ((Xgr k (Aw v.1 0) (Aw w.1 0)).bind fun b1 => RET (b1, w)) none) none
def Xv4 := Xet (β := Bool × (den Bb)) some
theorem Xxt {β : Type} (k : Nat) (v w : (den Bb)) (K : KT β) : Af (X4a k) Tryz.f269 (PsT.put Xl5 (v, w, ())) K = (Xv4 k v w).bind fun r => K (F269_O.put r) :=
 Eq.trans (b := Xet (fun r => K (F269_O.put r)) k v w) (by kernel_rfl) (by simp only [Xv4, Xet, z1, z2, z3, z4, z5, z6, z7, z8, Bz])
def Xqd (k : Nat) : FD := ⟨269, Xl5, F269_O, Xv4 k⟩
theorem X59 (k : Nat) : (Xqd k).Ok Tryz.prog := ⟨fun x => Ab (Aj (Ah (.c (Xc9 k) .n)) _ _ _ _) Ag Tryz.func269 rfl rfl (Xxt k _ _ some), .of (by kernel_rfl)⟩
def X7a : Nat → Hint
 | 0 => ⟨pl 0 2 (pl 7 2 []), pl 1100 2 []⟩
 | _ => ⟨[], []⟩
abbrev Yg (k : Nat) : Env := { Bd (A0 [Xqd k]) X7a .own [(false, 1100), (false, 1101)] k with frz := [15] }
abbrev Xdb : List PA := [.one (.sl .ro Bb), .fc 269 [.pair (.sl .ro Ak) mI]]
abbrev F215_O : RO := ⟨[.v], [mI, .pair (.sl .ro Ak) mI]⟩
noncomputable def X78 {β : Type} (k : Nat) (v : Ai) (wx : (den Bb)) (K : KT β) : Ex → St → Option β := Bx (Yg k) Tryz.f215 (PsT.put Xdb (v, (wx, ()), ())) K
def Xy4 (v : Ai) (wx : (den Bb)) (x8_0 : Int) (m1100_0 : (den Bb)) : St := ⟨(.one (.s .ro Bb v)) :: (.one (.fn 269 [((.cell 1100), 2, 0)])) :: dz 5 ((.one (vI (v.length : Int))) :: (.one (vI x8_0)) :: dz 10 []), Cj 1100 (Jb (.pair (.sl .ro Ak) mI) m1100_0) []⟩
noncomputable def O0 {β : Type} (k : Nat) (v : Ai) (wx : (den Bb)) (K : KT β) (n : Nat) (x8_0 : Int) (m1100_0 : (den Bb)) : Option β := A7 (Yg k) Tryz.f215 [1, 0, 1, 0] 0 (Ap (Yg k) [1, 0, 1, 0] (Ar Tryz.f215) 0 (X78 k v wx K)) n (Xy4 v wx x8_0 m1100_0)
def Pz {β : Type} (NX : Int → (den Bb) → Option β) (RET : (Int × (den Bb)) → Option β) (k : Nat) (v : Ai) (wx : (den Bb)) (x8_0 : Int) (m1100_0 : (den Bb)) : Option β := cond (decide (x8_0 < (v.length : Int))) (Az x8_0 v ((Xv4 k (Aw v x8_0) m1100_0).bind fun b1 => cond b1.1 (RET (x8_0, b1.2)) (NX (i64.wrap (x8_0 + 1)) b1.2))) (RET ((-1), m1100_0))
def Jz (k : Nat) (v : Ai) (wx : (den Bb)) : Nat → Int → (den Bb) → Option (Int × (den Bb))
 | 0, _, _ => none
 | n + 1, x8_0, m1100_0 => Pz (Jz k v wx n) some k v wx x8_0 m1100_0
theorem Xd8 {β : Type} (k : Nat) (v : Ai) (wx : (den Bb)) (K : KT β) (n : Nat) : ∀ (x8_0 : Int) (m1100_0 : (den Bb)), O0 k v wx K n x8_0 m1100_0 =
  (Jz k v wx n x8_0 m1100_0).bind fun r => K (F215_O.put r) := by
 induction n with
 | zero => intros; rfl
 | succ n ih =>
  intro x8_0 m1100_0
  refine Eq.trans (b := Pz (O0 k v wx K n) (fun r => K (F215_O.put r)) k v wx x8_0 m1100_0) (by kernel_rfl) ?_
  rw [Jz]
  simp only [Pz, z1, z2, z3, z4, z5, z6, z7, z8, Bz, ih]
def Zm {β : Type} (LP0 : Int → (den Bb) → Option β) (k : Nat) (v : Ai) (wx : (den Bb)) : Option β := LP0 0 wx
def Xlq (k : Nat) (v : Ai) (wx : (den Bb)) : Option (Int × (den Bb)) := Zm (Jz k v wx k) k v wx
theorem Xu2 {β : Type} (k : Nat) (v : Ai) (wx : (den Bb)) (K : KT β) : Af (Yg k) Tryz.f215 (PsT.put Xdb (v, (wx, ()), ())) K = (Xlq k v wx).bind fun r => K (F215_O.put r) :=
 Eq.trans (b := Zm (O0 k v wx K k) k v wx) (by kernel_rfl) (by simp only [Xlq, Zm, z1, z2, z3, z4, z5, z6, z7, z8, Bz, Xd8])
def Xqj (k : Nat) : FD := ⟨215, Xdb, F215_O, Xlq k⟩
theorem X4c (k : Nat) : (Xqj k).Ok Tryz.prog := ⟨fun x => Ab (Tt [15] (Ah (.c (X59 k) .n)) _ _ _ _) Ag Tryz.func215 rfl rfl (Xu2 k _ _ some), .of (by kernel_rfl)⟩
abbrev X06 (k : Nat) : Env := Bd (A0 [Xqj k]) Am .own [(false, 1100), (false, 1101)] k
abbrev Xlw : List PA := [.one (.sl .ro Bb), .fc 269 [.pair (.sl .ro Ak) mI]]
abbrev F268_O : RO := ⟨[.v], [mB, .pair (.sl .ro Ak) mI]⟩
def Xk8 (k : Nat) (v : Ai) (wx : (den Bb)) : Option (Bool × (den Bb)) := (Xlq k v wx).bind fun b1 => some (decide (b1.1 ≥ 0), b1.2)
theorem Xx7 {β : Type} (k : Nat) (v : Ai) (wx : (den Bb)) (K : KT β) : Af (X06 k) Tryz.f268 (PsT.put Xlw (v, (wx, ()), ())) K = (Xk8 k v wx).bind fun r => K (F268_O.put r) :=
 Eq.trans (b := (Xlq k v wx).bind fun b1 => K (F268_O.put (decide (b1.1 ≥ 0), b1.2))) (by kernel_rfl) (by simp only [Xk8, z1, z2, z3, z4, z5, z6, z7, z8, Bz])
def Xsq (k : Nat) : FD := ⟨268, Xlw, F268_O, Xk8 k⟩
theorem X3w (k : Nat) : (Xsq k).Ok Tryz.prog := ⟨fun x => Ab (Aj (Ah (.c (X4c k) .n)) _ _ _ _) Ag Tryz.func268 rfl rfl (Xx7 k _ _ some), .of (by kernel_rfl)⟩
def X09 : Nat → Hint
 | 0 => ⟨pl 0 1 (pl 5 3 []), []⟩
 | _ => ⟨[], []⟩
abbrev Z1 (k : Nat) : Env := Bd (A0 [Xdd k, Xsq k]) X09 .own [] k
abbrev Xdh : List PA := [.one (.sl .ro Bb)]
abbrev F210_O : RO := ⟨[.v], [mB]⟩
noncomputable def X05 {β : Type} (k : Nat) (v : Ai) (K : KT β) : Ex → St → Option β := Bx (Z1 k) Tryz.f210 (PsT.put Xdh (v, ())) K
def Xyi (v : Ai) (x7_0 : Int) : St := ⟨(.one (.s .ro Bb v)) :: dz 4 ((.one (.s .ro Bb v)) :: (.one (vI (v.length : Int))) :: (.one (vI x7_0)) :: dz 18 []), []⟩
noncomputable def Od {β : Type} (k : Nat) (v : Ai) (K : KT β) (n : Nat) (x7_0 : Int) : Option β := A7 (Z1 k) Tryz.f210 [1, 0, 1, 0] 0 (Ap (Z1 k) [1, 0, 1, 0] (Ar Tryz.f210) 0 (X05 k v K)) n (Xyi v x7_0)
def Gz {β : Type} (NX : Int → Option β) (RET : Bool → Option β) (k : Nat) (v : Ai) (x7_0 : Int) : Option β := cond (decide (x7_0 < (v.length : Int))) (Az x7_0 v ((Xgk k (Aw v x7_0)).bind fun b1 => cond (!b1) (RET false) (cond (decide (0 ≤ x7_0) && decide (x7_0 ≤ (v.length : Int))) ((Xk8 k (v.take x7_0.toNat) (Aw v x7_0)).bind fun b2 => cond b2.1 (RET false) (NX (i64.wrap (x7_0 + 1)))) none))) (RET (decide ((v.length : Int) ≤ 3)))
def Hm (k : Nat) (v : Ai) : Nat → Int → Option (Bool)
 | 0, _ => none
 | n + 1, x7_0 => Gz (Hm k v n) some k v x7_0
theorem Xep {β : Type} (k : Nat) (v : Ai) (K : KT β) (n : Nat) : ∀ (x7_0 : Int), Od k v K n x7_0 =
  (Hm k v n x7_0).bind fun r => K (F210_O.put r) := by
 induction n with
 | zero => intros; rfl
 | succ n ih =>
  intro x7_0
  refine Eq.trans (b := Gz (Od k v K n) (fun r => K (F210_O.put r)) k v x7_0) (by kernel_rfl) ?_
  rw [Hm]
  simp only [Gz, z1, z2, z3, z4, z5, z6, z7, z8, ih]
def Ud {β : Type} (LP0 : Int → Option β) (k : Nat) (v : Ai) : Option β := LP0 0
def Xcq (k : Nat) (v : Ai) : Option (Bool) := Ud (Hm k v k) k v
theorem Xx0 {β : Type} (k : Nat) (v : Ai) (K : KT β) : Af (Z1 k) Tryz.f210 (PsT.put Xdh (v, ())) K = (Xcq k v).bind fun r => K (F210_O.put r) :=
 Eq.trans (b := Ud (Od k v K k) k v) (by kernel_rfl) (by simp only [Xcq, Ud, z1, z2, z3, z4, z5, z6, z7, z8, Xep])
def Xqs (k : Nat) : FD := ⟨210, Xdh, F210_O, Xcq k⟩
theorem X6r (k : Nat) : (Xqs k).Ok Tryz.prog := ⟨fun x => Ab (Aj (Ah (.c (Xtg k) (.c (X3w k) .n))) _ _ _ _) Ag Tryz.func210 rfl rfl (Xx0 k _ some), .of (by kernel_rfl)⟩
abbrev X6a (k : Nat) : Env := Bd (A0 [Xcr k]) Am .own [] k
abbrev Xp5 : List PA := [.agg (.pair (.sl .ro Ak) mI)]
abbrev F270_O : RO := ⟨[.a], [.pair (.sl .own Ak) mI]⟩
def R9 (k : Nat) (v : (den Bb)) : Option ((den Bb)) := (Q2 k v.1).bind fun b1 => some (b1, v.2)
theorem Xvh {β : Type} (k : Nat) (v : (den Bb)) (K : KT β) : Af (X6a k) Tryz.f270 (PsT.put Xp5 (v, ())) K = (R9 k v).bind fun r => K (F270_O.put r) :=
 Eq.trans (b := (Q2 k v.1).bind fun b1 => K (F270_O.put (b1, v.2))) (by kernel_rfl) (by simp only [R9, z1, z2, z3, z4, z5, z6, z7, z8, Bz])
def Xga (k : Nat) : FD := ⟨270, Xp5, F270_O, R9 k⟩
theorem Xmt (k : Nat) : (Xga k).Ok Tryz.prog := ⟨fun x => Ab (Aj (Ah (.c (Xp3 k) .n)) _ _ _ _) Ag Tryz.func270 rfl rfl (Xvh k _ some), .of (by kernel_rfl)⟩
abbrev X6z (k : Nat) : Env := Bd Bq Am .own [] k
abbrev Xp4 : List PA := [.one (.sl .own Bb)]
abbrev F271_O : RO := ⟨[.v], [.sl .own Bb]⟩
def Xc6 {β : Type} (RET : Ai → Option β) (k : Nat) (v : Ai) : Option β := cond (decide (0 ≤ (v.length : Int)) && decide ((v.length : Int) ≤ (v.length : Int))) (cond (decide ((v.length : Int) = (v.length : Int))) (RET ((v.take ((v.length : Int).toNat)).drop 0)) none) none
def Xyw := Xc6 (β := Ai) some
theorem Xzd {β : Type} (k : Nat) (v : Ai) (K : KT β) : Af (X6z k) Tryz.f271 (PsT.put Xp4 (v, ())) K = (Xyw k v).bind fun r => K (F271_O.put r) :=
 Eq.trans (b := Xc6 (fun r => K (F271_O.put r)) k v) (by kernel_rfl) (by simp only [Xyw, Xc6, z1, z2, z3, z4, z5, z6, z7, z8])
def Xoc (k : Nat) : FD := ⟨271, Xp4, F271_O, Xyw k⟩
theorem X33 (k : Nat) : (Xoc k).Ok Tryz.prog := ⟨fun x => Ab (Aj .none _ _ _ _) Ag Tryz.func271 rfl rfl (Xzd k _ some), .of (by kernel_rfl)⟩
def X4e : Nat → Hint
 | 0 => ⟨(3, .own .own Bb []) :: (pl 6 3 []), []⟩
 | _ => ⟨[], []⟩
abbrev Zt (k : Nat) : Env := Bd (A0 [Xga k, Xoc k]) X4e .own [] k
abbrev Xfs : List PA := [.one (.sl .ro Bb)]
abbrev F212_O : RO := ⟨[.v], [.sl .own Bb]⟩
noncomputable def X43 {β : Type} (k : Nat) (v : Ai) (K : KT β) : Ex → St → Option β := Bx (Zt k) Tryz.f212 (PsT.put Xfs (v, ())) K
def Xvd (v : Ai) (x8_0 : Int) (m3900_0 : Ai) : St := ⟨dz 3 ((.one (.a (.cell 3900) 0 0 none)) :: (.one .d) :: (.one .d) :: (.one (.s .ro Bb v)) :: (.one (vI (v.length : Int))) :: (.one (vI x8_0)) :: dz 11 []), [eM 3900 (.s .own Bb m3900_0)]⟩
noncomputable def P5 {β : Type} (k : Nat) (v : Ai) (K : KT β) (n : Nat) (x8_0 : Int) (m3900_0 : Ai) : Option β := A7 (Zt k) Tryz.f212 [1, 1, 0, 1, 0] 0 (Ap (Zt k) [1, 1, 0, 1, 0] (Ar Tryz.f212) 0 (X43 k v K)) n (Xvd v x8_0 m3900_0)
def Er {β : Type} (NX : Int → Ai → Option β) (RET : Ai → Option β) (k : Nat) (v : Ai) (x8_0 : Int) (m3900_0 : Ai) : Option β := cond (decide (x8_0 < (v.length : Int))) (Az x8_0 v ((R9 k (Aw v x8_0)).bind fun b1 => Bi (m3900_0.length) ([b1].length) 32 (NX (i64.wrap (x8_0 + 1)) (m3900_0 ++ [b1])))) ((Xyw k m3900_0).bind fun b2 => RET b2)
def Hu (k : Nat) (v : Ai) : Nat → Int → Ai → Option (Ai)
 | 0, _, _ => none
 | n + 1, x8_0, m3900_0 => Er (Hu k v n) some k v x8_0 m3900_0
theorem Xdp {β : Type} (k : Nat) (v : Ai) (K : KT β) (n : Nat) : ∀ (x8_0 : Int) (m3900_0 : Ai), P5 k v K n x8_0 m3900_0 =
  (Hu k v n x8_0 m3900_0).bind fun r => K (F212_O.put r) := by
 induction n with
 | zero => intros; rfl
 | succ n ih =>
  intro x8_0 m3900_0
  refine Eq.trans (b := Er (P5 k v K n) (fun r => K (F212_O.put r)) k v x8_0 m3900_0) (by kernel_rfl) ?_
  rw [Hu]
  simp only [Er, z1, z2, z3, z4, z5, z6, z7, z8, ih]
def Ub {β : Type} (LP0 : Int → Ai → Option β) (k : Nat) (v : Ai) : Option β := LP0 0 []
def O3 (k : Nat) (v : Ai) : Option (Ai) := Ub (Hu k v k) k v
theorem Xxz {β : Type} (k : Nat) (v : Ai) (K : KT β) : Af (Zt k) Tryz.f212 (PsT.put Xfs (v, ())) K = (O3 k v).bind fun r => K (F212_O.put r) :=
 Eq.trans (b := Ub (P5 k v K k) k v) (by kernel_rfl) (by simp only [O3, Ub, z1, z2, z3, z4, z5, z6, z7, z8, Xdp])
def Xt6 (k : Nat) : FD := ⟨212, Xfs, F212_O, O3 k⟩
theorem X4q (k : Nat) : (Xt6 k).Ok Tryz.prog := ⟨fun x => Ab (Aj (Ah (.c (Xmt k) (.c (X33 k) .n))) _ _ _ _) Ag Tryz.func212 rfl rfl (Xxz k _ some), .of (by kernel_rfl)⟩
abbrev X57 (k : Nat) : Env := Bd Bq Am .own [(false, 1000)] k
abbrev Xnd : List PA := [.agg (.pair (.sl .ro Ak) mI), .p mI]
abbrev F213_O : RO := ⟨[.v], [mB, mI]⟩
def Xun (k : Nat) (v : (den Bb)) (w : Int) : Option (Bool × Int) := some (decide (v.2 ≤ w), w)
theorem Xzh {β : Type} (k : Nat) (v : (den Bb)) (w : Int) (K : KT β) : Af (X57 k) Tryz.f213 (PsT.put Xnd (v, w, ())) K = (Xun k v w).bind fun r => K (F213_O.put r) :=
 Eq.trans (b := K (F213_O.put (decide (v.2 ≤ w), w))) (by kernel_rfl) (by simp only [Xun, z1, z2, z3, z4, z5, z6, z7, z8, Bz])
def Xnt (k : Nat) : FD := ⟨213, Xnd, F213_O, Xun k⟩
theorem X6u (k : Nat) : (Xnt k).Ok Tryz.prog := ⟨fun x => Ab (Aj .none _ _ _ _) Ag Tryz.func213 rfl rfl (Xzh k _ _ some), .of (by kernel_rfl)⟩
end
end Go.Proofs.YtdmepjjepogddaaGreat.Gn
end

section
set_option linter.unusedVariables false
set_option linter.unusedSimpArgs false
namespace Go.Proofs.YtdmepjjepogddaaGreat.Gn
open Go.Rf IntKind
noncomputable section
def Xn9 : Nat → Hint
 | 0 => ⟨pl 0 2 (pl 7 2 []), (0, .own .sown Bb []) :: (pl 1100 1 [])⟩
 | _ => ⟨[], []⟩
abbrev Nl (k : Nat) : Env := { Bd (A0 [Xnt k]) Xn9 .own [(true, 0), (false, 1100)] k with frz := [15] }
abbrev T1 : List PA := [.one (.lent .own Bb), .fc 213 [mI]]
abbrev F215_2_O : RO := ⟨[.v], [mI, .sl .sown Bb, mI]⟩
noncomputable def Xth {β : Type} (k : Nat) (v : Ai) (wx : Int) (K : KT β) : Ex → St → Option β := Bx (Nl k) Tryz.f215 (PsT.put T1 (v, (wx, ()), ())) K
def Xkq (v : Ai) (wx : Int) (x8_0 m1100_0 : Int) : St := ⟨(.one (.a (.cell 0) 0 0 none)) :: (.one (.fn 213 [((.cell 1100), 1, 0)])) :: dz 5 ((.one (vI (v.length : Int))) :: (.one (vI x8_0)) :: dz 10 []), [eM 0 (.s .sown Bb v), iM 1100 m1100_0]⟩
noncomputable def Jg {β : Type} (k : Nat) (v : Ai) (wx : Int) (K : KT β) (n : Nat) (x8_0 m1100_0 : Int) : Option β := A7 (Nl k) Tryz.f215 [1, 0, 1, 0] 0 (Ap (Nl k) [1, 0, 1, 0] (Ar Tryz.f215) 0 (Xth k v wx K)) n (Xkq v wx x8_0 m1100_0)
def C7 {β : Type} (NX : Int → Int → Option β) (RET : (Int × Ai × Int) → Option β) (k : Nat) (v : Ai) (wx : Int) (x8_0 m1100_0 : Int) : Option β := cond (decide (x8_0 < (v.length : Int))) (Az x8_0 v ((Xun k (Aw v x8_0) m1100_0).bind fun b1 => cond b1.1 (RET (x8_0, v, b1.2)) (NX (i64.wrap (x8_0 + 1)) b1.2))) (RET ((-1), v, m1100_0))
def Du (k : Nat) (v : Ai) (wx : Int) : Nat → Int → Int → Option (Int × Ai × Int)
 | 0, _, _ => none
 | n + 1, x8_0, m1100_0 => C7 (Du k v wx n) some k v wx x8_0 m1100_0
theorem Yq {β : Type} (k : Nat) (v : Ai) (wx : Int) (K : KT β) (n : Nat) : ∀ (x8_0 m1100_0 : Int), Jg k v wx K n x8_0 m1100_0 =
  (Du k v wx n x8_0 m1100_0).bind fun r => K (F215_2_O.put r) := by
 induction n with
 | zero => intros; rfl
 | succ n ih =>
  intro x8_0 m1100_0
  refine Eq.trans (b := C7 (Jg k v wx K n) (fun r => K (F215_2_O.put r)) k v wx x8_0 m1100_0) (by kernel_rfl) ?_
  rw [Du]
  simp only [C7, z1, z2, z3, z4, z5, z6, z7, z8, ih]
def I1 {β : Type} (LP0 : Int → Int → Option β) (k : Nat) (v : Ai) (wx : Int) : Option β := LP0 0 wx
def Ik (k : Nat) (v : Ai) (wx : Int) : Option (Int × Ai × Int) := I1 (Du k v wx k) k v wx
theorem Xkn {β : Type} (k : Nat) (v : Ai) (wx : Int) (K : KT β) : Af (Nl k) Tryz.f215 (PsT.put T1 (v, (wx, ()), ())) K = (Ik k v wx).bind fun r => K (F215_2_O.put r) :=
 Eq.trans (b := I1 (Jg k v wx K k) k v wx) (by kernel_rfl) (by simp only [Ik, I1, z1, z2, z3, z4, z5, z6, z7, z8, Yq])
def Xbl (k : Nat) : FD := ⟨215, T1, F215_2_O, Ik k⟩
theorem Xny (k : Nat) : (Xbl k).Ok Tryz.prog := ⟨fun x => Ab (Tt [15] (Ah (.c (X6u k) .n)) _ _ _ _) Ag Tryz.func215 rfl rfl (Xkn k _ _ some), .of (by kernel_rfl)⟩
def X1b : Nat → Hint
 | 0 => ⟨[], pl 1100 1 []⟩
 | _ => ⟨[], []⟩
abbrev X1 (k : Nat) : Env := Bd (A0 [Xbl k]) X1b .own [(false, 1100)] k
abbrev Xf2 : List PA := [.one (.sl .own Bb), .fc 213 [mI]]
abbrev F211_O : RO := ⟨[.v], [.sl .sown Bb, mI]⟩
noncomputable def X7z {β : Type} (k : Nat) (v : Ai) (wx : Int) (K : KT β) : Ex → St → Option β := Bx (X1 k) Tryz.f211 (PsT.put Xf2 (v, (wx, ()), ())) K
def Xvn (v : Ai) (wx : Int) (m1100_0 : Int) : St := ⟨dz 42 [], [iM 1100 m1100_0]⟩
noncomputable def Vz {β : Type} (k : Nat) (v : Ai) (wx : Int) (K : KT β) (n : Nat) (m1100_0 : Int) : Option β := A7 (X1 k) Tryz.f211 [1, 1, 1, 0, 1, 0] 0 (Ap (X1 k) [1, 1, 1, 0, 1, 0] (Ar Tryz.f211) 0 (X7z k v wx K)) n (Xvn v wx m1100_0)
def Oq {β : Type} (k : Nat) (v : Ai) (wx : Int) (m1100_0 : Int) : Option β := none
def Yb (k : Nat) (v : Ai) (wx : Int) : Nat → Int → Option (Ai × Int)
 | 0, _ => none
 | n + 1, m1100_0 => Oq k v wx m1100_0
theorem Xgw {β : Type} (k : Nat) (v : Ai) (wx : Int) (K : KT β) (n : Nat) : ∀ (m1100_0 : Int), Vz k v wx K n m1100_0 =
  (Yb k v wx n m1100_0).bind fun r => K (F211_O.put r) := by
 induction n with
 | zero => intros; rfl
 | succ n ih =>
  intro m1100_0
  refine Eq.trans (b := Oq k v wx m1100_0) (by kernel_rfl) ?_
  rw [Yb]
  simp only [Oq, z1, z2, z3, z4, z5, z6, z7, z8, ih]
def Td {β : Type} (LP0 : Int → Option β) (RET : (Ai × Int) → Option β) (k : Nat) (v : Ai) (wx : Int) : Option β := (Ik k v wx).bind fun b1 => cond (b1.1 == (-1)) (RET b1.2) (LP0 b1.2.2)
def Xaj (k : Nat) (v : Ai) (wx : Int) : Option (Ai × Int) := Td (Yb k v wx k) some k v wx
theorem Xwc {β : Type} (k : Nat) (v : Ai) (wx : Int) (K : KT β) : Af (X1 k) Tryz.f211 (PsT.put Xf2 (v, (wx, ()), ())) K = (Xaj k v wx).bind fun r => K (F211_O.put r) :=
 Eq.trans (b := Td (Vz k v wx K k) (fun r => K (F211_O.put r)) k v wx) (by kernel_rfl) (by simp only [Xaj, Td, z1, z2, z3, z4, z5, z6, z7, z8, Xgw])
def Xo4 (k : Nat) : FD := ⟨211, Xf2, F211_O, Xaj k⟩
theorem X1c (k : Nat) : (Xo4 k).Ok Tryz.prog := ⟨fun x => Ab (Aj (Ah (.c (Xny k) .n)) _ _ _ _) Ag Tryz.func211 rfl rfl (Xwc k _ _ some), .of (by kernel_rfl)⟩
abbrev X6x (k : Nat) : Env := Bd (A0 [Y6 k]) Am .own [(false, 1000), (false, 1001), (false, 1002), (false, 1003), (false, 1004), (false, 1005), (false, 1006), (false, 1007), (false, 1008)] k
abbrev Xm6 : List PA := [.agg (.pair (.sl .ro Ak) mI), .p (.pair mI Ka)]
abbrev F216_O : RO := ⟨[.v], [mB, .pair mI Ka]⟩
def Xc {β : Type} (RET : (Bool × (den Ak)) → Option β) (k : Nat) (v : (den Bb)) (w : (den Ak)) : Option β := cond (decide (0 < (v.1.length : Int))) ((Xgr k (Aw v.1 0) w).bind fun b1 => RET (b1, w)) none
def Xld := Xc (β := Bool × (den Ak)) some
theorem Xxx {β : Type} (k : Nat) (v : (den Bb)) (w : (den Ak)) (K : KT β) : Af (X6x k) Tryz.f216 (PsT.put Xm6 (v, w, ())) K = (Xld k v w).bind fun r => K (F216_O.put r) :=
 Eq.trans (b := Xc (fun r => K (F216_O.put r)) k v w) (by kernel_rfl) (by simp only [Xld, Xc, z1, z2, z3, z4, z5, z6, z7, z8, A5, Bz])
def Xns (k : Nat) : FD := ⟨216, Xm6, F216_O, Xld k⟩
theorem X1d (k : Nat) : (Xns k).Ok Tryz.prog := ⟨fun x => Ab (Aj (Ah (.c (Xc9 k) .n)) _ _ _ _) Ag Tryz.func216 rfl rfl (Xxx k _ _ some), .of (by kernel_rfl)⟩
def Xr6 : Nat → Hint
 | 0 => ⟨pl 0 2 (pl 7 2 []), pl 0 1 (pl 1100 9 [])⟩
 | _ => ⟨[], []⟩
abbrev Mx (k : Nat) : Env := { Bd (A0 [Xns k]) Xr6 .own [(true, 0), (false, 1100), (false, 1101), (false, 1102), (false, 1103), (false, 1104), (false, 1105), (false, 1106), (false, 1107), (false, 1108)] k with frz := [15] }
abbrev Tw : List PA := [.one (.lent .sown Bb), .fc 216 [.pair mI Ka]]
abbrev F215_3_O : RO := ⟨[.v], [mI, .sl .sown Bb, .pair mI Ka]⟩
noncomputable def Xtd {β : Type} (k : Nat) (v : Ai) (wx : (den Ak)) (K : KT β) : Ex → St → Option β := Bx (Mx k) Tryz.f215 (PsT.put Tw (v, (wx, ()), ())) K
def Xkj (v : Ai) (wx : (den Ak)) (x8_0 : Int) (m1100_0 : (den Ak)) : St := ⟨(.one (.a (.cell 0) 0 0 none)) :: (.one (.fn 216 [((.cell 1100), 9, 0)])) :: dz 5 ((.one (vI (v.length : Int))) :: (.one (vI x8_0)) :: dz 10 []), (eM 0 (.s .sown Bb v)) :: (Cj 1100 (Jb (.pair mI Ka) m1100_0) [])⟩
noncomputable def Im {β : Type} (k : Nat) (v : Ai) (wx : (den Ak)) (K : KT β) (n : Nat) (x8_0 : Int) (m1100_0 : (den Ak)) : Option β := A7 (Mx k) Tryz.f215 [1, 0, 1, 0] 0 (Ap (Mx k) [1, 0, 1, 0] (Ar Tryz.f215) 0 (Xtd k v wx K)) n (Xkj v wx x8_0 m1100_0)
def D0 {β : Type} (NX : Int → (den Ak) → Option β) (RET : (Int × Ai × (den Ak)) → Option β) (k : Nat) (v : Ai) (wx : (den Ak)) (x8_0 : Int) (m1100_0 : (den Ak)) : Option β := cond (decide (x8_0 < (v.length : Int))) (Az x8_0 v ((Xld k (Aw v x8_0) m1100_0).bind fun b1 => cond b1.1 (RET (x8_0, v, b1.2)) (NX (i64.wrap (x8_0 + 1)) b1.2))) (RET ((-1), v, m1100_0))
def Et (k : Nat) (v : Ai) (wx : (den Ak)) : Nat → Int → (den Ak) → Option (Int × Ai × (den Ak))
 | 0, _, _ => none
 | n + 1, x8_0, m1100_0 => D0 (Et k v wx n) some k v wx x8_0 m1100_0
theorem We {β : Type} (k : Nat) (v : Ai) (wx : (den Ak)) (K : KT β) (n : Nat) : ∀ (x8_0 : Int) (m1100_0 : (den Ak)), Im k v wx K n x8_0 m1100_0 =
  (Et k v wx n x8_0 m1100_0).bind fun r => K (F215_3_O.put r) := by
 induction n with
 | zero => intros; rfl
 | succ n ih =>
  intro x8_0 m1100_0
  refine Eq.trans (b := D0 (Im k v wx K n) (fun r => K (F215_3_O.put r)) k v wx x8_0 m1100_0) (by kernel_rfl) ?_
  rw [Et]
  simp only [D0, z1, z2, z3, z4, z5, z6, z7, z8, A5, ih]
def Jk {β : Type} (LP0 : Int → (den Ak) → Option β) (k : Nat) (v : Ai) (wx : (den Ak)) : Option β := LP0 0 wx
def Jd (k : Nat) (v : Ai) (wx : (den Ak)) : Option (Int × Ai × (den Ak)) := Jk (Et k v wx k) k v wx
theorem Xj5 {β : Type} (k : Nat) (v : Ai) (wx : (den Ak)) (K : KT β) : Af (Mx k) Tryz.f215 (PsT.put Tw (v, (wx, ()), ())) K = (Jd k v wx).bind fun r => K (F215_3_O.put r) :=
 Eq.trans (b := Jk (Im k v wx K k) k v wx) (by kernel_rfl) (by simp only [Jd, Jk, z1, z2, z3, z4, z5, z6, z7, z8, A5, We])
def Z8 (k : Nat) : FD := ⟨215, Tw, F215_3_O, Jd k⟩
theorem Xm1 (k : Nat) : (Z8 k).Ok Tryz.prog := ⟨fun x => Ab (Tt [15] (Ah (.c (X1d k) .n)) _ _ _ _) Ag Tryz.func215 rfl rfl (Xj5 k _ _ some), .of (by kernel_rfl)⟩
abbrev X6j (k : Nat) : Env := Bd (A0 [Xcw k]) Am .own [(false, 1000), (false, 1001), (false, 1002), (false, 1003), (false, 1004), (false, 1005), (false, 1006), (false, 1007), (false, 1008)] k
abbrev Xt0 : List PA := [.agg (.pair mI Ka), .p (.pair mI Ka)]
abbrev F273_O : RO := ⟨[.v], [mB, .pair mI Ka]⟩
def Y7 {β : Type} (RET : (Bool × (den Ak)) → Option β) (k : Nat) (v w : (den Ak)) : Option β := cond (v.2.2.2.2.2.1 == w.2.2.2.2.2.1) (cond (v.2.2.2.2.2.2.1 == w.2.2.2.2.2.2.1) ((Xe4 k v.2.2.2.2.2.2.2.2 w.2.2.2.2.2.2.2.2).bind fun b1 => RET (b1, w)) (RET (false, w))) (RET (false, w))
def Xk6 := Y7 (β := Bool × (den Ak)) some
theorem Xy8 {β : Type} (k : Nat) (v w : (den Ak)) (K : KT β) : Af (X6j k) Tryz.f273 (PsT.put Xt0 (v, w, ())) K = (Xk6 k v w).bind fun r => K (F273_O.put r) :=
 Eq.trans (b := Y7 (fun r => K (F273_O.put r)) k v w) (by kernel_rfl) (by simp only [Xk6, Y7, z1, z2, z3, z4, z5, z6, z7, z8, A5])
def Xpz (k : Nat) : FD := ⟨273, Xt0, F273_O, Xk6 k⟩
theorem X47 (k : Nat) : (Xpz k).Ok Tryz.prog := ⟨fun x => Ab (Aj (Ah (.c (Xsu k) .n)) _ _ _ _) Ag Tryz.func273 rfl rfl (Xy8 k _ _ some), .of (by kernel_rfl)⟩
def X70 : Nat → Hint
 | 0 => ⟨pl 0 2 (pl 7 2 []), pl 1100 9 []⟩
 | _ => ⟨[], []⟩
abbrev Wn (k : Nat) : Env := Bd (A0 [Xpz k]) X70 .own [(false, 1100), (false, 1101), (false, 1102), (false, 1103), (false, 1104), (false, 1105), (false, 1106), (false, 1107), (false, 1108)] k
abbrev Xfj : List PA := [.one (.sl .ro Ak), .fc 273 [.pair mI Ka]]
abbrev F274_O : RO := ⟨[.v], [mI, .pair mI Ka]⟩
noncomputable def X68 {β : Type} (k : Nat) (v : Al) (wx : (den Ak)) (K : KT β) : Ex → St → Option β := Bx (Wn k) Tryz.f274 (PsT.put Xfj (v, (wx, ()), ())) K
def Xy1 (v : Al) (wx : (den Ak)) (x8_0 : Int) (m1100_0 : (den Ak)) : St := ⟨(.one (.s .ro Ak v)) :: (.one (.fn 273 [((.cell 1100), 9, 0)])) :: dz 5 ((.one (vI (v.length : Int))) :: (.one (vI x8_0)) :: dz 10 []), Cj 1100 (Jb (.pair mI Ka) m1100_0) []⟩
noncomputable def Oe {β : Type} (k : Nat) (v : Al) (wx : (den Ak)) (K : KT β) (n : Nat) (x8_0 : Int) (m1100_0 : (den Ak)) : Option β := A7 (Wn k) Tryz.f274 [1, 0, 1, 0] 0 (Ap (Wn k) [1, 0, 1, 0] (Ar Tryz.f274) 0 (X68 k v wx K)) n (Xy1 v wx x8_0 m1100_0)
def Jy {β : Type} (NX : Int → (den Ak) → Option β) (RET : (Int × (den Ak)) → Option β) (k : Nat) (v : Al) (wx : (den Ak)) (x8_0 : Int) (m1100_0 : (den Ak)) : Option β := cond (decide (x8_0 < (v.length : Int))) (Az x8_0 v ((Xk6 k (Aw v x8_0) m1100_0).bind fun b1 => cond b1.1 (RET (x8_0, b1.2)) (NX (i64.wrap (x8_0 + 1)) b1.2))) (RET ((-1), m1100_0))
def J5 (k : Nat) (v : Al) (wx : (den Ak)) : Nat → Int → (den Ak) → Option (Int × (den Ak))
 | 0, _, _ => none
 | n + 1, x8_0, m1100_0 => Jy (J5 k v wx n) some k v wx x8_0 m1100_0
theorem Xgn {β : Type} (k : Nat) (v : Al) (wx : (den Ak)) (K : KT β) (n : Nat) : ∀ (x8_0 : Int) (m1100_0 : (den Ak)), Oe k v wx K n x8_0 m1100_0 =
  (J5 k v wx n x8_0 m1100_0).bind fun r => K (F274_O.put r) := by
 induction n with
 | zero => intros; rfl
 | succ n ih =>
  intro x8_0 m1100_0
  refine Eq.trans (b := Jy (Oe k v wx K n) (fun r => K (F274_O.put r)) k v wx x8_0 m1100_0) (by kernel_rfl) ?_
  rw [J5]
  simp only [Jy, z1, z2, z3, z4, z5, z6, z7, z8, A5, ih]
def Xdv {β : Type} (LP0 : Int → (den Ak) → Option β) (k : Nat) (v : Al) (wx : (den Ak)) : Option β := LP0 0 wx
def Xn7 (k : Nat) (v : Al) (wx : (den Ak)) : Option (Int × (den Ak)) := Xdv (J5 k v wx k) k v wx
theorem Xwk {β : Type} (k : Nat) (v : Al) (wx : (den Ak)) (K : KT β) : Af (Wn k) Tryz.f274 (PsT.put Xfj (v, (wx, ()), ())) K = (Xn7 k v wx).bind fun r => K (F274_O.put r) :=
 Eq.trans (b := Xdv (Oe k v wx K k) k v wx) (by kernel_rfl) (by simp only [Xn7, Xdv, z1, z2, z3, z4, z5, z6, z7, z8, A5, Xgn])
def Xmm (k : Nat) : FD := ⟨274, Xfj, F274_O, Xn7 k⟩
theorem X2p (k : Nat) : (Xmm k).Ok Tryz.prog := ⟨fun x => Ab (Aj (Ah (.c (X47 k) .n)) _ _ _ _) Ag Tryz.func274 rfl rfl (Xwk k _ _ some), .of (by kernel_rfl)⟩
abbrev X1n (k : Nat) : Env := Bd (A0 [Xmm k]) Am .own [(false, 1100), (false, 1101), (false, 1102), (false, 1103), (false, 1104), (false, 1105), (false, 1106), (false, 1107), (false, 1108)] k
abbrev Xrj : List PA := [.one (.sl .ro Ak), .fc 273 [.pair mI Ka]]
abbrev F272_O : RO := ⟨[.v], [mB, .pair mI Ka]⟩
def Xkh (k : Nat) (v : Al) (wx : (den Ak)) : Option (Bool × (den Ak)) := (Xn7 k v wx).bind fun b1 => some (decide (b1.1 ≥ 0), b1.2)
theorem Xy9 {β : Type} (k : Nat) (v : Al) (wx : (den Ak)) (K : KT β) : Af (X1n k) Tryz.f272 (PsT.put Xrj (v, (wx, ()), ())) K = (Xkh k v wx).bind fun r => K (F272_O.put r) :=
 Eq.trans (b := (Xn7 k v wx).bind fun b1 => K (F272_O.put (decide (b1.1 ≥ 0), b1.2))) (by kernel_rfl) (by simp only [Xkh, z1, z2, z3, z4, z5, z6, z7, z8, A5])
def Xqe (k : Nat) : FD := ⟨272, Xrj, F272_O, Xkh k⟩
theorem X1m (k : Nat) : (Xqe k).Ok Tryz.prog := ⟨fun x => Ab (Aj (Ah (.c (X2p k) .n)) _ _ _ _) Ag Tryz.func272 rfl rfl (Xy9 k _ _ some), .of (by kernel_rfl)⟩
abbrev X77 (k : Nat) : Env := Bd Bq Am .own [(false, 1000), (false, 1001), (false, 1002), (false, 1003), (false, 1004), (false, 1005), (false, 1006), (false, 1007), (false, 1008)] k
abbrev Xsk : List PA := [.agg (.pair mI Ka), .p (.pair mI Ka)]
abbrev F275_O : RO := ⟨[.v], [mB, .pair mI Ka]⟩
def Xle (k : Nat) (v w : (den Ak)) : Option (Bool × (den Ak)) := some (decide (v.2.2.2.2.2.1 > w.2.2.2.2.2.1), w)
theorem Xvg {β : Type} (k : Nat) (v w : (den Ak)) (K : KT β) : Af (X77 k) Tryz.f275 (PsT.put Xsk (v, w, ())) K = (Xle k v w).bind fun r => K (F275_O.put r) :=
 Eq.trans (b := K (F275_O.put (decide (v.2.2.2.2.2.1 > w.2.2.2.2.2.1), w))) (by kernel_rfl) (by simp only [Xle, z1, z2, z3, z4, z5, z6, z7, z8, A5])
def Xsy (k : Nat) : FD := ⟨275, Xsk, F275_O, Xle k⟩
theorem X2k (k : Nat) : (Xsy k).Ok Tryz.prog := ⟨fun x => Ab (Aj .none _ _ _ _) Ag Tryz.func275 rfl rfl (Xvg k _ _ some), .of (by kernel_rfl)⟩
def Xne : Nat → Hint
 | 0 => ⟨pl 0 2 (pl 7 2 []), pl 1100 9 []⟩
 | _ => ⟨[], []⟩
abbrev N2 (k : Nat) : Env := Bd (A0 [Xsy k]) Xne .own [(false, 1100), (false, 1101), (false, 1102), (false, 1103), (false, 1104), (false, 1105), (false, 1106), (false, 1107), (false, 1108)] k
abbrev Sp : List PA := [.one (.sl .ro Ak), .fc 275 [.pair mI Ka]]
abbrev F274_2_O : RO := ⟨[.v], [mI, .pair mI Ka]⟩
noncomputable def Xtk {β : Type} (k : Nat) (v : Al) (wx : (den Ak)) (K : KT β) : Ex → St → Option β := Bx (N2 k) Tryz.f274 (PsT.put Sp (v, (wx, ()), ())) K
def Xlb (v : Al) (wx : (den Ak)) (x8_0 : Int) (m1100_0 : (den Ak)) : St := ⟨(.one (.s .ro Ak v)) :: (.one (.fn 275 [((.cell 1100), 9, 0)])) :: dz 5 ((.one (vI (v.length : Int))) :: (.one (vI x8_0)) :: dz 10 []), Cj 1100 (Jb (.pair mI Ka) m1100_0) []⟩
noncomputable def Jl {β : Type} (k : Nat) (v : Al) (wx : (den Ak)) (K : KT β) (n : Nat) (x8_0 : Int) (m1100_0 : (den Ak)) : Option β := A7 (N2 k) Tryz.f274 [1, 0, 1, 0] 0 (Ap (N2 k) [1, 0, 1, 0] (Ar Tryz.f274) 0 (Xtk k v wx K)) n (Xlb v wx x8_0 m1100_0)
def F3 {β : Type} (NX : Int → (den Ak) → Option β) (RET : (Int × (den Ak)) → Option β) (k : Nat) (v : Al) (wx : (den Ak)) (x8_0 : Int) (m1100_0 : (den Ak)) : Option β := cond (decide (x8_0 < (v.length : Int))) (Az x8_0 v ((Xle k (Aw v x8_0) m1100_0).bind fun b1 => cond b1.1 (RET (x8_0, b1.2)) (NX (i64.wrap (x8_0 + 1)) b1.2))) (RET ((-1), m1100_0))
def Ep (k : Nat) (v : Al) (wx : (den Ak)) : Nat → Int → (den Ak) → Option (Int × (den Ak))
 | 0, _, _ => none
 | n + 1, x8_0, m1100_0 => F3 (Ep k v wx n) some k v wx x8_0 m1100_0
theorem Zr {β : Type} (k : Nat) (v : Al) (wx : (den Ak)) (K : KT β) (n : Nat) : ∀ (x8_0 : Int) (m1100_0 : (den Ak)), Jl k v wx K n x8_0 m1100_0 =
  (Ep k v wx n x8_0 m1100_0).bind fun r => K (F274_2_O.put r) := by
 induction n with
 | zero => intros; rfl
 | succ n ih =>
  intro x8_0 m1100_0
  refine Eq.trans (b := F3 (Jl k v wx K n) (fun r => K (F274_2_O.put r)) k v wx x8_0 m1100_0) (by kernel_rfl) ?_
  rw [Ep]
  simp only [F3, z1, z2, z3, z4, z5, z6, z7, z8, A5, ih]
def Rx {β : Type} (LP0 : Int → (den Ak) → Option β) (k : Nat) (v : Al) (wx : (den Ak)) : Option β := LP0 0 wx
def Xr (k : Nat) (v : Al) (wx : (den Ak)) : Option (Int × (den Ak)) := Rx (Ep k v wx k) k v wx
theorem Xll {β : Type} (k : Nat) (v : Al) (wx : (den Ak)) (K : KT β) : Af (N2 k) Tryz.f274 (PsT.put Sp (v, (wx, ()), ())) K = (Xr k v wx).bind fun r => K (F274_2_O.put r) :=
 Eq.trans (b := Rx (Jl k v wx K k) k v wx) (by kernel_rfl) (by simp only [Xr, Rx, z1, z2, z3, z4, z5, z6, z7, z8, A5, Zr])
def Xbw (k : Nat) : FD := ⟨274, Sp, F274_2_O, Xr k⟩
theorem Xtz (k : Nat) : (Xbw k).Ok Tryz.prog := ⟨fun x => Ab (Aj (Ah (.c (X2k k) .n)) _ _ _ _) Ag Tryz.func274 rfl rfl (Xll k _ _ some), .of (by kernel_rfl)⟩
abbrev X1g (k : Nat) : Env := Bd Bq Am .own [] k
abbrev Xl6 : List PA := [.one (.sl .ro Ak)]
abbrev F277_O : RO := ⟨[.v], [.sl .sown Ak]⟩
def Y2 {β : Type} (RET : Al → Option β) (k : Nat) (v : Al) : Option β := cond (decide (v.length = 0)) none (Bi (([] : Al).length) (v.length) 80 (RET ([] ++ v)))
def Xeb := Y2 (β := Al) some
theorem Xvw {β : Type} (k : Nat) (v : Al) (K : KT β) : Af (X1g k) Tryz.f277 (PsT.put Xl6 (v, ())) K = (Xeb k v).bind fun r => K (F277_O.put r) :=
 Eq.trans (b := Y2 (fun r => K (F277_O.put r)) k v) (by kernel_rfl) (by simp only [Xeb, Y2, z1, z2, z3, z4, z5, z6, z7, z8])
def Xss (k : Nat) : FD := ⟨277, Xl6, F277_O, Xeb k⟩
theorem X42 (k : Nat) : (Xss k).Ok Tryz.prog := ⟨fun x => Ab (Aj .none _ _ _ _) Ag Tryz.func277 rfl rfl (Xvw k _ some), .of (by kernel_rfl)⟩
abbrev X5v (k : Nat) : Env := Bd Bq Am .own [] k
abbrev Xua : List PA := [.one (.sl .sown Ak), .one mI, .one (.sl .ro Ak)]
abbrev F276_O : RO := ⟨[.v], [.sl .sown Ak]⟩
def Wz {β : Type} (RET : Al → Option β) (k : Nat) (v : Al) (w : Int) (p : Al) : Option β := cond (decide (0 ≤ w) && decide (w ≤ (v.length : Int))) (cond ((p.length : Int) == 0) (RET v) (cond (w == (v.length : Int)) (Bi (v.length) (p.length) 80 (RET (v ++ p))) none)) none
def Xei := Wz (β := Al) some
theorem Xyz {β : Type} (k : Nat) (v : Al) (w : Int) (p : Al) (K : KT β) : Af (X5v k) Tryz.f276 (PsT.put Xua (v, w, p, ())) K = (Xei k v w p).bind fun r => K (F276_O.put r) :=
 Eq.trans (b := Wz (fun r => K (F276_O.put r)) k v w p) (by kernel_rfl) (by simp only [Xei, Wz, z1, z2, z3, z4, z5, z6, z7, z8])
def Xpy (k : Nat) : FD := ⟨276, Xua, F276_O, Xei k⟩
theorem X5a (k : Nat) : (Xpy k).Ok Tryz.prog := ⟨fun x => Ab (Aj .none _ _ _ _) Ag Tryz.func276 rfl rfl (Xyz k _ _ _ some), .of (by kernel_rfl)⟩
abbrev X5z (k : Nat) : Env := Bd (A0 [Xqe k, Xga k, Xbw k, Xss k, Xpy k, Xdd k]) Am .own [] k
abbrev Xq9 : List PA := [.agg (.pair (.sl .ro Ak) mI), .agg (.pair mI Ka)]
abbrev F218_O : RO := ⟨[.a, .v], [.pair (.sl .own Ak) mI, mB]⟩
def Yd {β : Type} (RET : (den Bb) × Bool → Option β) (k : Nat) (v : (den Bb)) (w : (den Ak)) : Option β := Bz v fun v0 v1 => (Xkh k v0 w).bind fun b1 => cond b1.1 ((R9 k v).bind fun b2 => RET (b2, true)) ((Xr k v0 b1.2).bind fun b3 => cond (decide (b3.1 < 0)) ((Xeb k v0).bind fun b4 => (Xei k b4 (v0.length : Int) [b3.2]).bind fun b5 => (Xgk k (b5, v1)).bind fun b6 => cond (!b6) (RET (([], 0), false)) ((R9 k (b5, v1)).bind fun b7 => RET (b7, true))) ((Xeb k v0).bind fun b8 => (Xei k b8 b3.1 [b3.2]).bind fun b9 => (Xgk k (b9, v1)).bind fun b10 => cond (!b10) (RET (([], 0), false)) ((R9 k (b9, v1)).bind fun b11 => RET (b11, true))))
def Xk2 := Yd (β := (den Bb) × Bool) some
theorem Xxu {β : Type} (k : Nat) (v : (den Bb)) (w : (den Ak)) (K : KT β) : Af (X5z k) Tryz.f218 (PsT.put Xq9 (v, w, ())) K = (Xk2 k v w).bind fun r => K (F218_O.put r) :=
 Eq.trans (b := Yd (fun r => K (F218_O.put r)) k v w) (by kernel_rfl) (by simp only [Xk2, Yd, z1, z2, z3, z4, z5, z6, z7, z8, A5, Bz])
def Xqw (k : Nat) : FD := ⟨218, Xq9, F218_O, Xk2 k⟩
theorem X4v (k : Nat) : (Xqw k).Ok Tryz.prog := ⟨fun x => Ab (Aj (Ah (.c (X1m k) (.c (Xmt k) (.c (Xtz k) (.c (X42 k) (.c (X5a k) (.c (Xtg k) .n))))))) _ _ _ _) Ag Tryz.func218 rfl rfl (Xxu k _ _ some), .of (by kernel_rfl)⟩
abbrev X48 : List PA := [.one (.sl .sown Bb), .one mI, .one mI]
abbrev X1a : RO := ⟨[.v], [.sl .own Bb]⟩
def Xwz (k : Nat) (v : Ai) (w p : Int) : Option (Ai) := De.del v w p
def Xom (k : Nat) : FD := ⟨219, X48, X1a, Xwz k⟩
theorem X02 (k : Nat) : (Xom k).Ok Tryz.prog := ⟨fun x => De.con x.1 x.2.1 x.2.2.1, .of (by kernel_rfl)⟩
def X6t : Nat → Hint
 | 0 => ⟨pl 1 2 (pl 4 2 (pl 15 3 [])), pl 1000 2 (pl 2000 9 (pl 4000 8 ((4008, .own .own (.int .u8) []) :: [])))⟩
 | _ => ⟨[], []⟩
abbrev Xh (k : Nat) : Env := Bd (A0 [Pd k]) X6t .own [] k
abbrev Xfu : List PA := [.agg (.pair (.sl .ro Ak) mI)]
abbrev F220_O : RO := ⟨[.a, .v], [.pair mI Xfv, mB]⟩
noncomputable def X2v {β : Type} (k : Nat) (v : (den Bb)) (K : KT β) : Ex → St → Option β := Bx (Xh k) Tryz.f220 (PsT.put Xfu (v, ())) K
def Xyd (v : (den Bb)) (x5_0 x17_0 : Int) (m4000_0 : (den Ak)) : St := ⟨(.one .d) :: (.one (.ptr (.cell 1000) 2 0)) :: (.one (.ptr (.cell 2000) 9 0)) :: (.one .d) :: (.one (.ptr (.cell 4000) 9 0)) :: (.one (vI x5_0)) :: dz 9 ((.one (.s .ro Ak v.1)) :: (.one (vI (v.1.length : Int))) :: (.one (vI x17_0)) :: dz 33 []), Cj 1000 (Jb (.pair (.sl .ro Ak) mI) v) (Cj 2000 (Jb (.pair mI Xfv) (0, 0, 0, 0, 0, 0, false, false, [])) (Cj 4000 (Jb (.pair mI Xfv) m4000_0) []))⟩
noncomputable def Oa {β : Type} (k : Nat) (v : (den Bb)) (K : KT β) (n : Nat) (x5_0 x17_0 : Int) (m4000_0 : (den Ak)) : Option β := A7 (Xh k) Tryz.f220 [1, 1, 1, 1, 0, 1, 0] 0 (Ap (Xh k) [1, 1, 1, 1, 0, 1, 0] (Ar Tryz.f220) 0 (X2v k v K)) n (Xyd v x5_0 x17_0 m4000_0)
def Gs {β : Type} (NX : Int → Int → (den Ak) → Option β) (RET : (den Ak) × Bool → Option β) (k : Nat) (v : (den Bb)) (x5_0 x17_0 : Int) (m4000_0 : (den Ak)) : Option β := Bz v fun v0 _ => cond (decide (x17_0 < (v0.length : Int))) (Az x17_0 v0 (cond ((Aw v0 x17_0).2.2.2.2.2.1 != x5_0) (RET ((0, 0, 0, 0, 0, 0, false, false, []), false)) (Bi (m4000_0.2.2.2.2.2.2.2.2.length) ((Aw v0 x17_0).2.2.2.2.2.2.2.2.length) 1 (NX (i64.wrap (x5_0 + ((Aw v0 x17_0).2.2.2.2.2.2.2.2.length : Int))) (i64.wrap (x17_0 + 1)) (m4000_0.1, m4000_0.2.1, m4000_0.2.2.1, m4000_0.2.2.2.1, m4000_0.2.2.2.2.1, m4000_0.2.2.2.2.2.1, m4000_0.2.2.2.2.2.2.1, m4000_0.2.2.2.2.2.2.2.1, m4000_0.2.2.2.2.2.2.2.2 ++ (Aw v0 x17_0).2.2.2.2.2.2.2.2))))) (Az (i64.wrap ((v0.length : Int) - 1)) v0 (cond (Aw v0 (i64.wrap ((v0.length : Int) - 1))).2.2.2.2.2.2.1 (RET ((0, 0, 0, 0, 0, 0, false, false, []), false)) ((Qy k (m4000_0.1, m4000_0.2.1, m4000_0.2.2.1, m4000_0.2.2.2.1, m4000_0.2.2.2.2.1, m4000_0.2.2.2.2.2.1, false, m4000_0.2.2.2.2.2.2.2)).bind fun b2 => RET (b2, true))))
def G7 (k : Nat) (v : (den Bb)) : Nat → Int → Int → (den Ak) → Option ((den Ak) × Bool)
 | 0, _, _, _ => none
 | n + 1, x5_0, x17_0, m4000_0 => Gs (G7 k v n) some k v x5_0 x17_0 m4000_0
theorem Xfy {β : Type} (k : Nat) (v : (den Bb)) (K : KT β) (n : Nat) : ∀ (x5_0 x17_0 : Int) (m4000_0 : (den Ak)), Oa k v K n x5_0 x17_0 m4000_0 =
  (G7 k v n x5_0 x17_0 m4000_0).bind fun r => K (F220_O.put r) := by
 induction n with
 | zero => intros; rfl
 | succ n ih =>
  intro x5_0 x17_0 m4000_0
  refine Eq.trans (b := Gs (Oa k v K n) (fun r => K (F220_O.put r)) k v x5_0 x17_0 m4000_0) (by kernel_rfl) ?_
  rw [G7]
  simp only [Gs, z1, z2, z3, z4, z5, z6, z7, z8, Bz, ih]
def Xe {β : Type} (LP0 : Int → Int → (den Ak) → Option β) (k : Nat) (v : (den Bb)) : Option β := cond (decide (0 < (v.1.length : Int))) ((Qy k (Aw v.1 0)).bind fun b1 => LP0 0 0 (b1.1, b1.2.1, b1.2.2.1, b1.2.2.2.1, b1.2.2.2.2.1, b1.2.2.2.2.2.1, b1.2.2.2.2.2.2.1, b1.2.2.2.2.2.2.2.1, [])) none
def Xky (k : Nat) (v : (den Bb)) : Option ((den Ak) × Bool) := Xe (G7 k v k) k v
theorem Xyv {β : Type} (k : Nat) (v : (den Bb)) (K : KT β) : Af (Xh k) Tryz.f220 (PsT.put Xfu (v, ())) K = (Xky k v).bind fun r => K (F220_O.put r) :=
 Eq.trans (b := Xe (Oa k v K k) k v) (by kernel_rfl) (by simp only [Xky, Xe, z1, z2, z3, z4, z5, z6, z7, z8, Bz, Xfy])
def Xqc (k : Nat) : FD := ⟨220, Xfu, F220_O, Xky k⟩
theorem X6c (k : Nat) : (Xqc k).Ok Tryz.prog := ⟨fun x => Ab (Aj (Ah (.c (Rw k) .n)) _ _ _ _) Ag Tryz.func220 rfl rfl (Xyv k _ some), .of (by kernel_rfl)⟩
abbrev X1f (k : Nat) : Env := { Bd (A0 [Xqs k, Xil k, D3 k, Xt6 k, Xo4 k, Pd k, Z8 k, Xqw k, Xom k, Xqc k]) Am .own [] k with frz := [70] }
abbrev Xpa : List PA := [.one (.sl .ro Bb), .agg (.pair mI Ka), .one mI]
abbrev F141_O : RO := ⟨[.v, .a, .v], [.sl .own Bb, .pair mI Xfv, mB]⟩
def Ng {β : Type} (k : Nat) (v : Ai) (w : (den Ak)) (p : Int) (RET : (Ai × (den Ak) × Bool) → Option β) (b5 : Ai × Int) : Option β := (Jd k b5.1 w).bind fun b8 => cond (decide (b8.1 < 0)) (Bi (b8.2.1.length) ([([b8.2.2], i64.wrap (b5.2 + 15))].length) 32 (cond (decide (0 ≤ (if 0 < (i64.wrap (((b8.2.1 ++ [([b8.2.2], i64.wrap (b5.2 + 15))]).length : Int) - 3)) then i64.wrap (((b8.2.1 ++ [([b8.2.2], i64.wrap (b5.2 + 15))]).length : Int) - 3) else 0)) && decide ((if 0 < (i64.wrap (((b8.2.1 ++ [([b8.2.2], i64.wrap (b5.2 + 15))]).length : Int) - 3)) then i64.wrap (((b8.2.1 ++ [([b8.2.2], i64.wrap (b5.2 + 15))]).length : Int) - 3) else 0) ≤ ((b8.2.1 ++ [([b8.2.2], i64.wrap (b5.2 + 15))]).length : Int))) ((O3 k (((b8.2.1 ++ [([b8.2.2], i64.wrap (b5.2 + 15))]).take ((((b8.2.1 ++ [([b8.2.2], i64.wrap (b5.2 + 15))]).length : Int)).toNat)).drop ((if 0 < (i64.wrap (((b8.2.1 ++ [([b8.2.2], i64.wrap (b5.2 + 15))]).length : Int) - 3)) then i64.wrap (((b8.2.1 ++ [([b8.2.2], i64.wrap (b5.2 + 15))]).length : Int) - 3) else 0).toNat))).bind fun b9 => RET (b9, (0, 0, 0, 0, 0, 0, false, false, []), false)) none)) (Az b8.1 b8.2.1 ((Xk2 k (Aw b8.2.1 b8.1) b8.2.2).bind fun b10 => cond (!b10.2) ((Xwz k b8.2.1 b8.1 (i64.wrap (b8.1 + 1))).bind fun b11 => (O3 k b11).bind fun b12 => RET (b12, (0, 0, 0, 0, 0, 0, false, false, []), false)) ((Xky k b10.1).bind fun b13 => cond b13.2 ((Xwz k b8.2.1 b8.1 (i64.wrap (b8.1 + 1))).bind fun b14 => (O3 k b14).bind fun b15 => RET (b15, b13.1, true)) (Az b8.1 b8.2.1 ((O3 k (b8.2.1.set b8.1.toNat b10.1)).bind fun b16 => RET (b16, (0, 0, 0, 0, 0, 0, false, false, []), false))))))
def Po {β : Type} (RET : (Ai × (den Ak) × Bool) → Option β) (k : Nat) (v : Ai) (w : (den Ak)) (p : Int) : Option β := (Xcq k v).bind fun b1 => cond (!b1) (RET ([], (0, 0, 0, 0, 0, 0, false, false, []), false)) ((F89 k w).bind fun b2 => cond (!b2) (RET ([], (0, 0, 0, 0, 0, 0, false, false, []), false)) ((N5 k p 0 999985).bind fun b3 => cond (!b3) (RET ([], (0, 0, 0, 0, 0, 0, false, false, []), false)) ((O3 k v).bind fun b4 => (Xaj k b4 p).bind fun b5 => cond (w.2.2.2.2.2.1 == 0) (cond (!w.2.2.2.2.2.2.1) ((O3 k b5.1).bind fun b6 => (Qy k w).bind fun b7 => RET (b6, b7, true)) (Ng k v w p RET b5)) (Ng k v w p RET b5))))
def S5 := Po (β := Ai × (den Ak) × Bool) some
theorem Xxc {β : Type} (k : Nat) (v : Ai) (w : (den Ak)) (p : Int) (K : KT β) : Af (X1f k) Tryz.f141 (PsT.put Xpa (v, w, p, ())) K = (S5 k v w p).bind fun r => K (F141_O.put r) :=
 Eq.trans (b := Po (fun r => K (F141_O.put r)) k v w p) (by kernel_rfl) (by simp only [S5, Po, Ng, z1, z2, z3, z4, z5, z6, z7, z8, A5])
def Xob (k : Nat) : FD := ⟨141, Xpa, F141_O, S5 k⟩
theorem X5e (k : Nat) : (Xob k).Ok Tryz.prog := ⟨fun x => Ab (Tt [70] (Ah (.c (X6r k) (.c (Xls k) (.c (Eb k) (.c (X4q k) (.c (X1c k) (.c (Rw k) (.c (Xm1 k) (.c (X4v k) (.c (X02 k) (.c (X6c k) .n))))))))))) _ _ _ _) Ag Tryz.func141 rfl rfl (Xxc k _ _ _ some), .of (by kernel_rfl)⟩
end
end Go.Proofs.YtdmepjjepogddaaGreat.Gn
end

section
set_option linter.unusedVariables false
set_option linter.unusedSimpArgs false
namespace Go.Proofs.YtdmepjjepogddaaGreat.Gn
open Go.Rf IntKind
noncomputable section
def X95 : Nat → Hint
 | 0 => ⟨(15, .own .own Bb []) :: (pl 35 3 []), pl 33000 1 []⟩
 | _ => ⟨[], []⟩
abbrev Xif (k : Nat) : Env := Bd (A0 [Xqt k, Xob k, Sf k]) X95 .own [] k
abbrev Xue : List PA := [.one (.sl .ro sta), .one mI, .one mI, .one mI, .one mI, .one (.sl .ro (.int .u8))]
abbrev F66_O : RO := ⟨[.v, .v], [.sl .own (.int .u8), mB]⟩
noncomputable def X9b {β : Type} (k : Nat) (v : Aq) (w p q o : Int) (c : Aa) (K : KT β) : Ex → St → Option β := Bx (Xif k) Tryz.f66 (PsT.put Xue (v, w, p, q, o, c, ())) K
def X3h (v : Aq) (w p q o : Int) (c : Aa) (x36_0 x37_0 : Int) (m33000_0 : Al) (m15900_0 : Ai) : St := ⟨dz 15 ((.one (.a (.cell 15900) 0 0 none)) :: dz 19 ((.one (.a (.cell 33000) 0 0 none)) :: (.one (vI x36_0)) :: (.one (vI x37_0)) :: dz 16 [])), [eM 33000 (.s .own Ak m33000_0), eM 15900 (.s .own Bb m15900_0)]⟩
noncomputable def Th {β : Type} (k : Nat) (v : Aq) (w p q o : Int) (c : Aa) (K : KT β) (n : Nat) (x36_0 x37_0 : Int) (m33000_0 : Al) (m15900_0 : Ai) : Option β := A7 (Xif k) Tryz.f66 [1, 1, 1, 0, 1, 0] 0 (Ap (Xif k) [1, 1, 1, 0, 1, 0] (Ar Tryz.f66) 0 (X9b k v w p q o c K)) n (X3h v w p q o c x36_0 x37_0 m33000_0 m15900_0)
def Ij {β : Type} (NX : Int → Int → Al → Ai → Option β) (RET : (Aa × Bool) → Option β) (k : Nat) (v : Aq) (w p q o : Int) (c : Aa) (x36_0 x37_0 : Int) (m33000_0 : Al) (m15900_0 : Ai) : Option β := cond (decide (x37_0 < x36_0)) (Az x37_0 m33000_0 ((S5 k m15900_0 (Aw m33000_0 x37_0) 0).bind fun b2 => cond b2.2.2 ((Uf k b2.2.1.2.2.2.2.2.2.2.2).bind fun b3 => RET (b3, true)) (NX x36_0 (i64.wrap (x37_0 + 1)) m33000_0 b2.1))) (RET ([], false))
def Iz (k : Nat) (v : Aq) (w p q o : Int) (c : Aa) : Nat → Int → Int → Al → Ai → Option (Aa × Bool)
 | 0, _, _, _, _ => none
 | n + 1, x36_0, x37_0, m33000_0, m15900_0 => Ij (Iz k v w p q o c n) some k v w p q o c x36_0 x37_0 m33000_0 m15900_0
theorem Xjf {β : Type} (k : Nat) (v : Aq) (w p q o : Int) (c : Aa) (K : KT β) (n : Nat) : ∀ (x36_0 x37_0 : Int) (m33000_0 : Al) (m15900_0 : Ai), Th k v w p q o c K n x36_0 x37_0 m33000_0 m15900_0 =
  (Iz k v w p q o c n x36_0 x37_0 m33000_0 m15900_0).bind fun r => K (F66_O.put r) := by
 induction n with
 | zero => intros; rfl
 | succ n ih =>
  intro x36_0 x37_0 m33000_0 m15900_0
  refine Eq.trans (b := Ij (Th k v w p q o c K n) (fun r => K (F66_O.put r)) k v w p q o c x36_0 x37_0 m33000_0 m15900_0) (by kernel_rfl) ?_
  rw [Iz]
  simp only [Ij, z1, z2, z3, z4, z5, z6, z7, z8, ih]
def Xhl {β : Type} (LP0 : Int → Int → Al → Ai → Option β) (k : Nat) (v : Aq) (w p q o : Int) (c : Aa) : Option β := Az w v ((Xi8 k v w ((Aw v w).1, p, q, 64, o, 0, false, false, c)).bind fun b1 => LP0 (b1.1.length : Int) 0 b1.1 [])
def F66 (k : Nat) (v : Aq) (w p q o : Int) (c : Aa) : Option (Aa × Bool) := Xhl (Iz k v w p q o c k) k v w p q o c
theorem X7s {β : Type} (k : Nat) (v : Aq) (w p q o : Int) (c : Aa) (K : KT β) : Af (Xif k) Tryz.f66 (PsT.put Xue (v, w, p, q, o, c, ())) K = (F66 k v w p q o c).bind fun r => K (F66_O.put r) :=
 Eq.trans (b := Xhl (Th k v w p q o c K k) k v w p q o c) (by kernel_rfl) (by simp only [F66, Xhl, z1, z2, z3, z4, z5, z6, z7, z8, Xjf])
def Xz3 (k : Nat) : FD := ⟨66, Xue, F66_O, F66 k⟩
theorem X9g (k : Nat) : (Xz3 k).Ok Tryz.prog := ⟨fun x => Ab (Aj (Ah (.c (X6o k) (.c (X5e k) (.c (Zl k) .n)))) _ _ _ _) Ag Tryz.func66 rfl rfl (X7s k _ _ _ _ _ _ some), .of (by kernel_rfl)⟩
abbrev X96 (k : Nat) : Env := Bd (A0 [Xpl k, D3 k, M7 k, Xz3 k]) Am .own [] k
abbrev X0l : List PA := [.one (.sl .ro sta), .one mI, .one mI, .one mI, .one mI, .one (.sl .ro (.int .u8))]
abbrev F16_O : RO := ⟨[.v, .v], [.sl .own (.int .u8), mB]⟩
def Xg7 {β : Type} (RET : (Aa × Bool) → Option β) (k : Nat) (v : Aq) (w p q o : Int) (c : Aa) : Option β := (F31 k v).bind fun b1 => cond (!b1) (RET ([], false)) ((N5 k w 0 (i64.wrap ((v.length : Int) - 1))).bind fun b2 => cond (!b2) (RET ([], false)) ((F65 k p).bind fun b3 => cond (!b3) (RET ([], false)) ((N5 k q 0 255).bind fun b4 => cond (!b4) (RET ([], false)) ((N5 k o 0 255).bind fun b5 => cond (!b5) (RET ([], false)) (cond (decide ((c.length : Int) > 48)) (RET ([], false)) ((F66 k v w p q o c).bind fun b6 => RET b6))))))
def F16 := Xg7 (β := Aa × Bool) some
theorem X46 {β : Type} (k : Nat) (v : Aq) (w p q o : Int) (c : Aa) (K : KT β) : Af (X96 k) Tryz.f16 (PsT.put X0l (v, w, p, q, o, c, ())) K = (F16 k v w p q o c).bind fun r => K (F16_O.put r) :=
 Eq.trans (b := Xg7 (fun r => K (F16_O.put r)) k v w p q o c) (by kernel_rfl) (by simp only [F16, Xg7, z1, z2, z3, z4, z5, z6, z7, z8])
def X0b (k : Nat) : FD := ⟨16, X0l, F16_O, F16 k⟩
theorem X8u (k : Nat) : (X0b k).Ok Tryz.prog := ⟨fun x => Ab (Aj (Ah (.c (X0x k) (.c (Eb k) (.c (Qx k) (.c (X9g k) .n))))) _ _ _ _) Ag Tryz.func16 rfl rfl (X46 k _ _ _ _ _ _ some), .of (by kernel_rfl)⟩
def X9w : Nat → Hint
 | 0 => ⟨pl 0 1 (pl 2 1 (pl 7 2 (pl 30 2 []))), []⟩
 | _ => ⟨[], []⟩
abbrev Xik (k : Nat) : Env := Bd (A0 [Xpl k, D3 k, M7 k, Xpg k, Xi3 k]) X9w .own [] k
abbrev Xrf : List PA := [.one (.sl .ro sta), .one mI, .one mI]
abbrev F25_O : RO := ⟨[.v], [mI]⟩
noncomputable def X8p {β : Type} (k : Nat) (v : Aq) (w p : Int) (K : KT β) : Ex → St → Option β := Bx (Xik k) Tryz.f25 (PsT.put Xrf (v, w, p, ())) K
def X5o (v : Aq) (w p : Int) (x7_0 x8_0 x31_0 : Int) : St := ⟨(.one (.s .ro sta v)) :: (.one .d) :: (.one (vI p)) :: dz 4 ((.one (vI x7_0)) :: (.one (vI x8_0)) :: dz 21 ((.one (vI (i64.wrap ((v.length : Int) + 1)))) :: (.one (vI x31_0)) :: dz 32 [])), []⟩
noncomputable def T4 {β : Type} (k : Nat) (v : Aq) (w p : Int) (K : KT β) (n : Nat) (x7_0 x8_0 x31_0 : Int) : Option β := A7 (Xik k) Tryz.f25 [1, 1, 1, 1, 0, 1, 0] 0 (Ap (Xik k) [1, 1, 1, 1, 0, 1, 0] (Ar Tryz.f25) 0 (X8p k v w p K)) n (X5o v w p x7_0 x8_0 x31_0)
def Gw {β : Type} (NX : Int → Int → Int → Option β) (RET : Int → Option β) (k : Nat) (v : Aq) (w p : Int) (x7_0 x8_0 x31_0 : Int) : Option β := cond (decide (x31_0 < (i64.wrap ((v.length : Int) + 1)))) (cond (decide (x8_0 < 0)) (RET 0) (Az x8_0 v (cond ((Aw v x8_0).1 == p) (RET x7_0) (Az x8_0 v ((F74 k (Aw v x8_0).2 p 17).bind fun b4 => cond (!b4.2) (RET 0) ((F75 k v b4.1.2.2.1).bind fun b5 => NX (if b4.1.2.2.2 < x7_0 then b4.1.2.2.2 else x7_0) b5 (i64.wrap (x31_0 + 1)))))))) (RET 0)
def H5 (k : Nat) (v : Aq) (w p : Int) : Nat → Int → Int → Int → Option (Int)
 | 0, _, _, _ => none
 | n + 1, x7_0, x8_0, x31_0 => Gw (H5 k v w p n) some k v w p x7_0 x8_0 x31_0
theorem Xja {β : Type} (k : Nat) (v : Aq) (w p : Int) (K : KT β) (n : Nat) : ∀ (x7_0 x8_0 x31_0 : Int), T4 k v w p K n x7_0 x8_0 x31_0 =
  (H5 k v w p n x7_0 x8_0 x31_0).bind fun r => K (F25_O.put r) := by
 induction n with
 | zero => intros; rfl
 | succ n ih =>
  intro x7_0 x8_0 x31_0
  refine Eq.trans (b := Gw (T4 k v w p K n) (fun r => K (F25_O.put r)) k v w p x7_0 x8_0 x31_0) (by kernel_rfl) ?_
  rw [H5]
  simp only [Gw, z1, z2, z3, z4, z5, z6, z7, z8, ih]
def Xib {β : Type} (LP0 : Int → Int → Int → Option β) (RET : Int → Option β) (k : Nat) (v : Aq) (w p : Int) : Option β := (F31 k v).bind fun b1 => cond (!b1) (RET 0) ((N5 k w 0 (i64.wrap ((v.length : Int) - 1))).bind fun b2 => cond (!b2) (RET 0) ((F65 k p).bind fun b3 => cond (!b3) (RET 0) (LP0 48 w 0)))
def F25 (k : Nat) (v : Aq) (w p : Int) : Option (Int) := Xib (H5 k v w p k) some k v w p
theorem X7x {β : Type} (k : Nat) (v : Aq) (w p : Int) (K : KT β) : Af (Xik k) Tryz.f25 (PsT.put Xrf (v, w, p, ())) K = (F25 k v w p).bind fun r => K (F25_O.put r) :=
 Eq.trans (b := Xib (T4 k v w p K k) (fun r => K (F25_O.put r)) k v w p) (by kernel_rfl) (by simp only [F25, Xib, z1, z2, z3, z4, z5, z6, z7, z8, Xja])
def X0p (k : Nat) : FD := ⟨25, Xrf, F25_O, F25 k⟩
theorem X8g (k : Nat) : (X0p k).Ok Tryz.prog := ⟨fun x => Ab (Aj (Ah (.c (X0x k) (.c (Eb k) (.c (Qx k) (.c (X0c k) (.c (Xse k) .n)))))) _ _ _ _) Ag Tryz.func25 rfl rfl (X7x k _ _ _ some), .of (by kernel_rfl)⟩
end
end Go.Proofs.YtdmepjjepogddaaGreat.Gn
end

section
set_option linter.unusedVariables false
set_option linter.unusedSimpArgs false
namespace Go.Proofs.YtdmepjjepogddaaGreat.Gn
open Go.Rf IntKind
noncomputable section
abbrev X8m (k : Nat) : Env := Bd (A0 [X0e k]) Am .own [] k
abbrev Xz4 : List PA := []
abbrev F24_O : RO := ⟨[.v], [mB]⟩
def Xix {β : Type} (RET : Bool → Option β) (k : Nat) : Option β := (F73 k 5 1).bind fun b1 => cond ((b1.length : Int) == 1) ((F73 k 256 1).bind fun b2 => RET ((b2.length : Int) == 0)) (RET false)
def F24 := Xix (β := Bool) some
theorem X6k {β : Type} (k : Nat) (K : KT β) : Af (X8m k) Tryz.f24 (PsT.put Xz4 (())) K = (F24 k).bind fun r => K (F24_O.put r) :=
 Eq.trans (b := Xix (fun r => K (F24_O.put r)) k) (by kernel_rfl) (by simp only [F24, Xix, z1, z2, z3, z4, z5, z6, z7, z8])
def Xzl (k : Nat) : FD := ⟨24, Xz4, F24_O, F24 k⟩
theorem X9u (k : Nat) : (Xzl k).Ok Tryz.prog := ⟨fun x => Ab (Aj (Ah (.c (X9i k) .n)) _ _ _ _) Ag Tryz.func24 rfl rfl (X6k k some), .of (by kernel_rfl)⟩
abbrev X9o (k : Nat) : Env := Bd Bq Am .own [] k
abbrev X0t : List PA := [.one (.sl .ro (.int .u8)), .one (.sl .ro (.int .u8))]
abbrev F23_O : RO := ⟨[.v], [mB]⟩
def F23 (k : Nat) (v w : Aa) : Option (Bool) := some ((Lh v).toList == (Lh w).toList)
theorem X04 {β : Type} (k : Nat) (v w : Aa) (K : KT β) : Af (X9o k) Tryz.f23 (PsT.put X0t (v, w, ())) K = (F23 k v w).bind fun r => K (F23_O.put r) :=
 Eq.trans (b := K (F23_O.put ((Lh v).toList == (Lh w).toList))) (by kernel_rfl) (by simp only [F23, z1, z2, z3, z4, z5, z6, z7, z8])
def Xz8 (k : Nat) : FD := ⟨23, X0t, F23_O, F23 k⟩
theorem X8i (k : Nat) : (Xz8 k).Ok Tryz.prog := ⟨fun x => Ab (Aj .none _ _ _ _) Ag Tryz.func23 rfl rfl (X04 k _ _ some), .of (by kernel_rfl)⟩
abbrev F7_E (k : Nat) : Env := Bd (A0 [Xz2 k, Xzs k, Xz1 k, Xz6 k, Xii k, Xzl k, X0b k, X0p k, Xz8 k]) Am .own [] k
abbrev F7_A : List PA := [.one (.sl .ro (.int .u8))]
abbrev F7_O : RO := ⟨[.v], [mB]⟩
def Xxv {β : Type} (RET : Bool → Option β) (k : Nat) (v : Aa) : Option β := cond (decide ((v.length : Int) > 1048576)) (RET true) ((F43 k v).bind fun b1 => (F44 k b1.1 b1.2.1).bind fun b2 => (F45 k b1.1 b1.2.1).bind fun b3 => cond (!(b2.2 == b3.2)) (RET false) (cond (b2.1 != b3.1) (RET false) ((F46 k [] b1.1 b1.2.1 3).bind fun b4 => (Qo k b4.1 b1.1 b1.2.1 3).bind fun b5 => cond (!b2.2) (cond (!b5.2.2) ((F24 k).bind fun b6 => RET b6) (RET false)) ((F16 k b1.2.2.1 b1.2.2.2.1 b2.1 6 1 b1.2.2.2.2).bind fun b7 => cond b5.2.2 (cond (b5.2.1 == b2.1) ((F25 k b1.2.2.1 b1.2.2.2.1 b2.1).bind fun b8 => cond (b7.2 == (decide (b8 > 0))) (cond (!b7.2) ((F24 k).bind fun b9 => RET b9) ((F23 k b7.1 b1.2.2.2.2).bind fun b10 => cond b10 ((F24 k).bind fun b11 => RET b11) (RET false))) (RET false)) (RET false)) (RET false)))))
def F7 := Xxv (β := Bool) some
theorem X8j {β : Type} (k : Nat) (v : Aa) (K : KT β) : Af (F7_E k) Tryz.f7 (PsT.put F7_A (v, ())) K = (F7 k v).bind fun r => K (F7_O.put r) :=
 Eq.trans (b := Xxv (fun r => K (F7_O.put r)) k v) (by kernel_rfl) (by simp only [F7, Xxv, z1, z2, z3, z4, z5, z6, z7, z8])
def F7_d (k : Nat) : FD := ⟨7, F7_A, F7_O, F7 k⟩
theorem F7_q (k : Nat) : (F7_d k).Ok Tryz.prog := ⟨fun x => Ab (Aj (Ah (.c (X86 k) (.c (X8s k) (.c (X9e k) (.c (Yad k) (.c (Xyx k) (.c (X9u k) (.c (X8u k) (.c (X8g k) (.c (X8i k) .n)))))))))) _ _ _ _) Ag Tryz.func7 rfl rfl (X8j k _ some), .of (by kernel_rfl)⟩
end
end Go.Proofs.YtdmepjjepogddaaGreat.Gn
end

section
namespace Go.Proofs.YtdmepjjepogddaaGreat.Gn
open Go.Rf Go.IntWalk
set_option linter.unusedVariables false
set_option linter.unusedSimpArgs false
def inB (a b c : Int) : Bool := decide (b ≤ a) && decide (a ≤ c)
theorem Bo (k : Nat) (a b c : Int) : K7 k a b c = some (inB a b c) := by
 unfold K7 inB; (try dsimp only)
 have : decide (a ≥ b) = decide (b ≤ a) := rfl
 rw [this]
 cases decide (b ≤ a) <;> rfl
theorem B2 (k : Nat) (a b c : Int) : N5 k a b c = some (inB a b c) := Bo k a b c
theorem F5 (k : Nat) (a : Int) : F65 k a = some (inB a 0 65535) := by unfold F65; (try dsimp only); rw [B2]; rfl
abbrev A1 : Type := List (den (.int .u8))
theorem Pj {α : Type} (c : Bool) (a b : α) : cond c (some a) (some b) = some (cond c a b) := by cases c <;> rfl
theorem Xvl (k : Nat) (l : A1) : Xjo k l = some l := by
 simp only [Xjo, Zw]
 rw [decide_eq_true (by omega : (0 : Int) ≤ ((l.length : Nat) : Int))]
 simp
theorem Rn (k : Nat) (l : A1) (h : l.length ≤ 4194304) : Uf k l = some l := by
 simp only [Uf, Xt, Xvl, List.nil_append, List.length_nil, Nat.zero_add, Bi]
 rw [decide_eq_true (by omega : l.length * 1 ≤ 140737488355328)]
 cases l with
 | nil => rfl
 | cons a r => rw [show ((((a :: r).length : Nat) : Int) == 0) = false by rw [beq_eq_false_iff_ne]; simp only [List.length_cons]; omega]; rfl
theorem bs {α β : Type} {o : Option α} {f : α → Option β} {x : α} (h : o = some x) : o.bind f = f x := by rw [h]; rfl
theorem cf {α : Type} {c : Bool} {a b : α} (h : c = false) : cond c a b = b := by rw [h]; rfl
theorem ct {α : Type} {c : Bool} {a b : α} (h : c = true) : cond c a b = a := by rw [h]; rfl
def BOk (b : A1) : Prop := ∀ x ∈ b, @LE.le Int _ 0 x ∧ @LE.le Int _ x 255
theorem BOk.of {b : A1} (h : Wf (.sl (.int .u8)) b) : BOk b := fun x hx => by
 have := h.2 x hx
 unfold Wf Lit.wf at this
 simp only [Bool.and_eq_true, decide_eq_true_eq] at this
 exact this
abbrev Ct : Type := List (den Ak)
abbrev rtL : Type := List (den Ci)
abbrev Fe : Type := List (den sta)
def T9 : Fe → Nat
 | [] => 0
 | s :: l => s.2.length + T9 l
theorem Xbr : ∀ {l : Fe} {s : den sta}, s ∈ l → s.2.length ≤ T9 l
 | a :: l, s, h => by
  rcases List.mem_cons.1 h with rfl | h
  ·simp only [T9]; omega
  ·have := Xbr h
   simp only [T9]; omega
def gT (y : Int) (r : den Ci) : den Ci := (y, y + 1, y + 2, y + 3)
def gS (y : Int) (s : den sta) : den sta := (y, Xzr gT (fun _ => 4) (y + 1) s.2)
end Go.Proofs.YtdmepjjepogddaaGreat.Gn
end

section
namespace Go.Proofs.YtdmepjjepogddaaGreat.Gn
open Go.Rf Go.IntWalk
set_option linter.unusedVariables false
set_option linter.unusedSimpArgs false
def Za (v : Int) : A1 := [v / 256, v % 256]
theorem u8W (v : Int) (h : 0 ≤ v ∧ v ≤ 255) : IntKind.u8.wrap v = v := u8_in v h
theorem u8M (v : Int) : IntKind.u8.wrap v = v % 256 := by rw [IntKind.wrap_u8]
theorem Y5 (n : Nat) (v : Int) (h : 0 ≤ v ∧ v ≤ 65535) : F93 (n + 4) v 2 = some (Za v) := by
 have w1 : IntKind.i64.wrap (2 - 1) = 1 := by decide
 have w0 : IntKind.i64.wrap (1 - 1) = 0 := by decide
 have wm : IntKind.i64.wrap (0 - 1) = -1 := by decide
 have hd : v.fdiv 256 = v / 256 := Int.fdiv_eq_ediv_of_nonneg v (by omega)
 have e8 : ((2 : Int) ^ 8) = 256 := by decide
 unfold F93 Xh1; (try dsimp only)
 rw [w1]
 refine (ct (by decide)).trans ?_
 have aux : ∀ k m : Nat, I0 k v 2 (m + 1 + 1 + 1) v 1 (List.replicate (Int.toNat 2) (Be (.int .u8))) = some (Za v) := fun k m => by
  rw [I0]
  unfold Gd; (try dsimp only [Az])
  refine (ct (by decide)).trans ((ct (by decide)).trans ((ct (by decide)).trans ?_))
  try dsimp only
  rw [w0, I0]
  unfold Gd; (try dsimp only [Az])
  refine (ct (by decide)).trans ((ct (by decide)).trans ((ct (by simp)).trans ?_))
  try dsimp only
  rw [wm, I0]
  unfold Gd; (try dsimp only [Az])
  refine (cf (by decide)).trans ?_
  rw [e8, hd, u8M, u8W (v / 256) (by omega)]
  rfl
 exact aux (n + 4) (n + 1)
theorem Rl (n : Nat) (v : Int) (h : 0 ≤ v ∧ v ≤ 65535) : Xla (n + 4) v 2 = some (Za v) := by
 have w1 : IntKind.i64.wrap (2 - 1) = 1 := by decide
 have w0 : IntKind.i64.wrap (1 - 1) = 0 := by decide
 have wm : IntKind.i64.wrap (0 - 1) = -1 := by decide
 have hd : v.fdiv 256 = v / 256 := Int.fdiv_eq_ediv_of_nonneg v (by omega)
 have hd1 : v.fdiv 1 = v := by simp
 have e1 : ((2 : Int) ^ (min (IntKind.i64.wrap (8 * 1)).toNat 64)) = 256 := by decide
 have e0 : ((2 : Int) ^ (min (IntKind.i64.wrap (8 * 0)).toNat 64)) = 1 := by decide
 have i1 : inB 2 1 4 = true := by decide
 have i2 : inB v 0 (IntKind.i64.wrap ((IntKind.i64.wrap (1 * 2 ^ (min (IntKind.i64.wrap (8 * 2)).toNat 64))) - 1)) = true := by
  rw [show IntKind.i64.wrap ((IntKind.i64.wrap (1 * 2 ^ (min (IntKind.i64.wrap (8 * 2)).toNat 64))) - 1) = 65535 by decide]
  unfold inB
  rw [decide_eq_true h.1, decide_eq_true h.2]
  rfl
 unfold Xla Xru; (try dsimp only)
 rw [Bo, i1, Option.bind_some, w1]
 refine (cf rfl).trans ((cf (by decide)).trans ?_)
 rw [Bo, i2, Option.bind_some]
 refine (cf rfl).trans ?_
 have aux : ∀ k m : Nat, Kb k v 2 (m + 1 + 1 + 1) 1 [] = some (Za v) := fun k m => by
  rw [Kb]
  unfold J7; (try dsimp only [Bi])
  refine (ct (by decide)).trans ((cf (by decide)).trans ((ct (by simp)).trans ?_))
  try dsimp only
  rw [w0, Kb]
  unfold J7; (try dsimp only [Bi])
  refine (ct (by decide)).trans ((cf (by decide)).trans ((ct (by simp)).trans ?_))
  try dsimp only
  rw [wm, Kb]
  unfold J7; (try dsimp only [Bi])
  refine (cf (by decide)).trans ?_
  rw [e1, e0, hd, hd1, Int.tmod_eq_of_lt (by omega) (by omega), Int.tmod_eq_emod_of_nonneg h.1, u8W (v / 256) (by omega), u8W (v % 256) (by omega)]
  rfl
 exact aux (n + 4) (n + 1)
def red (n : Int) : Int := if n > 65535 then n - 65535 else n
def smV : Int → A1 → Int
 | s, [] => s
 | s, [x] => red (s + x * 256)
 | s, x :: y :: r => smV (red (s + (x * 256 + y))) r
theorem Pa {n : Int} (h : 0 ≤ n ∧ n ≤ 131070) : 0 ≤ red n ∧ red n ≤ 65535 := by unfold red; split <;> omega
theorem Xxe {s x y : Int} (hs : 0 ≤ s ∧ s ≤ 65535) (hx : 0 ≤ x ∧ x ≤ 255) (hy : 0 ≤ y ∧ y ≤ 255) : red (red (s + x * 256) + y) = red (s + (x * 256 + y)) := by
 unfold red
 split <;> split <;> split <;> omega
theorem byt {l : A1} (hb : BOk l) (j : Nat) (h : j < l.length) : @LE.le Int _ 0 l[j] ∧ @LE.le Int _ l[j] 255 := hb _ (List.getElem_mem h)
theorem Xp (k : Nat) (l : A1) (hb : BOk l) (hl : l.length ≤ 1048576) : ∀ (n j : Nat) (s : Int), j % 2 = 0 → j ≤ l.length → l.length - j < n → (0 ≤ s ∧ s ≤ 65535) → Hx k l n s (j : Int) = some (smV s (l.drop j))
 | 0, j, s, _, _, h, _ => by omega
 | 1, j, s, h2, hj, h, hs => by
  have : j = l.length := by omega
  subst this
  rw [Hx, List.drop_length]
  unfold Jv; (try dsimp only [Az])
  exact (cf (decide_eq_false (by omega))).trans rfl
 | n + 2, j, s, h2, hj, h, hs => by
  rw [Hx]
  unfold Jv; (try dsimp only [Az])
  rcases Nat.lt_or_ge j l.length with hlt | hge
  ·obtain ⟨x, hx⟩ : ∃ x : Int, x = l[j] := ⟨_, rfl⟩
   have bx : 0 ≤ x ∧ x ≤ 255 := by rw [hx]; exact byt hb j hlt
   have d1 : decide ((j : Int) < ((l.length : Nat) : Int)) = true := decide_eq_true (by omega)
   have d0 : decide ((0 : Int) ≤ ((j : Nat) : Int)) = true := decide_eq_true (by omega)
   have ev : (((j : Int).tmod 2) == 0) = true := by rw [Int.tmod_eq_emod_of_nonneg (by omega)]; exact beq_iff_eq.2 (by omega)
   have nxt : ∀ s1 : Int, s1 = red (s + x * 256) → Hx k l (n + 1) s1 ((j + 1 : Nat) : Int) = some (smV s (l.drop j)) := fun s1 hs1 => by
    have b1 := Pa (n := s + x * 256) (by omega)
    rw [← hs1] at b1
    rw [Hx]
    unfold Jv; (try dsimp only [Az])
    rcases Nat.lt_or_ge (j + 1) l.length with hlt' | hge'
    ·obtain ⟨y, hy⟩ : ∃ y : Int, y = l[j + 1] := ⟨_, rfl⟩
     have by_ : 0 ≤ y ∧ y ≤ 255 := by rw [hy]; exact byt hb (j + 1) hlt'
     have od : ((((j + 1 : Nat) : Int).tmod 2) == 0) = false := by rw [Int.tmod_eq_emod_of_nonneg (by omega)]; exact beq_eq_false_iff_ne.2 (by omega)
     have e2 : smV s (l.drop j) = smV (red (s + (x * 256 + y))) (l.drop (j + 2)) := by
      rw [List.drop_eq_getElem_cons hlt, List.drop_eq_getElem_cons hlt', smV, ← hx, ← hy]
     have b2 := Pa (n := s1 + y) (by omega)
     rw [e2, ← Xxe hs bx by_, ← hs1]
     refine (ct (decide_eq_true (by omega))).trans ((cf od).trans ((ct (decide_eq_true (by omega))).trans ((ct (decide_eq_true (by omega))).trans ?_)))
     rw [Av l (j + 1) hlt', ← hy, i64_in y (by omega), i64_in (s1 + y) (by omega), i64_in (s1 + y - 65535) (by omega), F6 (j + 1) (by omega)]
     unfold red at b2 ⊢
     by_cases c : s1 + y > 65535
     ·rw [if_pos c] at b2 ⊢
      exact (ct (decide_eq_true c)).trans (Xp k l hb hl n (j + 2) _ (by omega) (by omega) (by omega) b2)
     ·rw [if_neg c] at b2 ⊢
      exact (cf (decide_eq_false c)).trans (Xp k l hb hl n (j + 2) _ (by omega) (by omega) (by omega) b2)
    ·have e1 : l.drop j = [l[j]] := by
      rw [List.drop_eq_getElem_cons hlt, List.drop_eq_nil_of_le (by omega)]
     rw [e1, smV, ← hx, ← hs1]
     exact (cf (decide_eq_false (by omega))).trans rfl
   refine (ct d1).trans ((ct ev).trans ((ct d0).trans ((ct d1).trans ?_)))
   rw [Av l j hlt, ← hx, i64_in x (by omega), i64_in (x * 256) (by omega), i64_in (s + x * 256) (by omega), i64_in (s + x * 256 - 65535) (by omega), F6 j (by omega)]
   by_cases c : s + x * 256 > 65535
   ·exact (ct (decide_eq_true c)).trans (nxt _ (by unfold red; rw [if_pos c]))
   ·exact (cf (decide_eq_false c)).trans (nxt _ (by unfold red; rw [if_neg c]))
  ·have : j = l.length := by omega
   subst this
   rw [List.drop_length]
   exact (cf (decide_eq_false (by omega))).trans rfl
theorem L8 {α : Type} {N : Nat} (hN : 1 ≤ N) : B8 N ([] : List α) = [] := by
 unfold B8
 rw [show (([] : List α).length + N - 1) / N = 0 from Nat.div_eq_of_lt (by simp; omega)]
 rfl
theorem Iq {α : Type} {N : Nat} (hN : 1 ≤ N) (l : List α) (h : l ≠ []) : B8 N l = l.take N :: B8 N (l.drop N) := by
 have hl : 1 ≤ l.length := List.length_pos_iff.2 h
 have hc : (l.length + N - 1) / N = ((l.drop N).length + N - 1) / N + 1 := by
  rw [List.length_drop]
  by_cases hle : N ≤ l.length
  ·rw [show l.length + N - 1 = (l.length - N + N - 1) + N by omega, Nat.add_div_right _ (by omega)]
  ·rw [show l.length - N = 0 by omega, Nat.zero_add, Nat.div_eq_of_lt (show N - 1 < N by omega)]
   exact Nat.div_eq_of_lt_le (by omega) (by omega)
 unfold B8
 rw [hc, List.range_succ_eq_map, List.map_cons, List.map_map]
 congr 1
 ·simp [Qq]
 ·refine List.map_congr_left fun j _ => ?_
  simp only [Function.comp, Qq, List.drop_drop]
  congr 2
  rw [Nat.succ_mul]
  omega
theorem Sn (x y : Int) (hx : 0 ≤ x ∧ x ≤ 255) (hy : 0 ≤ y ∧ y ≤ 255) : Cf .or .i64 (x * 256) y = x * 256 + y := by
 obtain ⟨a, rfl⟩ := Int.eq_ofNat_of_zero_le hx.1
 obtain ⟨b, rfl⟩ := Int.eq_ofNat_of_zero_le hy.1
 have ha : a ≤ 255 := by omega
 have hb : b ≤ 255 := by omega
 have e : ((a : Int) * 256) = ((a * 256 : Nat) : Int) := by omega
 rw [e]
 have h1 : (BitVec.ofInt 64 ((a * 256 : Nat) : Int) ||| BitVec.ofInt 64 (b : Int)).toNat = a * 256 + b := by
  rw [BitVec.toNat_or]
  simp only [BitVec.ofInt_natCast, BitVec.toNat_ofNat]
  rw [Nat.mod_eq_of_lt (by omega), Nat.mod_eq_of_lt (by omega)]
  have := Nat.shiftLeft_add_eq_or_of_lt (show b < 2 ^ 8 by omega) a
  rw [Nat.shiftLeft_eq] at this
  exact this.symm
 show IntKind.i64.wrap (((BitVec.ofInt 64 ((a * 256 : Nat) : Int) ||| BitVec.ofInt 64 (b : Int)).toNat : Nat) : Int) = _
 rw [h1, i64_in _ (by omega)]
 omega
theorem Xks {l : A1} (hb : BOk l) {x : den (.int .u8)} (h : x ∈ l) : ∃ v : Int, v = x ∧ (0 ≤ v ∧ v ≤ 255) := ⟨x, rfl, hb x h⟩
theorem Xhb (n : Nat) (s m : Int) (hs : 0 ≤ s ∧ s ≤ 65535) (hm : 0 ≤ m ∧ m ≤ 65535) : Xb2 (n + 4) [s, m] = some (red (s + m)) := by
 have aux : ∀ k q : Nat, Ek k [s, m] (q + 1 + 1 + 1) 0 0 = some (red (s + m)) := fun k q => by
  rw [Ek]
  unfold Em; (try dsimp only [Az])
  refine (ct rfl).trans ((ct rfl).trans ((ct rfl).trans ?_))
  rw [show Aw (t := .int .i64) [s, m] 0 = s from rfl, Int.zero_add, i64_in s (by omega)]
  refine (cf (decide_eq_false (by omega))).trans ?_
  try dsimp only
  rw [show IntKind.i64.wrap (0 + 1) = 1 by decide, Ek]
  unfold Em; (try dsimp only [Az])
  refine (ct rfl).trans ((ct rfl).trans ((ct rfl).trans ?_))
  rw [show Aw (t := .int .i64) [s, m] 1 = m from rfl, i64_in (s + m) (by omega), i64_in (s + m - 65535) (by omega), show IntKind.i64.wrap (1 + 1) = 2 by decide]
  have O5 : ∀ r : Int, Ek k [s, m] (q + 1) r 2 = some r := fun r => by
   rw [Ek]
   unfold Em; (try dsimp only [Az])
   exact (cf rfl).trans rfl
  unfold red
  by_cases c : s + m > 65535
  ·rw [if_pos c]
   exact (ct (decide_eq_true c)).trans (O5 _)
  ·rw [if_neg c]
   exact (cf (decide_eq_false c)).trans (O5 _)
 exact aux (n + 4) (n + 1)
theorem Xhy (n : Nat) (a0 : A1) : ∀ (m : Nat) (l : A1) (s : Int), l.length ≤ m → BOk l → (0 ≤ s ∧ s ≤ 65535) → E3 (n + 4) a0 (B8 2 l) s = some (65535 - smV s l)
 | _, [], s, _, _, hs => by
  rw [L8 (by omega), E3, smV, i64_in _ (by omega)]
 | 0, _ :: _, _, h, _, _ => by simp at h
 | m + 1, [x], s, h, hb, hs => by
  obtain ⟨x, rfl, bx⟩ := Xks hb (x := x) (by simp)
  have e8 : ((2 : Int) ^ 8) = 256 := by decide
  have b1 := Pa (n := s + x * 256) (by omega)
  rw [Iq (by omega) [x] (by simp)]
  simp only [List.take_succ_cons, List.take_nil, List.drop_succ_cons, List.drop_nil]
  rw [E3]
  refine (ct (by simp)).trans ((cf (by simp)).trans ?_)
  rw [show Aw (t := .int .u8) [x] 0 = x from rfl, e8, i64_in x (by omega), i64_in (x * 256) (by omega), Xhb n s (x * 256) hs (by omega), Option.bind_some, L8 (by omega), E3, smV, i64_in _ (by omega)]
 | m + 1, x :: y :: r, s, h, hb, hs => by
  obtain ⟨x, rfl, bx⟩ := Xks hb (x := x) (by simp)
  obtain ⟨y, rfl, by_⟩ := Xks hb (x := y) (by simp)
  have e8 : ((2 : Int) ^ 8) = 256 := by decide
  have b1 := Pa (n := s + (x * 256 + y)) (by omega)
  rw [Iq (by omega) (x :: y :: r) (by simp)]
  simp only [List.take_succ_cons, List.take_zero, List.drop_succ_cons, List.drop_zero]
  rw [E3]
  refine (ct (by simp)).trans ((ct (by simp)).trans ((ct (by simp)).trans ?_))
  rw [show Aw (t := .int .u8) [x, y] 0 = x from rfl, show Aw (t := .int .u8) [x, y] 1 = y from rfl, e8, i64_in x (by omega), i64_in y (by omega), i64_in (x * 256) (by omega), Sn x y bx by_, Xhb n s (x * 256 + y) hs (by omega), Option.bind_some, smV]
  exact Xhy n a0 m r _ (by simp only [List.length_cons] at h; omega) (fun z hz => hb z (by simp [hz])) b1
theorem Xgv : ∀ (l : A1) (s : Int), BOk l → (0 ≤ s ∧ s ≤ 65535) → 0 ≤ smV s l ∧ smV s l ≤ 65535
 | [], s, _, hs => hs
 | [x], s, hb, hs => by
  obtain ⟨x, rfl, bx⟩ := Xks hb (x := x) (by simp)
  exact Pa (by omega)
 | x :: y :: r, s, hb, hs => by
  obtain ⟨x, rfl, bx⟩ := Xks hb (x := x) (by simp)
  obtain ⟨y, rfl, by_⟩ := Xks hb (x := y) (by simp)
  exact Xgv r _ (fun z hz => hb z (by simp [hz])) (Pa (by omega))
def Xcd (l : A1) : Int := 65535 - smV 0 l
theorem X5s (n : Nat) (l : A1) (hb : BOk l) (hl : l.length ≤ 1048576) : F94 (n + 4) l = some (Xcd l) := by
 unfold F94; (try dsimp only)
 rw [decide_eq_true (by omega : l.length ≤ 140737488355328)]
 exact Xhy n l l.length l 0 (Nat.le_refl _) hb (by omega)
theorem Xut (k : Nat) (l : A1) (hb : BOk l) (hl : l.length ≤ 1048576) (hk : 1048576 < k) : X3f k l = some (Xcd l) := by
 have := Xp k l hb hl k 0 0 rfl (Nat.zero_le _) (by omega) (by omega)
 have h2 := Xgv l 0 hb (by omega)
 unfold X3f F279 Xum; (try dsimp only)
 refine (bs this).trans ?_
 rw [List.drop_zero, i64_in _ (by omega)]
 rfl
theorem Xxb (k : Nat) (a : Int) (h : 0 ≤ a ∧ a ≤ 16777216) : Xk4 k [] a = some [] := by
 unfold Xk4 Y3; (try dsimp only)
 rw [show a - 0 = a by omega, i64_in a (by omega)]
 refine (cf (decide_eq_false (by omega))).trans ?_
 by_cases c : a > 0
 ·refine (ct (decide_eq_true c)).trans ((ct (by rfl)).trans ?_)
  rw [decide_eq_true (by omega : 0 < a), decide_eq_true (by omega : a * (1 : Nat) ≤ 140737488355328)]
  refine (ct (by rfl)).trans ((ct ?_).trans ?_)
  ·rw [Bool.and_eq_true]; exact ⟨by rfl, decide_eq_true (by omega)⟩
  ·simp
 ·exact (cf (decide_eq_false c)).trans rfl
theorem Xuj (k : Nat) (l : List A1) (hl : l.length ≤ 1048576) : ∀ (n j : Nat) (m : A1), j ≤ l.length → l.length - j < n → m.length + (l.drop j).flatten.length ≤ 4194304 → Ps k l n (j : Int) m = some (m ++ (l.drop j).flatten)
 | 0, j, m, _, h, _ => by omega
 | n + 1, j, m, hj, h, hm => by
  rw [Ps]
  unfold Ny; (try dsimp only [Az, Bi])
  rcases Nat.lt_or_ge j l.length with hlt | hge
  ·rw [List.drop_eq_getElem_cons hlt, List.flatten_cons, List.length_append] at hm
   rw [List.drop_eq_getElem_cons hlt, List.flatten_cons, Av (t := .sl (.int .u8)) l j hlt, F6 j (by omega)]
   refine (ct (decide_eq_true (by omega))).trans ((ct (decide_eq_true (by omega))).trans ((ct (decide_eq_true (by omega))).trans ((ct (decide_eq_true (by omega))).trans ?_)))
   try dsimp only
   rw [Xuj k l hl n (j + 1) (m ++ l[j]) hlt (by omega) (by rw [List.length_append]; omega), List.append_assoc]
  ·have : j = l.length := by omega
   subst this
   rw [List.drop_length]
   refine (cf (decide_eq_false (by omega))).trans ?_
   simp
theorem Xl0 (k : Nat) (l : List A1) (hk : l.length < k) (hl : l.length ≤ 1048576) (ht : l.flatten.length ≤ 4194304) : ∀ (n j : Nat) (s : Int), j ≤ l.length → l.length - j < n → (0 ≤ s ∧ s + ((l.drop j).flatten.length : Int) ≤ 4194304) → O9 k l n s (j : Int) = some l.flatten
 | 0, j, s, _, h, _ => by omega
 | n + 1, j, s, hj, h, hm => by
  rw [O9]
  unfold M9; (try dsimp only [Az])
  rcases Nat.lt_or_ge j l.length with hlt | hge
  ·rw [List.drop_eq_getElem_cons hlt, List.flatten_cons, List.length_append] at hm
   rw [Av (t := .sl (.int .u8)) l j hlt, F6 j (by omega), i64_in (s + ((l[j].length : Nat) : Int)) (by omega)]
   refine (ct (decide_eq_true (by omega))).trans ((ct (decide_eq_true (by omega))).trans ((ct (decide_eq_true (by omega))).trans ((cf (decide_eq_false (by omega))).trans ?_)))
   exact Xl0 k l hk hl ht n (j + 1) _ hlt (by omega) (by omega)
  ·have : j = l.length := by omega
   subst this
   rw [List.drop_length] at hm
   refine (cf (decide_eq_false (by omega))).trans ?_
   refine (bs (Xxb k s (by simp at hm; omega))).trans ?_
   have := Xuj k l hl k 0 [] (Nat.zero_le _) (by omega) (by rw [List.drop_zero]; simpa using ht)
   simpa using this
theorem Xdt (k : Nat) (l : List A1) (hk : l.length < k) (hl : l.length ≤ 1048576) (ht : l.flatten.length ≤ 4194304) : F92 k l = some l.flatten := by
 unfold F92 Xhf; (try dsimp only)
 exact Xl0 k l hk hl ht k 0 0 (Nat.zero_le _) (by omega) (by rw [List.drop_zero]; omega)
def L1 (v : Int) : den (.int .u8) := IntKind.u8.wrap v
theorem Xm (v : Int) : (Za v).length = 2 := rfl
theorem BOk.app {x y : A1} (hx : BOk x) (hy : BOk y) : BOk (x ++ y) := fun z hz => (List.mem_append.1 hz).elim (hx z) (hy z)
theorem BOk.nil : BOk [] := fun z hz => by cases hz
theorem BOk.cons {v : Int} {x : A1} (hx : BOk x) : BOk (L1 v :: x) := fun z hz => by
 rcases List.mem_cons.1 hz with rfl | hz
 ·have e : L1 v = v % 256 := u8M v
  rw [e]
  exact ⟨show (0 : Int) ≤ v % 256 by omega, show v % 256 ≤ (255 : Int) by omega⟩
 ·exact hx z hz
theorem Xiv {v : Int} (h : 0 ≤ v ∧ v ≤ 65535) : BOk (Za v) := fun z hz => by
 rcases List.mem_cons.1 hz with rfl | hz
 ·exact ⟨show (0 : Int) ≤ v / 256 by omega, show v / 256 ≤ (255 : Int) by omega⟩
 ·obtain rfl := List.mem_singleton.1 hz
  exact ⟨show (0 : Int) ≤ v % 256 by omega, show v % 256 ≤ (255 : Int) by omega⟩
theorem Xid (k : Nat) (b : Bool) (v : Int) : Xfn k b v = some (if b then v else 0) := by
 unfold Xfn; (try dsimp only)
 cases b <;> rfl
theorem Xie {l : A1} (hb : BOk l) : 0 ≤ Xcd l ∧ Xcd l ≤ 65535 := by
 have := Xgv l 0 hb (by omega)
 unfold Xcd
 omega
end Go.Proofs.YtdmepjjepogddaaGreat.Gn
end

section
namespace Go.Proofs.YtdmepjjepogddaaGreat.Gn
open Go.Rf Go.IntWalk
set_option linter.unusedVariables false
set_option linter.unusedSimpArgs false
def rest (n : Int) : Int := 2 ^ (16 - n).toNat
theorem p2 (m : Nat) (h : m ≤ 16) : (1 : Int) ≤ 2 ^ m ∧ (2 : Int) ^ m ≤ 65536 := (by decide : ∀ m : Fin 17, (1 : Int) ≤ 2 ^ (m : Nat) ∧ (2 : Int) ^ (m : Nat) ≤ 65536) ⟨m, by omega⟩
theorem Q5 {n : Int} (h : 0 ≤ n ∧ n ≤ 16) : 1 ≤ rest n ∧ rest n ≤ 65536 := p2 _ (by omega)
theorem W9 {n : Int} (h : 0 ≤ n ∧ n ≤ 16) : IntKind.i64.wrap (1 * 2 ^ (min (16 - n).toNat 64)) = rest n := by
 have := Q5 h
 rw [Nat.min_eq_left (by omega), Int.one_mul]
 exact i64_in (rest n) (by omega)
theorem X0 (k : Nat) {n : Int} (h : 0 ≤ n ∧ n ≤ 16) : Xbc k n = some (rest n) := by
 unfold Xbc X9; (try dsimp only)
 rw [i64_in (16 - n) (by omega), W9 h]
 exact (cf (decide_eq_false (by omega))).trans rfl
def okR (r : den Ci) : Bool := inB r.2.1 0 16 && inB r.1 0 65535 && (Int.tmod r.1 (rest r.2.1) == 0) && inB r.2.2.1 0 65535 && inB r.2.2.2 1 48
theorem Bf {a b c : Int} (h : inB a b c = true) : b ≤ a ∧ a ≤ c := by simpa [inB] using h
theorem B0 {a b c : Int} (h : b ≤ a ∧ a ≤ c) : inB a b c = true := by simpa [inB] using h
theorem X2 (k : Nat) (r : den Ci) : Wk k r = some (okR r) := by
 obtain ⟨v0, v1, v2, v3⟩ := r
 unfold Wk Yh okR; (try dsimp only [Dg])
 refine (bs (Bo k v1 0 16)).trans ?_
 try dsimp only
 cases h1 : inB v1 0 16 with
 | false => rfl
 | true =>
  have hr := Q5 (Bf h1)
  refine (ct rfl).trans ((bs (Bo k v0 0 65535)).trans ?_)
  cases h2 : inB v0 0 65535 with
  | false => rfl
  | true =>
   refine (ct rfl).trans ((bs (X0 k (Bf h1))).trans ((cf (decide_eq_false (by omega))).trans ?_))
   cases h3 : (Int.tmod v0 (rest v1) == 0) with
   | false => rfl
   | true =>
    refine (ct rfl).trans ((bs (Bo k v2 0 65535)).trans ?_)
    cases h4 : inB v2 0 65535 with
    | false => rfl
    | true => exact (ct rfl).trans ((bs (Bo k v3 1 48)).trans rfl)
theorem Xys (k : Nat) (r : den Ci) : Xke k r = some (okR r) := by
 obtain ⟨v0, v1, v2, v3⟩ := r
 unfold Xke W0 okR; (try dsimp only [Dg])
 refine (bs (B2 k v1 0 16)).trans ?_
 try dsimp only
 cases h1 : inB v1 0 16 with
 | false => rfl
 | true =>
  have hi := Bf h1
  have hr := Q5 hi
  refine (ct rfl).trans ((bs (F5 k v0)).trans ?_)
  cases h2 : inB v0 0 65535 with
  | false => rfl
  | true =>
   have e1 := i64_in (16 - v1) (by omega)
   refine (ct rfl).trans ((cf (by rw [e1]; exact decide_eq_false (by omega))).trans ((cf (by rw [e1, W9 hi]; exact decide_eq_false (by omega))).trans ?_))
   rw [e1, W9 hi]
   cases h3 : (Int.tmod v0 (rest v1) == 0) with
   | false => rfl
   | true =>
    refine (ct rfl).trans ((bs (F5 k v2)).trans ?_)
    cases h4 : inB v2 0 65535 with
    | false => rfl
    | true => exact (ct rfl).trans ((bs (B2 k v3 1 48)).trans rfl)
theorem Kt {r : den Ci} (h : okR r = true) : inB r.2.1 0 16 = true ∧ inB r.1 0 65535 = true ∧ inB r.2.2.1 0 65535 = true ∧ inB r.2.2.2 1 48 = true := by
 unfold okR at h
 simp only [Bool.and_eq_true] at h
 exact ⟨h.1.1.1.1, h.1.1.1.2, h.1.2, h.2⟩
def Xfo (a b : Int) : Int := if a < b then -1 else if a > b then 1 else 0
def orV (a b : Int) : Int := if a ≠ 0 then a else b
theorem Xg2 (k : Nat) (a b : Int) : Xe0 k a b = some (Xfo a b) := by
 unfold Xe0 Wp Xji Xfo; (try dsimp only)
 simp only [bne_self_eq_false, Option.bind_some, cond_false]
 by_cases h1 : a < b
 ·rw [decide_eq_true h1, if_pos h1]; rfl
 ·rw [decide_eq_false h1, if_neg h1]
  by_cases h2 : a > b
  ·rw [decide_eq_true h2, if_pos h2]; rfl
  ·rw [decide_eq_false h2, if_neg h2]; rfl
theorem Xws (n : Nat) (a b : Int) : Xp0 (n + 4) [a, b] = some (orV a b) := by
 have aux : ∀ k m : Nat, Fv k [a, b] (m + 1 + 1 + 1) 0 = some (orV a b) := fun k m => by
  rw [Fv]
  unfold Ev orV; (try dsimp only [Az])
  refine (ct rfl).trans ((ct rfl).trans ((ct rfl).trans ?_))
  rw [show Aw (t := .int .i64) [a, b] 0 = a from rfl]
  by_cases h : a ≠ 0
  ·rw [if_pos h]
   exact (ct (bne_iff_ne.2 h)).trans rfl
  ·rw [if_neg h]
   refine (cf (bne_eq_false_iff_eq.2 (Decidable.not_not.1 h))).trans ?_
   rw [show IntKind.i64.wrap (0 + 1) = 1 by decide, Fv]
   unfold Ev; (try dsimp only [Az])
   refine (ct rfl).trans ((ct rfl).trans ((ct rfl).trans ?_))
   rw [show Aw (t := .int .i64) [a, b] 1 = b from rfl]
   by_cases h2 : b ≠ 0
   ·exact (ct (bne_iff_ne.2 h2)).trans rfl
   ·refine (cf (bne_eq_false_iff_eq.2 (Decidable.not_not.1 h2))).trans ?_
    rw [show IntKind.i64.wrap (1 + 1) = 2 by decide, Fv]
    unfold Ev; (try dsimp only [Az])
    rw [Decidable.not_not.1 h2]
    exact (cf rfl).trans rfl
 exact aux (n + 4) (n + 1)
theorem Xww (n : Nat) (p c : den Ci) : Xju (n + 4) p c = some (orV (Xfo p.2.1 c.2.1) (Xfo p.1 c.1)) := by
 unfold Xju Zu; (try dsimp only)
 exact (bs (Xg2 _ _ _)).trans ((bs (Xg2 _ _ _)).trans ((bs (Xws _ _ _)).trans rfl))
def ltR (p1 p0 c1 c0 : Int) : Bool := decide (p1 < c1) || (decide (p1 = c1) && decide (p0 < c0))
theorem ordS {α : Type} (p1 p0 c1 c0 : Int) (x y : α) : cond (decide (p1 > c1)) x (cond (p1 == c1) (cond (decide (p0 ≥ c0)) x y) y) = cond (ltR p1 p0 c1 c0) y x := by
 unfold ltR
 rcases Int.lt_trichotomy p1 c1 with h | h | h
 ·rw [decide_eq_false (by omega : ¬ p1 > c1), decide_eq_true h, show (p1 == c1) = false from beq_eq_false_iff_ne.2 (by omega)]; rfl
 ·rw [decide_eq_false (by omega : ¬ p1 > c1), decide_eq_false (by omega : ¬ p1 < c1), decide_eq_true h, show (p1 == c1) = true from beq_iff_eq.2 h]
  by_cases h2 : p0 < c0
  ·rw [decide_eq_false (by omega : ¬ p0 ≥ c0), decide_eq_true h2]; rfl
  ·rw [decide_eq_true (by omega : p0 ≥ c0), decide_eq_false h2]; rfl
 ·rw [decide_eq_true (by omega : p1 > c1), decide_eq_false (by omega : ¬ p1 < c1), decide_eq_false (by omega : ¬ p1 = c1)]; rfl
theorem ordI {α : Type} (p1 p0 c1 c0 : Int) (x y : α) : cond (decide (orV (Xfo p1 c1) (Xfo p0 c0) ≥ 0)) x y = cond (ltR p1 p0 c1 c0) y x := by
 unfold ltR orV Xfo
 rcases Int.lt_trichotomy p1 c1 with h | h | h
 ·rw [if_pos h, if_pos (by decide), decide_eq_true h]; rfl
 ·rw [if_neg (by omega : ¬ p1 < c1), if_neg (by omega : ¬ p1 > c1), if_neg (by decide), decide_eq_false (by omega : ¬ p1 < c1), decide_eq_true h]
  by_cases h2 : p0 < c0
  ·rw [if_pos h2, decide_eq_true h2]; rfl
  ·rw [if_neg h2, decide_eq_false h2]
   by_cases h3 : p0 > c0
   ·rw [if_pos h3]; rfl
   ·rw [if_neg h3]; rfl
 ·rw [if_neg (by omega : ¬ p1 < c1), if_pos h, if_pos (by decide), decide_eq_false (by omega : ¬ p1 < c1), decide_eq_false (by omega : ¬ p1 = c1)]; rfl
theorem rs_l (q : Nat) (v : rtL) (hl : v.length ≤ 1048576) : ∀ (n j : Nat), j ≤ v.length → v.length - j < n → ∃ b, Jr (q + 4) v n (j : Int) = some b ∧ Kx (q + 4) v n (j : Int) = some b ∧ (b = true → (∀ r ∈ v.drop j, okR r = true) ∧ v.length ≤ 8)
 | 0, j, _, h => by omega
 | n + 1, j, hj, h => by
  rw [Jr, Kx]
  unfold J4 Jp; (try dsimp only [Az])
  rcases Nat.lt_or_ge j v.length with hlt | hge
  ·have d1 : decide ((j : Int) < ((v.length : Nat) : Int)) = true := decide_eq_true (by omega)
   have d0 : decide ((0 : Int) ≤ ((j : Nat) : Int)) = true := decide_eq_true (by omega)
   obtain ⟨b, hb1, hb2, hb3⟩ := rs_l q v hl n (j + 1) hlt (by omega)
   rw [Av v j hlt, F6 j (by omega), List.drop_eq_getElem_cons hlt, X2, Xys]
   cases ho : okR v[j] with
   | false => exact ⟨false, (ct d1).trans ((ct d0).trans ((ct d1).trans rfl)), (ct d1).trans ((ct d0).trans ((ct d1).trans rfl)), fun h => by cases h⟩
   | true =>
    have hb4 : b = true → (∀ r ∈ v[j] :: v.drop (j + 1), okR r = true) ∧ v.length ≤ 8 := fun hb => ⟨fun r hr => (List.mem_cons.1 hr).elim (fun e => by rw [e]; exact ho) ((hb3 hb).1 r), (hb3 hb).2⟩
    rcases Nat.eq_zero_or_pos j with h0 | h0
    ·have g0 : decide ((j : Int) > 0) = false := decide_eq_false (by omega)
     exact ⟨b, (ct d1).trans ((ct d0).trans ((ct d1).trans ((bs rfl).trans ((cf rfl).trans ((cf g0).trans hb1))))), (ct d1).trans ((ct d0).trans ((ct d1).trans ((bs rfl).trans ((cf rfl).trans ((cf g0).trans hb2))))), hb4⟩
    ·have g0 : decide ((j : Int) > 0) = true := decide_eq_true (by omega)
     have e1 : IntKind.i64.wrap ((j : Int) - 1) = ((j - 1 : Nat) : Int) := by rw [i64_in _ (by omega)]; omega
     have q1 : decide (((j - 1 : Nat) : Int) < ((v.length : Nat) : Int)) = true := decide_eq_true (by omega)
     have q0 : decide ((0 : Int) ≤ ((j - 1 : Nat) : Int)) = true := decide_eq_true (by omega)
     rw [e1, Av v (j - 1) (by omega), Xww]
     simp only [d1, d0, q1, q0, g0, cond_true, Option.bind_some, Bool.not_true, cond_false, hb1, hb2]
     refine ⟨cond (ltR v[j - 1].2.1 v[j - 1].1 v[j].2.1 v[j].1) b false, (ordS _ _ _ _ _ _).trans (Pj _ _ _), (ordI _ _ _ _ _ _).trans (Pj _ _ _), fun hc => ?_⟩
     cases hlt2 : ltR v[j - 1].2.1 v[j - 1].1 v[j].2.1 v[j].1 with
     | false => rw [hlt2] at hc; cases hc
     | true => rw [hlt2] at hc; exact hb4 hc
  ·have : j = v.length := by omega
   subst this
   rw [List.drop_length]
   have d1 : decide (((v.length : Nat) : Int) < ((v.length : Nat) : Int)) = false := decide_eq_false (by omega)
   exact ⟨decide (((v.length : Nat) : Int) ≤ 8), (cf d1).trans rfl, (cf d1).trans rfl, fun h => ⟨fun r hr => (by cases hr), by have := of_decide_eq_true h; omega⟩⟩
theorem X0w (q : Nat) (v : rtL) (hl : v.length ≤ 1048576) (hk : 1048576 < q + 4) : ∃ b, F202 (q + 4) v = some b ∧ Xka (q + 4) v = some b ∧ (b = true → (∀ r ∈ v, okR r = true) ∧ v.length ≤ 8) := by
 have := rs_l q v hl (q + 4) 0 (Nat.zero_le _) (by omega)
 rw [List.drop_zero] at this
 exact this
structure StaOk (k : Nat) (s : den sta) : Prop where
 st : F129 k s = some true
 rs : F202 k s.2 = some true
 at1 : inB s.1 0 65535 = true
 ok : ∀ r ∈ s.2, okR r = true
 len : s.2.length ≤ 8
theorem X93 (q : Nat) (s : den sta) (hl : s.2.length ≤ 1048576) (hk : 1048576 < q + 4) : ∃ b, F129 (q + 4) s = some b ∧ F88 (q + 4) s = some b ∧ (b = true → StaOk (q + 4) s) := by
 obtain ⟨b, h1, h2, h3⟩ := X0w q s.2 hl hk
 have e1 : F129 (q + 4) s = some (inB s.1 0 65535 && b) := by
  unfold F129; (try dsimp only)
  refine (bs (Bo _ _ _ _)).trans ?_
  cases inB s.1 0 65535 with
  | false => rfl
  | true => exact (ct rfl).trans ((bs h1).trans rfl)
 have e2 : F88 (q + 4) s = some (inB s.1 0 65535 && b) := by
  unfold F88; (try dsimp only)
  refine (bs (F5 _ _)).trans ?_
  cases inB s.1 0 65535 with
  | false => rfl
  | true => exact (ct rfl).trans ((bs h2).trans rfl)
 refine ⟨_, e1, e2, fun h => ?_⟩
 rw [h] at e1
 rw [Bool.and_eq_true] at h
 rw [h.2] at h1
 exact ⟨e1, h1, h.1, (h3 h.2).1, (h3 h.2).2⟩
def Z4 (s : den sta) (a : Int) : Bool := @BEq.beq Int _ s.1 a
def fi (a : Int) : Fe → Nat → Int
 | [], _ => -1
 | s :: l, j => cond (Z4 s a) (j : Int) (fi a l (j + 1))
theorem Xnw (k : Nat) (v : Fe) (w : Int) (hl : v.length ≤ 1048576) : ∀ (n j : Nat), j ≤ v.length → v.length - j < n → Re k v w n (j : Int) = some (fi w (v.drop j) j)
 | 0, j, _, h => by omega
 | n + 1, j, hj, h => by
  rw [Re]
  unfold Wb; (try dsimp only [Az])
  rcases Nat.lt_or_ge j v.length with hlt | hge
  ·have d1 : decide ((j : Int) < ((v.length : Nat) : Int)) = true := decide_eq_true (by omega)
   have d0 : decide ((0 : Int) ≤ ((j : Nat) : Int)) = true := decide_eq_true (by omega)
   rw [Av v j hlt, F6 j (by omega), List.drop_eq_getElem_cons hlt]
   refine (ct d1).trans ((ct d0).trans ((ct d1).trans ?_))
   rw [fi, Xnw k v w hl n (j + 1) hlt (by omega)]
   exact Pj (Z4 v[j] w) _ _
  ·have : j = v.length := by omega
   subst this
   rw [List.drop_length]
   exact (cf (decide_eq_false (by omega))).trans rfl
theorem Xy3 (k : Nat) (v : Fe) (w : Int) (hl : v.length ≤ 1048576) (hk : 1048576 < k) : F132 k v w = some (fi w v 0) := Xnw k v w hl k 0 (Nat.zero_le _) (by omega)
theorem Xmy (k : Nat) (v : Fe) (wx w : Int) (hl : v.length ≤ 1048576) : ∀ (n j : Nat), j ≤ v.length → v.length - j < n → Ko k v wx n (j : Int) w = some (fi w (v.drop j) j, w)
 | 0, j, _, h => by omega
 | n + 1, j, hj, h => by
  rw [Ko]
  unfold K3; (try dsimp only [Az])
  rcases Nat.lt_or_ge j v.length with hlt | hge
  ·have d1 : decide ((j : Int) < ((v.length : Nat) : Int)) = true := decide_eq_true (by omega)
   have d0 : decide ((0 : Int) ≤ ((j : Nat) : Int)) = true := decide_eq_true (by omega)
   rw [Av v j hlt, F6 j (by omega), List.drop_eq_getElem_cons hlt]
   refine (ct d1).trans ((ct d0).trans ((ct d1).trans ((bs (show Xrz k v[j] w = some (Z4 v[j] w, w) from rfl)).trans ?_)))
   rw [fi, Xmy k v wx w hl n (j + 1) hlt (by omega)]
   cases Z4 v[j] w <;> rfl
  ·have : j = v.length := by omega
   subst this
   rw [List.drop_length]
   exact (cf (decide_eq_false (by omega))).trans rfl
theorem Zo (k : Nat) (v : Fe) (w : Int) (hl : v.length ≤ 1048576) (hk : 1048576 < k) : F75 k v w = some (fi w v 0) := by
 unfold F75; (try dsimp only)
 exact (bs (Xmy k v w w hl k 0 (Nat.zero_le _) (by omega))).trans rfl
theorem Xca (a : Int) : ∀ (l : Fe) (j : Nat), fi a l j = -1 ∨ ((j : Int) ≤ fi a l j ∧ fi a l j < (j : Int) + (l.length : Int))
 | [], j => .inl rfl
 | s :: l, j => by
  rw [fi]
  cases Z4 s a with
  | true => right; simp only [cond_true, List.length_cons]; omega
  | false =>
   simp only [cond_false, List.length_cons]
   rcases Xca a l (j + 1) with h | h
   ·exact .inl h
   ·right; omega
theorem Vr (k : Nat) (v : Fe) (i : Nat) (hi : i < v.length) (hl : v.length ≤ 1048576) : ∀ (n j : Nat), j ≤ i → i - j < n →
  (fi v[i].1 (v.drop j) j < (i : Int) ∧ ∃ y, Sy k v n (i : Int) (j : Int) = some (.inl y)) ∨ (fi v[i].1 (v.drop j) j = (i : Int) ∧ Sy k v n (i : Int) (j : Int) = some (.inr ((i : Int), (i : Int))))
 | 0, j, _, h => by omega
 | n + 1, j, hj, h => by
  have hjl : j < v.length := by omega
  have d1 : decide ((j : Int) < ((v.length : Nat) : Int)) = true := decide_eq_true (by omega)
  have d0 : decide ((0 : Int) ≤ ((j : Nat) : Int)) = true := decide_eq_true (by omega)
  have i1 : decide ((i : Int) < ((v.length : Nat) : Int)) = true := decide_eq_true (by omega)
  have i0 : decide ((0 : Int) ≤ ((i : Nat) : Int)) = true := decide_eq_true (by omega)
  rw [Sy]
  unfold Xb1; (try dsimp only [Az])
  rw [Av v j hjl, Av v i hi, F6 j (by omega), List.drop_eq_getElem_cons hjl, fi]
  rcases Nat.lt_or_ge j i with hlt | hge
  ·have ji : decide ((j : Int) < (i : Int)) = true := decide_eq_true (by omega)
   cases hh : Z4 v[j] v[i].1 with
   | true => exact .inl ⟨by simp only [cond_true]; omega, _, (ct ji).trans ((ct d0).trans ((ct d1).trans ((ct i0).trans ((ct i1).trans ((ct hh).trans rfl)))))⟩
   | false =>
    rw [cond_false]
    rcases Vr k v i hi hl n (j + 1) (by omega) (by omega) with ⟨h1, y, h2⟩ | ⟨h1, h2⟩
    ·exact .inl ⟨h1, y, (ct ji).trans ((ct d0).trans ((ct d1).trans ((ct i0).trans ((ct i1).trans ((cf hh).trans h2)))))⟩
    ·exact .inr ⟨h1, (ct ji).trans ((ct d0).trans ((ct d1).trans ((ct i0).trans ((ct i1).trans ((cf hh).trans h2)))))⟩
  ·have e : j = i := by omega
   subst e
   have hh : Z4 v[j] v[j].1 = true := beq_self_eq_true _
   rw [hh]
   exact .inr ⟨rfl, (cf (decide_eq_false (by omega))).trans rfl⟩
theorem X0y (q : Nat) (v : Fe) (hl : v.length ≤ 1048576) (hs : T9 v ≤ 1048576) (hk : 1048576 < q + 4) : ∀ (n j : Nat), j ≤ v.length → v.length - j < n → ∃ b, Uj (q + 4) v n (j : Int) = some b ∧ Pu (q + 4) v n (j : Int) = some b ∧ (b = true → (∀ s ∈ v.drop j, StaOk (q + 4) s) ∧ v.length ≤ 5)
 | 0, j, _, h => by omega
 | n + 1, j, hj, h => by
  rw [Uj, Pu]
  unfold Mn; (try dsimp only [Az])
  rcases Nat.lt_or_ge j v.length with hlt | hge
  ·have d1 : decide ((j : Int) < ((v.length : Nat) : Int)) = true := decide_eq_true (by omega)
   have d0 : decide ((0 : Int) ≤ ((j : Nat) : Int)) = true := decide_eq_true (by omega)
   have hs1 := Xbr (List.getElem_mem hlt)
   obtain ⟨o, ho1, ho2, ho3⟩ := X93 q v[j] (by omega) hk
   obtain ⟨b, hb1, hb2, hb3⟩ := X0y q v hl hs hk n (j + 1) hlt (by omega)
   rw [Av v j hlt, F6 j (by omega), List.drop_eq_getElem_cons hlt, ho1, ho2]
   have ef := Zo (q + 4) v v[j].1 hl hk
   have e0 := Vr (q + 4) v j hlt hl (q + 4) 0 (Nat.zero_le _) (by omega)
   rw [List.drop_zero] at e0
   cases o with
   | false => exact ⟨false, (ct d1).trans ((ct d0).trans ((ct d1).trans rfl)), (ct d1).trans ((ct d0).trans ((ct d1).trans rfl)), fun h => by cases h⟩
   | true =>
    rcases e0 with ⟨h1, y, h2⟩ | ⟨h1, h2⟩
    ·exact ⟨false, (ct d1).trans ((ct d0).trans ((ct d1).trans ((bs rfl).trans ((cf rfl).trans ((bs h2).trans rfl))))), (ct d1).trans ((ct d0).trans ((ct d1).trans ((bs rfl).trans ((cf rfl).trans ((bs ef).trans ((ct (decide_eq_true h1)).trans rfl)))))), fun h => by cases h⟩
    ·refine ⟨b, (ct d1).trans ((ct d0).trans ((ct d1).trans ((bs rfl).trans ((cf rfl).trans ((bs h2).trans ?_))))), (ct d1).trans ((ct d0).trans ((ct d1).trans ((bs rfl).trans ((cf rfl).trans ((bs ef).trans ((cf (decide_eq_false (by rw [h1]; omega))).trans hb2)))))), fun hb => ⟨fun s hs => ?_, (hb3 hb).2⟩⟩
     ·show Uj (q + 4) v n (IntKind.i64.wrap ((j : Int) + 1)) = some b
      rw [F6 j (by omega)]
      exact hb1
     ·rcases List.mem_cons.1 hs with e | e
      ·rw [e]; exact ho3 rfl
      ·exact (hb3 hb).1 s e
  ·have : j = v.length := by omega
   subst this
   rw [List.drop_length]
   have d1 : decide (((v.length : Nat) : Int) < ((v.length : Nat) : Int)) = false := decide_eq_false (by omega)
   exact ⟨decide (((v.length : Nat) : Int) ≤ 5), (cf d1).trans rfl, (cf d1).trans rfl, fun h => ⟨fun r hr => (by cases hr), by have := of_decide_eq_true h; omega⟩⟩
theorem Xul (q : Nat) (v : Fe) (hl : v.length ≤ 1048576) (hs : T9 v ≤ 1048576) (hk : 1048576 < q + 4) : ∃ b, F59 (q + 4) v = some b ∧ F31 (q + 4) v = some b ∧ (b = true → (∀ s ∈ v, StaOk (q + 4) s) ∧ v.length ≤ 5) := by
 have := X0y q v hl hs hk (q + 4) 0 (Nat.zero_le _) (by omega)
 rw [List.drop_zero] at this
 exact this
end Go.Proofs.YtdmepjjepogddaaGreat.Gn
end

section
namespace Go.Proofs.YtdmepjjepogddaaGreat.Gn
open Go.Rf Go.IntWalk
set_option linter.unusedVariables false
set_option linter.unusedSimpArgs false
def a8 (b : A1) (j : Nat) : Int := Aw b (j : Int)
def n2 (b : A1) (j : Nat) : Int := a8 b j * 256 + a8 b (j + 1)
theorem Mw {b : A1} (hb : BOk b) {j : Nat} (h : j < b.length) : 0 ≤ a8 b j ∧ a8 b j ≤ 255 := by
 unfold a8; rw [Av b j h]; exact byt hb j h
theorem atI8 (b : A1) (j : Nat) : @Eq Int (Aw b (j : Int)) (a8 b j) := rfl
theorem cut2 (b : A1) (j : Nat) (h : j + 2 ≤ b.length) : (b.take (j + 2)).drop j = [a8 b j, a8 b (j + 1)] := by
 have h1 : j < (b.take (j + 2)).length := by rw [List.length_take]; omega
 have h2 : j + 1 < (b.take (j + 2)).length := by rw [List.length_take]; omega
 rw [List.drop_eq_getElem_cons h1, List.drop_eq_getElem_cons h2, List.drop_eq_nil_of_le (by rw [List.length_take]; omega)]
 unfold a8
 rw [Av b j (by omega), Av b (j + 1) (by omega), List.getElem_take, List.getElem_take]
theorem Xxk (q : Nat) (b : A1) (hb : BOk b) (hl : b.length ≤ 1048576) (j : Nat) (h : j + 2 ≤ b.length) : X6n (q + 4) b (j : Int) 2 = some (n2 b j) := by
 have b1 := Mw hb (j := j) (by omega)
 have b2 := Mw hb (j := j + 1) (by omega)
 have i1 : inB 2 1 4 = true := by decide
 have i2 : inB (j : Int) 0 (IntKind.i64.wrap (((b.length : Nat) : Int) - 2)) = true := by
  rw [i64_in _ (by omega)]
  unfold inB
  rw [decide_eq_true (by omega), decide_eq_true (by omega)]
  rfl
 have e0 : IntKind.i64.wrap ((j : Int) + 0) = (j : Int) := by rw [i64_in _ (by omega)]; omega
 have e1 : IntKind.i64.wrap ((j : Int) + 1) = ((j + 1 : Nat) : Int) := F6 j (by omega)
 have w1 : IntKind.i64.wrap (0 + 1) = 1 := by decide
 have w2 : IntKind.i64.wrap (1 + 1) = 2 := by decide
 have w3 : IntKind.i64.wrap (0 * 256) = 0 := by decide
 unfold X6n Xp8; (try dsimp only)
 refine (bs (Bo (q + 4) 2 1 4)).trans ?_
 rw [i1]
 refine (cf rfl).trans ?_
 refine (bs (Bo (q + 4) (j : Int) 0 _)).trans ?_
 rw [i2]
 refine (cf rfl).trans ?_
 have aux : ∀ k m : Nat, Ju k b (j : Int) 2 (m + 1 + 1 + 1) 0 0 = some (n2 b j) := fun k m => by
  rw [Ju]
  unfold Kv; (try dsimp only [Az])
  rw [e0, w1, w3]
  refine (ct rfl).trans ((ct (decide_eq_true (by omega))).trans ((ct (decide_eq_true (by omega))).trans ?_))
  rw [atI8 b j, i64_in (a8 b j) (by omega), Int.zero_add, i64_in (a8 b j) (by omega)]
  try dsimp only
  rw [Ju]
  unfold Kv; (try dsimp only [Az])
  rw [e1, w2]
  refine (ct rfl).trans ((ct (decide_eq_true (by omega))).trans ((ct (decide_eq_true (by omega))).trans ?_))
  rw [atI8 b (j + 1), i64_in (a8 b (j + 1)) (by omega), i64_in (a8 b j * 256) (by omega), i64_in _ (by omega)]
  try dsimp only
  rw [Ju]
  unfold Kv; (try dsimp only [Az])
  exact (cf rfl).trans rfl
 exact aux (q + 4) (q + 1)
theorem Xw1 (q : Nat) (b : A1) (hb : BOk b) (hl : b.length ≤ 1048576) (j : Nat) (h : j + 2 ≤ b.length) : Xkb (q + 4) b (j : Int) 2 = some (n2 b j) := by
 have b1 := Mw hb (j := j) (by omega)
 have b2 := Mw hb (j := j + 1) (by omega)
 have i1 : inB 2 1 4 = true := by decide
 have e8 : ((2 : Int) ^ 8) = 256 := by decide
 have w1 : IntKind.i64.wrap (0 + 1) = 1 := by decide
 have w2 : IntKind.i64.wrap (1 + 1) = 2 := by decide
 have w3 : IntKind.i64.wrap (0 * 256) = 0 := by decide
 have e2 : IntKind.i64.wrap ((j : Int) + 2) = ((j + 2 : Nat) : Int) := by rw [i64_in _ (by omega)]; omega
 have c2 := cut2 b j h
 unfold Xkb Yo; (try dsimp only)
 refine (bs (B2 (q + 4) 2 1 4)).trans ?_
 rw [i1]
 refine (cf rfl).trans ?_
 refine (cf (decide_eq_false (by omega))).trans ?_
 refine (cf (decide_eq_false (by rw [i64_in _ (by omega)]; omega))).trans ?_
 rw [e2]
 refine (ct (by rw [decide_eq_true (by omega), decide_eq_true (by omega)]; rfl)).trans ?_
 refine (ct (by rw [decide_eq_true (by omega), decide_eq_true (by omega)]; rfl)).trans ?_
 have aux : ∀ k m : Nat, Fh k b (j : Int) 2 (m + 1 + 1 + 1) 0 0 = some (n2 b j) := fun k m => by
  rw [Fh]
  unfold Eu; (try dsimp only [Az])
  rw [e2, Int.toNat_natCast, Int.toNat_natCast, c2, e8, w1, w3]
  refine (ct rfl).trans ((ct rfl).trans ((ct rfl).trans ?_))
  rw [show @Eq Int (Aw (t := .int .u8) [a8 b j, a8 b (j + 1)] 0) (a8 b j) from rfl, i64_in (a8 b j) (by omega), show (0 : Int) = 0 * 256 from rfl, Sn 0 (a8 b j) (by omega) b1]
  rw [show (0 : Int) * 256 + a8 b j = a8 b j by omega]
  try dsimp only
  rw [Fh]
  unfold Eu; (try dsimp only [Az])
  rw [e2, Int.toNat_natCast, Int.toNat_natCast, c2, e8, w2]
  refine (ct rfl).trans ((ct rfl).trans ((ct rfl).trans ?_))
  rw [show @Eq Int (Aw (t := .int .u8) [a8 b j, a8 b (j + 1)] 1) (a8 b (j + 1)) from rfl, i64_in (a8 b (j + 1)) (by omega), i64_in (a8 b j * 256) (by omega), Sn (a8 b j) (a8 b (j + 1)) b1 b2]
  try dsimp only
  rw [Fh]
  unfold Eu; (try dsimp only [Az])
  rw [e2, Int.toNat_natCast, Int.toNat_natCast, c2]
  exact (cf rfl).trans rfl
 exact aux (q + 4) (q + 1)
theorem Xxq (k : Nat) (a b : A1) (h9 : a.length ≤ 4194304) (k9 : a.length < k) : Xe4 k a b = some (decide (a = b)) := by
 unfold Xe4 Yn; (try dsimp only)
 by_cases hlen : a.length = b.length
 ·have := Xn1 a b (fun n j => G4 k a b n j) hlen
   (fun n j h h' => by
    simp only [G4, Gu, Az]
    rw [Av a j h, Av b j h', F6 j (by omega)]
    rw [decide_eq_true (by omega : ((j : Nat) : Int) < (a.length : Nat)), decide_eq_true (by omega : ((j : Nat) : Int) < (b.length : Nat)), decide_eq_true (by omega : (0 : Int) ≤ (j : Nat))]
    by_cases hc : a[j] = b[j]
    ·rw [if_pos hc, hc]; simp
    ·rw [if_neg hc, (bne_iff_ne (a := (a[j] : Int)) (b := b[j])).2 hc]; rfl)
   (fun n => by
    simp only [G4, Gu, Az]
    rw [decide_eq_false (by omega : ¬ ((a.length : Nat) : Int) < (a.length : Nat))]; rfl) k 0 (Nat.zero_le _) (by omega)
  refine (cf (by rw [hlen]; simp)).trans ?_
  simpa using this
 ·refine (ct (by rw [bne_iff_ne]; omega)).trans ?_
  rw [decide_eq_false (fun h => hlen (by rw [h]))]
end Go.Proofs.YtdmepjjepogddaaGreat.Gn
end

section
namespace Go.Proofs.YtdmepjjepogddaaGreat.Gn
open Go.Rf Go.IntWalk
set_option linter.unusedVariables false
set_option linter.unusedSimpArgs false
def Ll (p : den Ak) : Bool := inB p.1 0 65535 && inB p.2.1 0 65535 && inB p.2.2.1 0 255 && inB p.2.2.2.1 0 255 && inB p.2.2.2.2.1 0 255 && inB p.2.2.2.2.2.1 0 255 && decide ((p.2.2.2.2.2.2.2.2.length : Int) ≤ 48) && (!p.2.2.2.2.2.2.1 || decide ((p.2.2.2.2.2.2.2.2.length : Int) > 0)) && (!p.2.2.2.2.2.2.2.1 || (@BEq.beq Int _ p.2.2.2.2.2.1 0 && !p.2.2.2.2.2.2.1))
theorem C9 (k : Nat) (p : den Ak) : K8 k p = some (Ll p) := by
 obtain ⟨v0, v1, v2, v3, v4, v5, v6, v7, v8⟩ := p
 unfold K8 Xma Ll; (try dsimp only [A5])
 simp only [Bo, Option.bind_some]
 cases inB v0 0 65535; · rfl
 cases inB v1 0 65535; · rfl
 cases inB v2 0 255; · rfl
 cases inB v3 0 255; · rfl
 cases inB v4 0 255; · rfl
 cases inB v5 0 255; · rfl
 cases decide ((v8.length : Int) ≤ 48); · rfl
 cases v6 <;> cases v7 <;> cases decide ((v8.length : Int) > 0) <;> cases @BEq.beq Int _ v5 0 <;> rfl
theorem Ro (k : Nat) (p : den Ak) : F89 k p = some (Ll p) := by
 obtain ⟨v0, v1, v2, v3, v4, v5, v6, v7, v8⟩ := p
 unfold F89 Xis Ll; (try dsimp only [A5])
 simp only [B2, F5, Option.bind_some]
 cases inB v0 0 65535; · rfl
 cases inB v1 0 65535; · rfl
 cases inB v2 0 255; · rfl
 cases inB v3 0 255; · rfl
 cases inB v4 0 255; · rfl
 cases inB v5 0 255; · rfl
 cases decide ((v8.length : Int) ≤ 48); · rfl
 cases v6 <;> cases v7 <;> cases decide ((v8.length : Int) > 0) <;> cases @BEq.beq Int _ v5 0 <;> rfl
theorem Cx {v0 v1 v2 v3 v4 v5 : Int} {v6 v7 : Bool} {v8 : A1} (h : Ll (v0, v1, v2, v3, v4, v5, v6, v7, v8) = true) : (0 ≤ v0 ∧ v0 ≤ 65535) ∧ (0 ≤ v1 ∧ v1 ≤ 65535) ∧ (0 ≤ v2 ∧ v2 ≤ 255) ∧ (0 ≤ v3 ∧ v3 ≤ 255) ∧ (0 ≤ v4 ∧ v4 ≤ 255) ∧ (0 ≤ v5 ∧ v5 ≤ 255) ∧ v8.length ≤ 48 ∧ (v6 = true → 0 < v8.length) ∧ (v7 = true → v5 = 0 ∧ v6 = false) := by
 unfold Ll at h
 simp only [Bool.and_eq_true, Bool.or_eq_true, Bool.not_eq_true', decide_eq_true_eq, beq_iff_eq] at h
 obtain ⟨⟨⟨⟨⟨⟨⟨⟨q0, q1⟩, q2⟩, q3⟩, q4⟩, q5⟩, q6⟩, q7⟩, q8⟩ := h
 refine ⟨Bf q0, Bf q1, Bf q2, Bf q3, Bf q4, Bf q5, by omega, fun e => ?_, fun e => ?_⟩
 ·rcases q7 with q | q
  ·rw [e] at q; cases q
  ·omega
 ·rcases q8 with q | q
  ·rw [e] at q; cases q
  ·exact q
theorem Oo {v0 v1 v2 v3 v4 v5 : Int} {v6 v7 : Bool} {v8 : A1} (h0 : 0 ≤ v0 ∧ v0 ≤ 65535) (h1 : 0 ≤ v1 ∧ v1 ≤ 65535) (h2 : 0 ≤ v2 ∧ v2 ≤ 255) (h3 : 0 ≤ v3 ∧ v3 ≤ 255) (h4 : 0 ≤ v4 ∧ v4 ≤ 255) (h5 : 0 ≤ v5 ∧ v5 ≤ 255) (h6 : v8.length ≤ 48) (h7 : v6 = true → 0 < v8.length) (h8 : v7 = true → v5 = 0 ∧ v6 = false) : Ll (v0, v1, v2, v3, v4, v5, v6, v7, v8) = true := by
 unfold Ll
 simp only [Bool.and_eq_true, Bool.or_eq_true, Bool.not_eq_true', decide_eq_true_eq, beq_iff_eq]
 refine ⟨⟨⟨⟨⟨⟨⟨⟨B0 h0, B0 h1⟩, B0 h2⟩, B0 h3⟩, B0 h4⟩, B0 h5⟩, by omega⟩, ?_⟩, ?_⟩
 ·cases v6 with
  | false => exact .inl rfl
  | true => have := h7 rfl; right; omega
 ·cases v7 with
  | false => exact .inl rfl
  | true => exact .inr (h8 rfl)
def flP (v6 v7 : Bool) : Int := cond v6 (cond v7 3 1) (cond v7 2 0)
def hdP (v0 v1 v2 v3 v4 v5 : Int) (v6 v7 : Bool) (n : Int) : A1 := Za v0 ++ Za v1 ++ [L1 v2, L1 v3, L1 v4, L1 v5, L1 (flP v6 v7), L1 n]
def pkB (v0 v1 v2 v3 v4 v5 : Int) (v6 v7 : Bool) (v8 : A1) : A1 := hdP v0 v1 v2 v3 v4 v5 v6 v7 (v8.length : Int) ++ Za (Xcd (hdP v0 v1 v2 v3 v4 v5 v6 v7 (v8.length : Int))) ++ v8
theorem Wl (v0 v1 v2 v3 v4 v5 : Int) (v6 v7 : Bool) (n : Int) : (hdP v0 v1 v2 v3 v4 v5 v6 v7 n).length = 10 := rfl
theorem Xh0 {v0 v1 : Int} (h0 : 0 ≤ v0 ∧ v0 ≤ 65535) (h1 : 0 ≤ v1 ∧ v1 ≤ 65535) (v2 v3 v4 v5 : Int) (v6 v7 : Bool) (n : Int) : BOk (hdP v0 v1 v2 v3 v4 v5 v6 v7 n) :=
 ((Xiv h0).app (Xiv h1)).app BOk.nil.cons.cons.cons.cons.cons.cons
theorem Xhr (v0 v1 v2 v3 v4 v5 : Int) (v6 v7 : Bool) (v8 : A1) : (pkB v0 v1 v2 v3 v4 v5 v6 v7 v8).length = 12 + v8.length := by
 unfold pkB
 rw [List.length_append, List.length_append, Wl, Xm]
theorem Xxr (q : Nat) {v0 v1 v2 v3 v4 v5 : Int} {v6 v7 : Bool} {v8 : A1} (h : Ll (v0, v1, v2, v3, v4, v5, v6, v7, v8) = true) : X3g (q + 4) (v0, v1, v2, v3, v4, v5, v6, v7, v8) = some (hdP v0 v1 v2 v3 v4 v5 v6 v7 (v8.length : Int)) := by
 obtain ⟨h0, h1, _⟩ := Cx h
 have e : X6m (q + 4) (v0, v1, v2, v3, v4, v5, v6, v7, v8) = some (flP v6 v7) := by
  unfold X6m flP; (try dsimp only)
  cases v6 <;> cases v7 <;> rfl
 unfold X3g Xmo; (try dsimp only [Bi, A5])
 refine (bs (Rl q v0 h0)).trans ((bs (Rl q v1 h1)).trans ((ct rfl).trans ((bs e).trans ((ct rfl).trans rfl))))
theorem Xwr (q : Nat) {v0 v1 v2 v3 v4 v5 : Int} {v6 v7 : Bool} {v8 : A1} (h : Ll (v0, v1, v2, v3, v4, v5, v6, v7, v8) = true) (hk : 1048576 < q + 4) : X3d (q + 4) (v0, v1, v2, v3, v4, v5, v6, v7, v8) = some (pkB v0 v1 v2 v3 v4 v5 v6 v7 v8) := by
 obtain ⟨h0, h1, _, _, _, _, h6, _⟩ := Cx h
 have hB := Xh0 h0 h1 v2 v3 v4 v5 v6 v7 (v8.length : Int)
 have hl := Wl v0 v1 v2 v3 v4 v5 v6 v7 (v8.length : Int)
 unfold X3d Xui; (try dsimp only [Bi])
 refine (bs (C9 (q + 4) _)).trans ?_
 rw [h]
 refine (cf rfl).trans ((bs (Xxr q h)).trans ((bs (Xut (q + 4) _ hB (by omega) hk)).trans ((bs (Rl q _ (Xie hB))).trans ?_)))
 refine (ct (decide_eq_true (by rw [hl, Xm]; omega))).trans ((ct (decide_eq_true (by rw [List.length_append, hl, Xm]; show (10 + 2 + v8.length) * 1 ≤ _; omega))).trans rfl)
theorem Xwj (q : Nat) {v0 v1 v2 v3 v4 v5 : Int} {v6 v7 : Bool} {v8 : A1} (h : Ll (v0, v1, v2, v3, v4, v5, v6, v7, v8) = true) (hk : 1048576 < q + 4) : Xlj (q + 4) (v0, v1, v2, v3, v4, v5, v6, v7, v8) = some (pkB v0 v1 v2 v3 v4 v5 v6 v7 v8) := by
 obtain ⟨h0, h1, _, _, _, _, h6, _⟩ := Cx h
 have hB := Xh0 h0 h1 v2 v3 v4 v5 v6 v7 (v8.length : Int)
 have hl := Wl v0 v1 v2 v3 v4 v5 v6 v7 (v8.length : Int)
 have hf : IntKind.i64.wrap ((if v6 = true then 1 else 0) + (if v7 = true then 2 else 0)) = flP v6 v7 := by unfold flP; cases v6 <;> cases v7 <;> decide
 unfold Xlj Yu; (try dsimp only [A5])
 refine (bs (Y5 q v0 h0)).trans ((bs (Y5 q v1 h1)).trans ((bs (Xid (q + 4) v6 1)).trans ((bs (Xid (q + 4) v7 2)).trans ?_)))
 rw [hf]
 have c1 := Xdt (q + 4) [Za v0, Za v1, [L1 v2, L1 v3, L1 v4, L1 v5, L1 (flP v6 v7), L1 (v8.length : Int)]] (show 3 < q + 4 by omega) (by show 3 ≤ 1048576; omega) (by show 10 ≤ 4194304; omega)
 have e1 : [Za v0, Za v1, [L1 v2, L1 v3, L1 v4, L1 v5, L1 (flP v6 v7), L1 (v8.length : Int)]].flatten = hdP v0 v1 v2 v3 v4 v5 v6 v7 (v8.length : Int) := rfl
 rw [e1] at c1
 refine (bs c1).trans ((bs (X5s q _ hB (by omega))).trans ((bs (Y5 q _ (Xie hB))).trans ?_))
 have e2 : [hdP v0 v1 v2 v3 v4 v5 v6 v7 (v8.length : Int), Za (Xcd (hdP v0 v1 v2 v3 v4 v5 v6 v7 (v8.length : Int))), v8].flatten = pkB v0 v1 v2 v3 v4 v5 v6 v7 v8 := by simp [pkB]
 have c2 := Xdt (q + 4) [hdP v0 v1 v2 v3 v4 v5 v6 v7 (v8.length : Int), Za (Xcd (hdP v0 v1 v2 v3 v4 v5 v6 v7 (v8.length : Int))), v8] (show 3 < q + 4 by omega) (by show 3 ≤ 1048576; omega) (by rw [e2, Xhr]; omega)
 rw [e2] at c2
 exact (bs c2).trans rfl
def Xz (a b : Int) (n : Nat) : Bool := inB a 1 6 && inB b 0 65535 && decide ((n : Int) ≤ 20)
theorem Xip (k : Nat) (a b : Int) (l : A1) : Xu0 k (a, b, l) = some (Xz a b l.length) := by
 unfold Xu0 Xr5 Xz; (try dsimp only)
 simp only [Bo, Option.bind_some]
 cases inB a 1 6; · rfl
 cases inB b 0 65535 <;> rfl
theorem Xu7 (k : Nat) (a b : Int) (l : A1) : Xjs k (a, b, l) = some (Xz a b l.length) := by
 unfold Xjs Xl Xz; (try dsimp only)
 simp only [B2, F5, Option.bind_some]
 cases inB a 1 6; · rfl
 cases inB b 0 65535 <;> rfl
def noB (a b : Int) (l : A1) : A1 := cond (Xz a b l.length) ([L1 a] ++ Za b ++ [L1 (l.length : Int)] ++ l) []
theorem Rg {a b : Int} {n : Nat} (h : Xz a b n = true) : (1 ≤ a ∧ a ≤ 6) ∧ (0 ≤ b ∧ b ≤ 65535) ∧ n ≤ 20 := by
 unfold Xz at h
 simp only [Bool.and_eq_true, decide_eq_true_eq] at h
 exact ⟨Bf h.1.1, Bf h.1.2, by omega⟩
theorem Xvj (q : Nat) (a b : Int) (l : A1) : X44 (q + 4) (a, b, l) = some (noB a b l) := by
 unfold X44 Xsa noB; (try dsimp only [Bi, u_4])
 refine (bs (Xip (q + 4) a b l)).trans ?_
 cases h : Xz a b l.length with
 | false => rfl
 | true =>
  obtain ⟨_, h2, h3⟩ := Rg h
  refine (cf rfl).trans ((bs (Rl q b h2)).trans ((ct rfl).trans ((ct rfl).trans ((ct (decide_eq_true ?_)).trans rfl))))
  show (4 + l.length) * 1 ≤ _
  omega
theorem Xg8 (q : Nat) (a b : Int) (l : A1) (hk : 1048576 < q + 4) : Xch (q + 4) (a, b, l) = some (noB a b l) := by
 unfold Xch Wm noB; (try dsimp only [u_4])
 refine (bs (Xu7 (q + 4) a b l)).trans ?_
 cases h : Xz a b l.length with
 | false => rfl
 | true =>
  obtain ⟨_, h2, h3⟩ := Rg h
  have e1 : [[L1 a], Za b, [L1 (l.length : Int)], l].flatten = [L1 a] ++ Za b ++ [L1 (l.length : Int)] ++ l := by simp
  have c1 := Xdt (q + 4) [[L1 a], Za b, [L1 (l.length : Int)], l] (show 4 < q + 4 by omega) (by show 4 ≤ 1048576; omega) (by rw [e1]; show l.length + 1 + 1 + 1 + 1 ≤ 4194304; omega)
  rw [e1] at c1
  exact (cf rfl).trans ((bs (Y5 q b h2)).trans ((bs c1).trans rfl))
theorem Zz {a b : Int} {l : A1} (h : Xz a b l.length = true) : (noB a b l).length = 4 + l.length ∧ l.length ≤ 20 := by
 unfold noB
 rw [h]
 exact ⟨show l.length + 1 + 1 + 1 + 1 = 4 + l.length by omega, (Rg h).2.2⟩
def noF (v : A1) : (Int × (Int × A1)) × Bool := cond (decide (4 ≤ v.length) && Xz (a8 v 0) (n2 v 1) (v.drop 4).length && (a8 v 3 == ((v.drop 4).length : Int))) ((a8 v 0, n2 v 1, v.drop 4), true) ((0, 0, []), false)
theorem w8 {v : A1} (hb : BOk v) {j : Nat} (h : j < v.length) : IntKind.i64.wrap (a8 v j) = a8 v j := by
 have := Mw hb h
 exact i64_in _ (by omega)
theorem Xy6 (q : Nat) (v : A1) (hb : BOk v) (hl : v.length ≤ 1048576) : X2x (q + 4) v = some (noF v) := by
 unfold X2x Xrx noF; (try dsimp only [Bi])
 by_cases h : v.length < 4
 ·rw [decide_eq_false (by omega : ¬ 4 ≤ v.length)]
  exact (ct (decide_eq_true (by omega))).trans rfl
 ·rw [decide_eq_true (by omega : 4 ≤ v.length)]
  refine (cf (decide_eq_false (by omega))).trans ((ct (decide_eq_true (by omega))).trans ((bs (Xxk q v hb hl 1 (by omega))).trans ?_))
  refine (ct (by rw [decide_eq_true (by omega : (4 : Int) ≤ (v.length : Int))]; rfl)).trans ((ct (decide_eq_true (by simp only [List.length_nil, List.length_drop]; omega))).trans ?_)
  rw [List.nil_append, show IntKind.i64.wrap (Aw v 0) = a8 v 0 from w8 hb (j := 0) (by omega), show IntKind.i64.wrap (Aw v 3) = a8 v 3 from w8 hb (j := 3) (by omega)]
  refine (bs (Xip (q + 4) (a8 v 0) (n2 v 1) (v.drop 4))).trans ?_
  cases Xz (a8 v 0) (n2 v 1) (v.drop 4).length with
  | false => rfl
  | true =>
   refine (cf rfl).trans ((ct (decide_eq_true (by omega))).trans ?_)
   cases hc : (a8 v 3 == ((v.drop 4).length : Int)) with
   | true => exact (cf (by rw [bne, hc]; rfl)).trans rfl
   | false => exact (ct (by rw [bne, hc]; rfl)).trans rfl
theorem four (v : A1) (h : 4 ≤ v.length) : v = a8 v 0 :: a8 v 1 :: a8 v 2 :: a8 v 3 :: v.drop 4 := by
 obtain _ | ⟨a, _ | ⟨b, _ | ⟨c, _ | ⟨d, r⟩⟩⟩⟩ := v
 ·simp at h
 ·simp at h
 ·simp at h
 ·simp at h
 ·rfl
theorem Xuw (q : Nat) (v : A1) (hb : BOk v) (hl : v.length ≤ 1048576) (hk : 1048576 < q + 4) : Xj2 (q + 4) v = some (noF v) := by
 unfold Xj2 Wr noF; (try dsimp only)
 by_cases h : v.length < 4
 ·rw [decide_eq_false (by omega : ¬ 4 ≤ v.length)]
  exact (ct (decide_eq_true (by omega))).trans rfl
 ·have hv := four v (by omega)
  have q0 := Mw hb (j := 0) (by omega)
  have q1 := Mw hb (j := 1) (by omega)
  have q2 := Mw hb (j := 2) (by omega)
  have q3 := Mw hb (j := 3) (by omega)
  have hd : (v.drop 4).length = v.length - 4 := List.length_drop
  rw [decide_eq_true (by omega : 4 ≤ v.length)]
  refine (cf (decide_eq_false (by omega))).trans ((ct (decide_eq_true (by omega))).trans ((bs (Xw1 q v hb hl 1 (by omega))).trans ?_))
  refine (ct (by rw [decide_eq_true (by omega : (4 : Int) ≤ (v.length : Int))]; rfl)).trans ((bs (Rn (q + 4) (v.drop 4) (by omega))).trans ?_)
  rw [show IntKind.i64.wrap (Aw v 0) = a8 v 0 from w8 hb (j := 0) (by omega)]
  refine (bs (Xg8 q (a8 v 0) (n2 v 1) (v.drop 4) hk)).trans ?_
  have hnl : (noB (a8 v 0) (n2 v 1) (v.drop 4)).length ≤ 24 := by
   cases ho : Xz (a8 v 0) (n2 v 1) (v.drop 4).length with
   | false => unfold noB; rw [ho]; simp
   | true => have := Zz ho; omega
  refine (bs (Xxq (q + 4) _ v (by omega) (by omega))).trans ?_
  have key : decide (noB (a8 v 0) (n2 v 1) (v.drop 4) = v) = (Xz (a8 v 0) (n2 v 1) (v.drop 4).length && (a8 v 3 == ((v.drop 4).length : Int))) := by
   cases ho : Xz (a8 v 0) (n2 v 1) (v.drop 4).length with
   | false =>
    unfold noB
    rw [ho]
    exact decide_eq_false (fun e => by rw [← e] at h; simp at h)
   | true =>
    obtain ⟨_, h2, h3⟩ := Rg ho
    unfold noB
    rw [ho, Bool.true_and, cond_true]
    have e0 : L1 (a8 v 0) = a8 v 0 := u8W _ q0
    have e1 : n2 v 1 / 256 = a8 v 1 := by show (a8 v 1 * 256 + a8 v 2) / 256 = _; omega
    have e2 : n2 v 1 % 256 = a8 v 2 := by show (a8 v 1 * 256 + a8 v 2) % 256 = _; omega
    have e3 : L1 ((v.drop 4).length : Int) = ((v.drop 4).length : Int) := u8W _ (by omega)
    by_cases c : a8 v 3 = ((v.drop 4).length : Int)
    ·rw [show (a8 v 3 == ((v.drop 4).length : Int)) = true from beq_iff_eq.2 c]
     refine decide_eq_true ?_
     rw [e0, e3, ← c]
     show a8 v 0 :: n2 v 1 / 256 :: n2 v 1 % 256 :: a8 v 3 :: v.drop 4 = v
     rw [e1, e2]
     exact hv.symm
    ·rw [show (a8 v 3 == ((v.drop 4).length : Int)) = false from beq_eq_false_iff_ne.2 c]
     refine decide_eq_false (fun e => c ?_)
     have e4 := congrArg (fun l => a8 l 3) e
     have e5 : L1 ((v.drop 4).length : Int) = a8 v 3 := e4
     exact e5.symm.trans e3
  rw [key]
  cases Xz (a8 v 0) (n2 v 1) (v.drop 4).length <;> cases (a8 v 3 == ((v.drop 4).length : Int)) <;> rfl
def La (k2 : Int) (v : A1) : Bool := (noF v).2 && (@BEq.beq Int _ k2 1) && decide ((noF v).1.1 ≥ 3)
theorem Xwg (q : Nat) (p : den Ak) (hb : BOk p.2.2.2.2.2.2.2.2) (hl : p.2.2.2.2.2.2.2.2.length ≤ 1048576) : X7i (q + 4) p = some (La p.2.2.1 p.2.2.2.2.2.2.2.2) := by
 unfold X7i Xre La; (try dsimp only)
 refine (bs (Xy6 q _ hb hl)).trans ?_
 cases (noF p.2.2.2.2.2.2.2.2).2; · rfl
 refine (ct rfl).trans ?_
 cases @BEq.beq Int _ p.2.2.1 1 <;> rfl
theorem Xwa (q : Nat) (p : den Ak) (hb : BOk p.2.2.2.2.2.2.2.2) (hl : p.2.2.2.2.2.2.2.2.length ≤ 1048576) (hk : 1048576 < q + 4) : Xi5 (q + 4) p = some (La p.2.2.1 p.2.2.2.2.2.2.2.2) := by
 unfold Xi5 Xa La; (try dsimp only)
 refine (bs (Xuw q _ hb hl hk)).trans ?_
 cases (noF p.2.2.2.2.2.2.2.2).2; · rfl
 refine (ct rfl).trans ?_
 cases @BEq.beq Int _ p.2.2.1 1 <;> rfl
def noP : den Ak := (0, 0, 0, 0, 0, 0, false, false, [])
def Ve (v0 v1 v2 v3 v4 v5 : Int) (v6 v7 : Bool) (v8 : A1) (w p q : Int) : den Ak × Bool :=
 cond (!La v2 v8 && @BEq.beq Int _ v5 0) ((w, v0, 1, 64, v4, 0, false, false, noB p q ((pkB v0 v1 v2 v3 v4 v5 v6 v7 v8).take 20)), true) (noP, false)
theorem tk20 (l : A1) (n : Nat) (hl : l.length = n) : (l.take (if 20 < (n : Int) then 20 else (n : Int)).toNat).drop 0 = l.take 20 ∧ 0 ≤ (if 20 < (n : Int) then 20 else (n : Int)) ∧ (if 20 < (n : Int) then 20 else (n : Int)) ≤ (n : Int) := by
 by_cases c : 20 < (n : Int)
 ·rw [if_pos c]
  exact ⟨rfl, by omega, by omega⟩
 ·rw [if_neg c]
  refine ⟨?_, by omega, by omega⟩
  rw [Int.toNat_natCast, List.drop_zero, List.take_of_length_le (by omega), List.take_of_length_le (by omega)]
theorem Xwb (n : Nat) {v0 v1 v2 v3 v4 v5 : Int} {v6 v7 : Bool} {v8 : A1} (h : Ll (v0, v1, v2, v3, v4, v5, v6, v7, v8) = true) (hb : BOk v8) (hk : 1048576 < n + 4) {w p q : Int} (hw : inB w 0 65535 = true) (hp : 3 ≤ p ∧ p ≤ 6) (hq : 0 ≤ q ∧ q ≤ 65535) :
  Xyg (n + 4) (v0, v1, v2, v3, v4, v5, v6, v7, v8) w p q = some (Ve v0 v1 v2 v3 v4 v5 v6 v7 v8 w p q) := by
 obtain ⟨h0, h1, _, _, _, h5, h6, _⟩ := Cx h
 have hl := Xhr v0 v1 v2 v3 v4 v5 v6 v7 v8
 obtain ⟨t1, t2, t3⟩ := tk20 (pkB v0 v1 v2 v3 v4 v5 v6 v7 v8) _ rfl
 have ho : Xz p q ((pkB v0 v1 v2 v3 v4 v5 v6 v7 v8).take 20).length = true := by
  unfold Xz
  rw [B0 (show 1 ≤ p ∧ p ≤ 6 by omega), B0 hq, List.length_take]
  exact decide_eq_true (by omega)
 have hn := Zz ho
 unfold Xyg Xt4 Ve; (try dsimp only)
 refine (bs (Xwr n h hk)).trans ((ct (by rw [decide_eq_true t2, decide_eq_true t3]; rfl)).trans ?_)
 rw [t1]
 refine (bs (Xvj n _ _ _)).trans ((bs (C9 _ _)).trans ?_)
 rw [h]
 refine (cf rfl).trans ((bs (Bo _ _ _ _)).trans ?_)
 rw [hw]
 refine (cf rfl).trans ((bs (Bo _ _ _ _)).trans ?_)
 rw [B0 hp]
 refine (cf rfl).trans ((cf (beq_eq_false_iff_ne.2 (by omega))).trans ((bs (Xwg n _ hb (show v8.length ≤ 1048576 by omega))).trans ?_))
 show cond (La v2 v8) _ _ = _
 cases La v2 v8 with
 | true => rfl
 | false =>
  refine (cf rfl).trans ?_
  by_cases c : v5 = 0
  ·subst c
   exact (cf (decide_eq_false (by show ¬ (0 : Int) > 0; omega))).trans rfl
  ·rw [show @BEq.beq Int _ v5 0 = false from beq_eq_false_iff_ne.2 c]
   exact (ct (decide_eq_true (by show v5 > 0; omega))).trans rfl
theorem Xio (n : Nat) {v0 v1 v2 v3 v4 v5 : Int} {v6 v7 : Bool} {v8 : A1} (h : Ll (v0, v1, v2, v3, v4, v5, v6, v7, v8) = true) (hb : BOk v8) (hk : 1048576 < n + 4) {w p q : Int} (hw : inB w 0 65535 = true) (hp : 3 ≤ p ∧ p ≤ 6) (hq : 0 ≤ q ∧ q ≤ 65535) :
  Xa1 (n + 4) (v0, v1, v2, v3, v4, v5, v6, v7, v8) w p q = some (Ve v0 v1 v2 v3 v4 v5 v6 v7 v8 w p q) := by
 obtain ⟨h0, h1, _, _, _, h5, h6, _⟩ := Cx h
 obtain ⟨t1, t2, t3⟩ := tk20 (pkB v0 v1 v2 v3 v4 v5 v6 v7 v8) _ rfl
 unfold Xa1 Wx Ve; (try dsimp only)
 refine (bs (Ro _ _)).trans ?_
 rw [h]
 refine (cf rfl).trans ((bs (F5 _ _)).trans ?_)
 rw [hw]
 refine (cf rfl).trans ?_
 by_cases c : v5 = 0
 ·subst c
  refine (cf (by decide)).trans ((bs (Xwa n _ hb (show v8.length ≤ 1048576 by omega) hk)).trans ?_)
  show cond (La v2 v8) _ _ = _
  cases La v2 v8 with
  | true => rfl
  | false =>
   refine (cf rfl).trans ((bs (B2 _ _ _ _)).trans ?_)
   rw [B0 hp]
   refine (cf rfl).trans ((bs (F5 _ _)).trans ?_)
   rw [B0 hq]
   refine (cf rfl).trans ((bs (Xwj n h hk)).trans ((ct (by rw [decide_eq_true t2, decide_eq_true t3]; rfl)).trans ?_))
   rw [t1]
   unfold Xor; (try dsimp only)
   rw [Xg8 n _ _ _ hk]
   rfl
 ·rw [show @BEq.beq Int _ v5 0 = false from beq_eq_false_iff_ne.2 c, Bool.and_false]
  exact (ct (bne_iff_ne.2 c)).trans rfl
def I9 (b : den Ak × Bool) : den Uy := cond b.2 (3, 0, [b.1]) (0, 0, [])
theorem Xxs {k : Nat} {s : den sta} {w : den Ak} {p q : Int} {b : den Ak × Bool} (h : Xyg k w s.1 p q = some b) : Xmg k s w p q = some (I9 b) := by
 unfold Xmg I9; (try dsimp only)
 refine (bs h).trans ?_
 cases b.2 <;> rfl
theorem Xh6 {k : Nat} {s : den sta} {w : den Ak} {p q : Int} {b : den Ak × Bool} (h : Xa1 k w s.1 p q = some b) : Xci k s w p q = some (I9 b) := by
 unfold Xci I9; (try dsimp only)
 refine (bs h).trans ?_
 cases b.2 <;> rfl
end Go.Proofs.YtdmepjjepogddaaGreat.Gn
end

section
namespace Go.Proofs.YtdmepjjepogddaaGreat.Gn
open Go.Rf Go.IntWalk
set_option linter.unusedVariables false
set_option linter.unusedSimpArgs false
theorem Xuy (k : Nat) {r : den Ci} {w : Int} (ho : okR r = true) (hw : inB w 0 65535 = true) : X34 k r w = some (Rt.Uu w r) := by
 obtain ⟨a, n, g, m⟩ := r
 obtain ⟨h1, h2, _⟩ := Kt ho
 have hn := Bf h1
 have ha := Bf h2
 have hx := Bf hw
 have hr : 1 ≤ rest n ∧ rest n ≤ 65536 := Q5 hn
 unfold X34 Xnn Rt.Uu; (try dsimp only)
 refine (bs (X2 k _)).trans ?_
 rw [ho]
 refine (ct rfl).trans ((bs (Bo _ _ _ _)).trans ?_)
 rw [hw]
 have hz : ¬ rest n = 0 := by omega
 refine (ct rfl).trans ((bs (X0 k hn)).trans ((cf (decide_eq_false hz)).trans ((bs (X0 k hn)).trans ((cf (decide_eq_false hz)).trans ?_))))
 have e : ∀ x : Int, 0 ≤ x ∧ x ≤ 65535 → IntKind.i64.wrap (x.tdiv (rest n)) = x.fdiv (rest n) := fun x hx => by
  rw [Int.tdiv_eq_ediv_of_nonneg hx.1, Int.fdiv_eq_ediv_of_nonneg x (by omega)]
  have h1 := Int.ediv_nonneg hx.1 (show 0 ≤ rest n by omega)
  have h2 := Int.ediv_le_self (rest n) hx.1
  exact i64_in _ (by omega)
 show some (IntKind.i64.wrap (w.tdiv (rest n)) == IntKind.i64.wrap (Int.tdiv a (rest n))) = some (w.fdiv (rest n) == Int.fdiv a (rest n))
 rw [e w hx, e a ha]
theorem Xmk (k : Nat) (v : rtL) (w : Int) (hl : v.length ≤ 1048576) (hr : F202 k v = some true) (ho : ∀ r ∈ v, okR r = true) (hw : inB w 0 65535 = true) : ∀ (j n : Nat), j ≤ v.length → j < n → Nf k v w n ((j : Int) - 1) = some (Rt.B1 w 17 (v.take j).reverse)
 | _, 0, _, h => by omega
 | 0, n + 1, _, _ => by
  rw [Nf]
  unfold P4; (try dsimp only [Az])
  exact (cf (decide_eq_false (by omega))).trans rfl
 | j + 1, n + 1, hj, h => by
  have hlt : j < v.length := by omega
  have d1 : decide ((j : Int) < ((v.length : Nat) : Int)) = true := decide_eq_true (by omega)
  have d0 : decide ((0 : Int) ≤ ((j : Nat) : Int)) = true := decide_eq_true (by omega)
  have e1 : (((j + 1 : Nat) : Int) - 1) = (j : Int) := by omega
  have ok := ho _ (List.getElem_mem hlt)
  have hn := Bf (Kt ok).1
  rw [Nf]
  unfold P4; (try dsimp only [Az])
  rw [e1, i64_in ((j : Int) - 1) (by omega), Av v j hlt, Xmk k v w hl hr ho hw j n (by omega) (by omega), List.take_add_one, List.getElem?_eq_getElem hlt]
  refine (ct (decide_eq_true (by omega))).trans ((bs hr).trans ((ct rfl).trans ((ct d0).trans ((ct d1).trans ((bs (Xuy k ok hw)).trans ?_)))))
  rw [Option.toList_some, List.reverse_append, List.reverse_singleton, List.singleton_append, Rt.B1]
  rw [show decide (@LT.lt Int _ v[j].2.1 17) = true from decide_eq_true (by omega), Bool.true_and]
  cases Rt.Uu w v[j] with
  | true => exact (ct rfl).trans ((ct d0).trans ((ct d1).trans rfl))
  | false => rfl
theorem Xyl (k : Nat) (v : rtL) (w : Int) (hl : v.length ≤ 8) (hr : F202 k v = some true) (ho : ∀ r ∈ v, okR r = true) (hw : inB w 0 65535 = true) (hk : 1048576 < k) : X7k k v w = some (Rt.B1 w 17 v.reverse) := by
 have := Xmk k v w (by omega) hr ho hw v.length k (Nat.le_refl _) (by omega)
 rw [List.take_length] at this
 unfold X7k Xpq; (try dsimp only)
 rw [i64_in ((v.length : Int) - 1) (by omega)]
 exact this
theorem Xct (k : Nat) (v : rtL) (w : Int) (hl : v.length ≤ 8) (ho : ∀ r ∈ v, okR r = true) : F74 k v w 17 = some (Rt.B1 w 17 v.reverse) := by
 unfold F74 Rt.to; (try dsimp only)
 refine ct ?_
 rw [Bool.and_eq_true]
 refine ⟨List.all_eq_true.2 fun r hr => ?_, decide_eq_true (by omega)⟩
 exact (Kt (ho r hr)).1
theorem Ni (w p : Int) : ∀ {l : rtL}, (Rt.B1 w p l).2 = true → (Rt.B1 w p l).1 ∈ l
 | [], h => by cases h
 | r :: l, h => by
  rw [Rt.B1] at h ⊢
  cases hc : (decide (@LT.lt Int _ r.2.1 p) && Rt.Uu w r) with
  | true => rw [hc] at h; exact List.mem_cons_self ..
  | false => rw [hc] at h; exact List.mem_cons_of_mem _ (Ni w p h)
def Ia (v0 v1 v2 v3 v4 : Int) (v7 : Bool) (a : Int) (m : Bool) (d : A1) : den Ak := (v0, v1, v2, v3, v4, a, m, v7, d)
def Cv (g : Int → Bool → A1 → den Ak) (N : Nat) (f : Bool) : Nat → Int → A1 → Ct
 | 0, _, _ => []
 | c + 1, a, d => if d.length ≤ N then [g a f d] else g a true (d.take N) :: Cv g N f c (a + (N : Int)) (d.drop N)
def Di (N : Nat) : Nat → Int → A1 → Int
 | 0, a, _ => a
 | c + 1, a, d => if d.length ≤ N then a else Di N c (a + (N : Int)) (d.drop N)
theorem Uo (N : Nat) : ∀ (c : Nat) (a : Int) (d : A1), a ≤ Di N c a d
 | 0, a, d => Int.le_refl _
 | c + 1, a, d => by
  rw [Di]
  split
  ·exact Int.le_refl _
  ·have := Uo N c (a + (N : Int)) (d.drop N)
   omega
theorem Xae (N : Nat) : ∀ (c : Nat) (a : Int) (d : A1), Di N c a d ≤ a + (d.length : Int)
 | 0, a, d => by rw [Di]; omega
 | c + 1, a, d => by
  rw [Di]
  split
  ·omega
  ·have := Xae N c (a + (N : Int)) (d.drop N)
   rw [List.length_drop] at this
   omega
def L0 (g : Int → Bool → A1 → den Ak) (N : Nat) (f : Bool) (m : Ct) (c : Nat) (a : Int) (d : A1) : Ct × Bool := cond (decide (Di N c a d > 255)) ([], false) (m ++ Cv g N f c a d, true)
theorem win (l : A1) (x N : Nat) : (l.take (x + min N (l.length - x))).drop x = (l.drop x).take N := by
 rw [List.drop_take, Nat.add_sub_cancel_left]
 by_cases h : N ≤ l.length - x
 ·rw [Nat.min_eq_left h]
 ·rw [Nat.min_eq_right (by omega), List.take_of_length_le (by rw [List.length_drop]; omega), List.take_of_length_le (by rw [List.length_drop]; omega)]
theorem Xtf (k : Nat) (v0 v1 v2 v3 v4 v5 : Int) (v6 v7 : Bool) (v8 : A1) (N : Nat) (h5 : 0 ≤ v5 ∧ v5 ≤ 255) (h8 : v8.length ≤ 48) (hN : 1 ≤ N ∧ N ≤ 48) : ∀ (c n x : Nat) (m : Ct), x = 0 ∨ x < v8.length → v8.length - x < c → c < n → m.length + c ≤ 200 →
  H4 k (v0, v1, v2, v3, v4, v5, v6, v7, v8) (N : Int) n (x : Int) m = some (L0 (Ia v0 v1 v2 v3 v4 v7) N v6 m c (v5 + (x : Int)) (v8.drop x))
 | 0, _, _, _, _, h, _, _ => by omega
 | _, 0, _, _, _, _, h, _ => by omega
 | c + 1, n + 1, x, m, hx, hc, hn, hm => by
  have hxl : x ≤ v8.length := by omega
  rw [H4]
  unfold P1; (try dsimp only)
  have step : Hc k (v0, v1, v2, v3, v4, v5, v6, v7, v8) (N : Int) (H4 k (v0, v1, v2, v3, v4, v5, v6, v7, v8) (N : Int) n) some (x : Int) m = some (L0 (Ia v0 v1 v2 v3 v4 v7) N v6 m (c + 1) (v5 + (x : Int)) (v8.drop x)) := by
   have hme : (if ((v8.length : Nat) : Int) < (x : Int) + (N : Int) then ((v8.length : Nat) : Int) else (x : Int) + (N : Int)) = ((x + min N (v8.length - x) : Nat) : Int) := by split <;> omega
   have hd : (v8.drop x).length = v8.length - x := List.length_drop
   have g1 : (decide ((0 : Int) ≤ ((x + min N (v8.length - x) : Nat) : Int)) && decide (((x + min N (v8.length - x) : Nat) : Int) ≤ ((v8.length : Nat) : Int))) = true := by rw [decide_eq_true (by omega), decide_eq_true (by omega)]; rfl
   have g2 : (decide ((0 : Int) ≤ (x : Int)) && decide ((x : Int) ≤ ((x + min N (v8.length - x) : Nat) : Int))) = true := by rw [decide_eq_true (by omega), decide_eq_true (by omega)]; rfl
   have g3 : decide ((([] : A1).length + ((v8.drop x).take N).length) * 1 ≤ 140737488355328) = true := decide_eq_true (by rw [List.length_take, hd, List.length_nil]; omega)
   have g4 : decide ((m.length + 1) * 80 ≤ 140737488355328) = true := decide_eq_true (by omega)
   have lg := Uo N (c + 1) (v5 + (x : Int)) (v8.drop x)
   have nx : ∀ b : Bool, b = (if (v8.drop x).length ≤ N then v6 else true) → ¬ v5 + (x : Int) > 255 → H4 k (v0, v1, v2, v3, v4, v5, v6, v7, v8) (N : Int) n ((x : Int) + (N : Int)) (m ++ [Ia v0 v1 v2 v3 v4 v7 (v5 + (x : Int)) b ((v8.drop x).take N)]) = some (L0 (Ia v0 v1 v2 v3 v4 v7) N v6 m (c + 1) (v5 + (x : Int)) (v8.drop x)) := fun b hb ha => by
    have e1 : (x : Int) + (N : Int) = ((x + N : Nat) : Int) := by omega
    rw [e1]
    by_cases hlast : (v8.drop x).length ≤ N
    ·rw [if_pos hlast] at hb
     obtain ⟨n', rfl⟩ : ∃ n', n = n' + 1 := ⟨n - 1, by omega⟩
     rw [H4]
     unfold P1; (try dsimp only)
     refine (cf (beq_eq_false_iff_ne.2 (by omega))).trans ((cf (decide_eq_false (by omega))).trans ?_)
     unfold L0
     rw [Di, if_pos hlast, Cv, if_pos hlast, decide_eq_false ha, List.take_of_length_le hlast, hb]
     rfl
    ·rw [if_neg hlast] at hb
     have := Xtf k v0 v1 v2 v3 v4 v5 v6 v7 v8 N h5 h8 hN c n (x + N) (m ++ [Ia v0 v1 v2 v3 v4 v7 (v5 + (x : Int)) b ((v8.drop x).take N)]) (.inr (by omega)) (by omega) (by omega) (by rw [List.length_append, List.length_singleton]; omega)
     rw [this]
     unfold L0
     rw [Di, if_neg hlast, Cv, if_neg hlast, hb, List.drop_drop, List.append_assoc, List.singleton_append]
     rw [show v5 + ((x + N : Nat) : Int) = v5 + (x : Int) + (N : Int) by omega]
   unfold Hc; (try dsimp only [Bi, A5])
   rw [i64_in ((x : Int) + (N : Int)) (by omega), hme, i64_in (v5 + (x : Int)) (by omega), Int.toNat_natCast, Int.toNat_natCast, win, List.nil_append, List.length_singleton]
   by_cases ha : v5 + (x : Int) > 255
   ·have O5 : some (([] : Ct), false) = some (L0 (Ia v0 v1 v2 v3 v4 v7) N v6 m (c + 1) (v5 + (x : Int)) (v8.drop x)) := by
     unfold L0
     rw [decide_eq_true (by omega : Di N (c + 1) (v5 + (x : Int)) (v8.drop x) > 255)]
     rfl
    cases v6 with
    | true => exact (ct rfl).trans ((ct g1).trans ((ct g2).trans ((ct g3).trans ((ct (decide_eq_true ha)).trans O5))))
    | false => exact (cf rfl).trans ((ct g1).trans ((ct g2).trans ((ct g3).trans ((ct (decide_eq_true ha)).trans O5))))
   ·cases v6 with
    | true => exact (ct rfl).trans ((ct g1).trans ((ct g2).trans ((ct g3).trans ((cf (decide_eq_false ha)).trans ((ct g4).trans (nx true (by split <;> rfl) ha))))))
    | false =>
     refine (cf rfl).trans ((ct g1).trans ((ct g2).trans ((ct g3).trans ((cf (decide_eq_false ha)).trans ((ct g4).trans (nx _ ?_ ha))))))
     by_cases hlast : (v8.drop x).length ≤ N
     ·rw [if_pos hlast]; exact decide_eq_false (by omega)
     ·rw [if_neg hlast]; exact decide_eq_true (by omega)
  rcases hx with h0 | h0
  ·subst h0
   exact (ct rfl).trans step
  ·by_cases hz : x = 0
   ·subst hz
    exact (ct rfl).trans step
   ·exact (cf (beq_eq_false_iff_ne.2 (by omega))).trans ((ct (decide_eq_true (by omega))).trans step)
theorem Xyn (k : Nat) {v0 v1 v2 v3 v4 v5 : Int} {v6 v7 : Bool} {v8 : A1} {N : Nat} (h : Ll (v0, v1, v2, v3, v4, v5, v6, v7, v8) = true) (hN : 1 ≤ N ∧ N ≤ 48) (h7 : v7 = true → v8.length ≤ N) (hk : 1048576 < k) :
  Xmc k (v0, v1, v2, v3, v4, v5, v6, v7, v8) (N : Int) = some (L0 (Ia v0 v1 v2 v3 v4 v7) N v6 [] 50 v5 v8) := by
 obtain ⟨_, _, _, _, _, h5, h8, _⟩ := Cx h
 have := Xtf k v0 v1 v2 v3 v4 v5 v6 v7 v8 N h5 h8 hN 50 k 0 [] (.inl rfl) (by omega) (by omega) (by simp)
 rw [List.drop_zero, show v5 + ((0 : Nat) : Int) = v5 by omega] at this
 unfold Xmc Xoq; (try dsimp only)
 refine (bs (C9 k _)).trans ?_
 rw [h]
 refine (cf rfl).trans ((bs (Bo k _ _ _)).trans ?_)
 rw [B0 (show 1 ≤ (N : Int) ∧ (N : Int) ≤ 48 by omega)]
 refine (cf rfl).trans ?_
 by_cases c : (v8.length : Int) > (N : Int)
 ·refine (ct (decide_eq_true c)).trans ?_
  cases v7 with
  | true => have := h7 rfl; omega
  | false => exact (cf rfl).trans this
 ·exact (cf (decide_eq_false c)).trans this
theorem Xi0 (k : Nat) (l : Ct) : Xa5 k l = some l := by
 unfold Xa5 Yz; (try dsimp only)
 rw [decide_eq_true (by omega : (0 : Int) ≤ ((l.length : Nat) : Int)), decide_eq_true (Int.le_refl _)]
 simp
theorem Xsn (k : Nat) (v0 v1 v2 v3 v4 v5 : Int) (v6 : Bool) (v8 : A1) (N : Nat) (hN : 1 ≤ N) : ∀ (c : Nat) (d : A1) (m : Ct) (a : Int), d ≠ [] → d.length < c → m.length + c ≤ 200 → 0 ≤ a ∧ a + (d.length : Int) ≤ 1000 →
  Fj k (v0, v1, v2, v3, v4, v5, v6, false, v8) (N : Int) (B8 N d) m a = some (L0 (Ia v0 v1 v2 v3 v4 false) N v6 m c a d)
 | 0, _, _, _, _, h, _, _ => by omega
 | c + 1, d, m, a, h0, hc, hm, ha => by
  rw [Iq hN d h0, Fj]
  try dsimp only [A5]
  have htl : (d.take N).length = min N d.length := List.length_take
  refine (bs (Rn k (d.take N) (by omega))).trans ((ct (decide_eq_true (by rw [List.length_singleton]; omega))).trans ?_)
  by_cases hlast : d.length ≤ N
  ·have e0 : d.drop N = [] := List.drop_eq_nil_of_le hlast
   have e1 : d.take N = d := List.take_of_length_le hlast
   rw [e0, L8 hN, e1, Fj]
   have hl : (m ++ [(v0, v1, v2, v3, v4, a, true, false, d)]).length = m.length + 1 := by rw [List.length_append, List.length_singleton]
   have hi : IntKind.i64.wrap (((m ++ [(v0, v1, v2, v3, v4, a, true, false, d)]).length : Int) - 1) = ((m.length : Nat) : Int) := by rw [hl, i64_in _ (by omega)]; omega
   have hg : Aw (t := Ak) (m ++ [(v0, v1, v2, v3, v4, a, true, false, d)]) ((m.length : Nat) : Int) = (v0, v1, v2, v3, v4, a, true, false, d) := by rw [Av _ m.length (by rw [hl]; omega)]; simp
   have hset : (m ++ [(v0, v1, v2, v3, v4, a, true, false, d)]).set m.length (v0, v1, v2, v3, v4, a, v6, false, d) = m ++ [Ia v0 v1 v2 v3 v4 false a v6 d] := by simp [Ia]
   have hg2 : Aw (t := Ak) (m ++ [Ia v0 v1 v2 v3 v4 false a v6 d]) ((m.length : Nat) : Int) = Ia v0 v1 v2 v3 v4 false a v6 d := by rw [Av _ m.length (by rw [List.length_append, List.length_singleton]; omega)]; simp
   try dsimp only
   rw [hi, hg, Int.toNat_natCast]
   refine (ct (decide_eq_true (by omega))).trans ((ct (decide_eq_true (by rw [hl]; omega))).trans ((bs (congrArg some hset)).trans ((cf rfl).trans ?_)))
   rw [hg2]
   unfold L0
   rw [Di, if_pos hlast, Cv, if_pos hlast]
   by_cases c2 : a > 255
   ·rw [decide_eq_true c2]
    exact (ct (decide_eq_true c2)).trans rfl
   ·rw [decide_eq_false c2]
    exact (cf (decide_eq_false c2)).trans ((bs (Xi0 k _)).trans rfl)
  ·have hdl : (d.drop N).length = d.length - N := List.length_drop
   have hne : d.drop N ≠ [] := by
    intro e
    rw [e] at hdl
    simp at hdl
    omega
   have ea : IntKind.i64.wrap (a + ((d.take N).length : Int)) = a + (N : Int) := by rw [htl, i64_in _ (by omega)]; omega
   rw [ea, Xsn k v0 v1 v2 v3 v4 v5 v6 v8 N hN c (d.drop N) _ _ hne (by omega) (by rw [List.length_append, List.length_singleton]; omega) (by omega)]
   unfold L0
   rw [Di, if_neg hlast, Cv, if_neg hlast, List.append_assoc, List.singleton_append]
   rfl
theorem Hw (k : Nat) (p : den Ak) (hl : p.2.2.2.2.2.2.2.2.length ≤ 1048576) : Qy k p = some p := by
 unfold Qy; (try dsimp only [A5])
 exact (bs (Rn k _ (by omega))).trans rfl
theorem Nn (k : Nat) (p : den Ak) (hl : p.2.2.2.2.2.2.2.2.length ≤ 1048576) : R8 k p = some p := by
 unfold R8; (try dsimp only [Bi, A5])
 refine (ct (decide_eq_true (by rw [List.length_nil]; omega))).trans ?_
 rw [List.nil_append]
theorem Xh8 (k : Nat) {v0 v1 v2 v3 v4 v5 : Int} {v6 v7 : Bool} {v8 : A1} {N : Nat} (h : Ll (v0, v1, v2, v3, v4, v5, v6, v7, v8) = true) (hN : 1 ≤ N ∧ N ≤ 48) (h7 : v7 = true → v8.length ≤ N) :
  Xb3 k (v0, v1, v2, v3, v4, v5, v6, v7, v8) (N : Int) = some (L0 (Ia v0 v1 v2 v3 v4 v7) N v6 [] 50 v5 v8) := by
 obtain ⟨_, _, _, _, _, h5, h8, _⟩ := Cx h
 unfold Xb3; (try dsimp only)
 by_cases c : v8.length ≤ N
 ·refine (ct (decide_eq_true (by omega))).trans ((bs (Hw k _ (show v8.length ≤ 1048576 by omega))).trans ?_)
  unfold L0
  rw [Di, if_pos c, Cv, if_pos c, decide_eq_false (by omega : ¬ v5 > 255)]
  rfl
 ·have e7 : v7 = false := by
   cases v7 with
   | false => rfl
   | true => exact absurd (h7 rfl) c
  subst e7
  refine (cf (decide_eq_false (by omega))).trans ((ct ?_).trans ?_)
  ·rw [decide_eq_true (by omega : (1 : Int) ≤ (N : Int)), decide_eq_true (by omega : (N : Int) ≤ 9223372036854775807), decide_eq_true (show v8.length ≤ 140737488355328 by omega)]; rfl
  ·rw [Int.toNat_natCast]
   exact Xsn k v0 v1 v2 v3 v4 v5 v6 v8 N hN.1 50 v8 [] v5 (fun e => c (by rw [e]; simp)) (by omega) (by simp) (by omega)
end Go.Proofs.YtdmepjjepogddaaGreat.Gn
end

section
namespace Go.Proofs.YtdmepjjepogddaaGreat.Gn
open Go.Rf Go.IntWalk
set_option linter.unusedVariables false
set_option linter.unusedSimpArgs false
def wl (n : Nat) : Int := if n = 0 then 1 else (n : Int)
def wt (p : den Ak) : Int := wl p.2.2.2.2.2.2.2.2.length * ((p.2.2.2.1 : Int) + 1)
theorem Xos (n : Nat) : 1 ≤ wl n := by unfold wl; split <;> omega
theorem Xcm (v0 v1 v2 v3 v4 : Int) (v7 : Bool) {N : Nat} (hN : 1 ≤ N) (f : Bool) : ∀ (c : Nat) (a : Int) (d : A1), d.length < c → H9 wt (Cv (Ia v0 v1 v2 v3 v4 v7) N f c a d) = wl d.length * (v3 + 1)
 | 0, _, _, h => by omega
 | c + 1, a, d, h => by
  rw [Cv]
  by_cases hl : d.length ≤ N
  ·rw [if_pos hl]
   simp only [H9]
   show wl d.length * (v3 + 1) + 0 = _
   omega
  ·rw [if_neg hl]
   have hd : (d.drop N).length = d.length - N := List.length_drop
   have ht : (d.take N).length = N := by rw [List.length_take]; omega
   simp only [H9]
   rw [Xcm v0 v1 v2 v3 v4 v7 hN f c (a + (N : Int)) (d.drop N) (by omega)]
   show wl (d.take N).length * (v3 + 1) + _ = _
   rw [ht, hd, ← Int.add_mul]
   congr 1
   unfold wl
   split <;> split <;> split <;> omega
theorem Xbi (g : Int → Bool → A1 → den Ak) {N : Nat} (hN : 1 ≤ N) (f : Bool) {p : den Ak} : ∀ (c : Nat) (a : Int) (d : A1), p ∈ Cv g N f c a d → ∃ a' m d', p = g a' m d' ∧ a ≤ a' ∧ a' ≤ Di N c a d ∧ d'.length ≤ d.length ∧ (d ≠ [] → d' ≠ []) ∧ (m = f ∨ d' ≠ []) ∧ (∀ x ∈ d', x ∈ d)
 | 0, _, _, h => by simp [Cv] at h
 | c + 1, a, d, h => by
  rw [Cv] at h
  rw [Di]
  by_cases hl : d.length ≤ N
  ·rw [if_pos hl] at h ⊢
   obtain rfl := List.mem_singleton.1 h
   exact ⟨a, f, d, rfl, Int.le_refl _, Int.le_refl _, Nat.le_refl _, id, .inl rfl, fun x hx => hx⟩
  ·rw [if_neg hl] at h ⊢
   have hd : (d.drop N).length = d.length - N := List.length_drop
   have ht : (d.take N).length = N := by rw [List.length_take]; omega
   have hge := Uo N c (a + (N : Int)) (d.drop N)
   rcases List.mem_cons.1 h with e | h
   ·have hne : d.take N ≠ [] := fun e => by rw [e] at ht; simp at ht; omega
    exact ⟨a, true, d.take N, e, Int.le_refl _, by omega, by omega, fun _ => hne, .inr hne, fun x hx => List.mem_of_mem_take hx⟩
   ·have hne : d.drop N ≠ [] := fun e => by rw [e] at hd; simp at hd; omega
    obtain ⟨a', m, d', h1, h2, h3, h4, h5, h6, h7⟩ := Xbi g hN f c (a + (N : Int)) (d.drop N) h
    exact ⟨a', m, d', h1, by omega, h3, by omega, fun _ => h5 hne, h6, fun x hx => List.mem_of_mem_drop (h7 x hx)⟩
def M0 (p : den Ak) : den Ak := (p.1, p.2.1, p.2.2.1, IntKind.i64.wrap ((p.2.2.2.1 : Int) - 1), p.2.2.2.2)
theorem Te {v3 : Int} (h3 : 0 ≤ v3 ∧ v3 ≤ 255) (v0 v1 v2 v4 : Int) (v7 : Bool) (N : Nat) (f : Bool) : ∀ (c : Nat) (a : Int) (d : A1), (Cv (Ia v0 v1 v2 v3 v4 v7) N f c a d).map M0 = Cv (Ia v0 v1 v2 (v3 - 1) v4 v7) N f c a d
 | 0, _, _ => rfl
 | c + 1, a, d => by
  have e : ∀ (a : Int) (m : Bool) (d : A1), M0 (Ia v0 v1 v2 v3 v4 v7 a m d) = Ia v0 v1 v2 (v3 - 1) v4 v7 a m d := fun a m d => by
   show (v0, v1, v2, IntKind.i64.wrap (v3 - 1), v4, a, m, v7, d) = _
   rw [i64_in (v3 - 1) (by omega)]
   rfl
  rw [Cv, Cv]
  split
  ·rw [List.map_cons, e]; rfl
  ·rw [List.map_cons, e, Te h3 v0 v1 v2 v4 v7 N f c]
theorem Xdg (k : Nat) (s : den sta) (w : den Ak) (z : den Ci) : ∀ (n : Nat) (d r : Ct), d.length + r.length ≤ 1000 → r.length < n → El k s w n ((d.length + r.length : Nat) : Int) (d.length : Int) z (d ++ r) = some ((2 : Int), (z.2.2.1 : Int), d ++ r.map M0)
 | 0, _, _, _, h => by omega
 | n + 1, d, [], hl, h => by
  rw [El]
  unfold Gm; (try dsimp only [Az])
  simp
 | n + 1, d, p :: r, hl, h => by
  rw [El]
  unfold Gm; (try dsimp only [Az])
  rw [List.length_cons] at hl h
  have hj : d.length < (d ++ p :: r).length := by simp
  have hg : Aw (t := Ak) (d ++ p :: r) (d.length : Int) = p := by rw [Av _ d.length hj]; simp
  have hset : (d ++ p :: r).set d.length (M0 p) = (d ++ [M0 p]) ++ r := by simp
  have ih := Xdg k s w z n (d ++ [M0 p]) r (by simp; omega) (by omega)
  have e1 : (((d ++ [M0 p]).length + r.length : Nat) : Int) = ((d.length + (p :: r).length : Nat) : Int) := by simp; omega
  have e2 : ((d ++ [M0 p]).length : Int) = ((d.length + 1 : Nat) : Int) := by simp
  rw [e1, e2] at ih
  rw [hg, F6 d.length (by omega), Int.toNat_natCast]
  refine (ct (decide_eq_true (by simp only [List.length_cons]; omega))).trans ?_
  have d0 : decide ((0 : Int) ≤ (d.length : Int)) = true := decide_eq_true (by omega)
  have d1 : decide ((d.length : Int) < ((d ++ p :: r).length : Int)) = true := decide_eq_true (by omega)
  refine (ct d0).trans ((ct d1).trans ((ct d0).trans ((ct d1).trans ?_)))
  refine (congrArg (fun l => El k s w n ((d.length + (p :: r).length : Nat) : Int) ((d.length + 1 : Nat) : Int) z l) hset).trans (ih.trans ?_)
  rw [List.map_cons, List.append_assoc, List.singleton_append]
def Xvs (p : den Ak) (d : den Uy) : Prop :=
 (@Eq Int d.1 0 ∧ d.2.2 = []) ∨ (@Eq Int d.1 1 ∧ d.2.2 = [p]) ∨ (@Eq Int d.1 3 ∧ ∃ n : den Ak, d.2.2 = [n] ∧ n.2.2.2.2.2.2.2.2.length ≤ 1048576) ∨
  (@Eq Int d.1 2 ∧ (∀ r ∈ d.2.2, Ll r = true ∧ BOk r.2.2.2.2.2.2.2.2) ∧ H9 wt d.2.2 + 1 ≤ wt p ∧ d.2.2.length ≤ 50)
theorem I7 (p : den Ak) (v0 v1 v2 v3 v4 v5 : Int) (v6 v7 : Bool) (v8 : A1) (w a b : Int) : Xvs p (I9 (Ve v0 v1 v2 v3 v4 v5 v6 v7 v8 w a b)) := by
 unfold Ve
 cases (!La v2 v8 && @BEq.beq Int _ v5 0) with
 | false => exact .inl ⟨rfl, rfl⟩
 | true =>
  refine .inr (.inr (.inl ⟨rfl, _, rfl, ?_⟩))
  show (noB a b ((pkB v0 v1 v2 v3 v4 v5 v6 v7 v8).take 20)).length ≤ _
  cases ho : Xz a b ((pkB v0 v1 v2 v3 v4 v5 v6 v7 v8).take 20).length with
  | false => unfold noB; rw [ho]; simp
  | true => have := Zz ho; omega
theorem Ic (g : Int → Bool → A1 → den Ak) (N : Nat) (f : Bool) : ∀ (c : Nat) (a : Int) (d : A1), (Cv g N f c a d).length ≤ c
 | 0, _, _ => Nat.le_refl _
 | c + 1, a, d => by
  rw [Cv]
  split
  ·simp
  ·have := Ic g N f c (a + (N : Int)) (d.drop N)
   rw [List.length_cons]
   omega
theorem Xqo {v0 v1 v2 v3 v4 v5 : Int} {v6 v7 : Bool} {v8 : A1} {N : Nat} (h : Ll (v0, v1, v2, v3, v4, v5, v6, v7, v8) = true) (hb : BOk v8) (hN : 1 ≤ N ∧ N ≤ 48) (h7 : v7 = true → v8.length ≤ N) (h3 : ¬ v3 < 2) (gw : Int) (ha : ¬ Di N 50 v5 v8 > 255) :
  Xvs (v0, v1, v2, v3, v4, v5, v6, v7, v8) (2, gw, Cv (Ia v0 v1 v2 (v3 - 1) v4 v7) N v6 50 v5 v8) := by
 obtain ⟨q0, q1, q2, q3, q4, q5, q6, q7, q8⟩ := Cx h
 refine .inr (.inr (.inr ⟨rfl, fun r hr => ?_, ?_, Ic _ _ _ _ _ _⟩))
 ·cases v7 with
  | true =>
   have hr : r ∈ Cv (Ia v0 v1 v2 (v3 - 1) v4 true) N v6 50 v5 v8 := hr
   rw [Cv, if_pos (h7 rfl)] at hr
   obtain rfl := List.mem_singleton.1 hr
   exact ⟨Oo q0 q1 q2 (by omega) q4 q5 q6 q7 q8, hb⟩
  | false =>
   obtain ⟨a', m, d', rfl, e1, e2, e3, e4, e5, e6⟩ := Xbi (Ia v0 v1 v2 (v3 - 1) v4 false) hN.1 v6 50 v5 v8 hr
   refine ⟨Oo q0 q1 q2 (by omega) q4 (by omega) (by omega) (fun hm => ?_) (fun e => by cases e), fun x hx => hb x (e6 x hx)⟩
   refine List.length_pos_iff.2 ?_
   rcases e5 with e5 | e5
   ·exact e4 (List.length_pos_iff.1 (q7 (e5.symm.trans hm)))
   ·exact e5
 ·show H9 wt (Cv (Ia v0 v1 v2 (v3 - 1) v4 v7) N v6 50 v5 v8) + 1 ≤ wl v8.length * (v3 + 1)
  rw [Xcm v0 v1 v2 (v3 - 1) v4 v7 hN.1 v6 50 v5 v8 (by omega)]
  have := Xos v8.length
  rw [show v3 - 1 + 1 = v3 by omega, Int.mul_add, Int.mul_one]
  omega
theorem fwd (q : Nat) {s : den sta} (hs : StaOk (q + 4) s) {v0 v1 v2 v3 v4 v5 : Int} {v6 v7 : Bool} {v8 : A1} (h : Ll (v0, v1, v2, v3, v4, v5, v6, v7, v8) = true) (hb : BOk v8) (hk : 1048576 < q + 4) :
  ∃ d : den Uy, X1y (q + 4) s (v0, v1, v2, v3, v4, v5, v6, v7, v8) = some d ∧ Xf (q + 4) s (v0, v1, v2, v3, v4, v5, v6, v7, v8) = some d ∧ Xvs (v0, v1, v2, v3, v4, v5, v6, v7, v8) d := by
 obtain ⟨q0, q1, q2, q3, q4, q5, q6, q7, q8⟩ := Cx h
 have hp : K8 (q + 4) (v0, v1, v2, v3, v4, v5, v6, v7, v8) = some true := by rw [C9, h]
 have h58 := Hw (q + 4) (v0, v1, v2, v3, v4, v5, v6, v7, v8) (show v8.length ≤ 1048576 by omega)
 have h39 := Nn (q + 4) (v0, v1, v2, v3, v4, v5, v6, v7, v8) (show v8.length ≤ 1048576 by omega)
 have sg := fun (a b : Int) (ha : 3 ≤ a ∧ a ≤ 6) (hb2 : 0 ≤ b ∧ b ≤ 65535) => Xxs (Xwb q h hb hk hs.at1 ha hb2)
 have ig := fun (a b : Int) (ha : 3 ≤ a ∧ a ≤ 6) (hb2 : 0 ≤ b ∧ b ≤ 65535) => Xh6 (Xio q h hb hk hs.at1 ha hb2)
 unfold X1y Xrl Xf T6; (try dsimp only)
 rw [hs.st, hp]
 by_cases c1 : v1 = s.1
 ·have b1 : (v1 == s.1) = true := beq_iff_eq.2 c1
  exact ⟨(1, 0, [(v0, v1, v2, v3, v4, v5, v6, v7, v8)]), (bs rfl).trans ((cf rfl).trans ((bs rfl).trans ((cf rfl).trans ((ct b1).trans ((bs h39).trans rfl))))), (ct b1).trans ((bs h58).trans rfl), .inr (.inl ⟨rfl, rfl⟩)⟩
 have b1 : (v1 == s.1) = false := beq_eq_false_iff_ne.2 c1
 by_cases c2 : v3 < 2
 ·have b2 : decide (v3 < 2) = true := decide_eq_true c2
  exact ⟨_, (bs rfl).trans ((cf rfl).trans ((bs rfl).trans ((cf rfl).trans ((cf b1).trans ((ct b2).trans ((bs (sg 4 0 (by omega) (by omega))).trans rfl)))))), (cf b1).trans ((ct b2).trans ((bs (ig 4 0 (by omega) (by omega))).trans rfl)), I7 _ _ _ _ _ _ _ _ _ _ _ _ _⟩
 have b2 : decide (v3 < 2) = false := decide_eq_false c2
 have fs := Xyl (q + 4) s.2 v1 hs.len hs.rs hs.ok (B0 q1) hk
 have fi := Xct (q + 4) s.2 v1 hs.len hs.ok
 have fm := Ni v1 17 (l := s.2.reverse)
 generalize Rt.B1 v1 17 s.2.reverse = r at fs fi fm
 obtain ⟨r, fd⟩ := r
 cases fd with
 | false =>
  exact ⟨_, (bs rfl).trans ((cf rfl).trans ((bs rfl).trans ((cf rfl).trans ((cf b1).trans ((cf b2).trans ((bs fs).trans ((ct rfl).trans ((bs (sg 3 0 (by omega) (by omega))).trans rfl)))))))), (cf b1).trans ((cf b2).trans ((bs fi).trans ((ct rfl).trans ((bs (ig 3 0 (by omega) (by omega))).trans rfl)))), I7 _ _ _ _ _ _ _ _ _ _ _ _ _⟩
 | true =>
  have hm := List.mem_reverse.1 (fm rfl)
  obtain ⟨r0, r1, gw, mtu⟩ := r
  have hmtu : @LE.le Int _ 1 mtu ∧ @LE.le Int _ mtu 48 := Bf (Kt (hs.ok _ hm)).2.2.2
  obtain ⟨N, hN⟩ : ∃ N : Nat, mtu = (N : Int) := ⟨Int.toNat mtu, (Int.toNat_of_nonneg (by omega)).symm⟩
  subst hN
  have hN : 1 ≤ N ∧ N ≤ 48 := by omega
  have w3 : IntKind.i64.wrap (v3 - 1) = v3 - 1 := i64_in _ (by omega)
  have hok' : Ll (v0, v1, v2, v3 - 1, v4, v5, v6, v7, v8) = true := Oo q0 q1 q2 (by omega) q4 q5 q6 q7 q8
  have sj : (v7 = true → v8.length ≤ N) → ∃ d : den Uy, Rh (q + 4) s (v0, v1, v2, v3, v4, v5, v6, v7, v8) some ((r0, r1, gw, (N : Int)), true) = some d ∧ (Xb3 (q + 4) (v0, v1, v2, v3, v4, v5, v6, v7, v8) (N : Int)).bind (fun b6 => cond (!b6.2) (some ((0 : Int), (0 : Int), ([] : Ct))) (El (q + 4) s (v0, v1, v2, v3, v4, v5, v6, v7, v8) (q + 4) (b6.1.length : Int) 0 (r0, r1, gw, (N : Int)) b6.1)) = some d ∧ Xvs (v0, v1, v2, v3, v4, v5, v6, v7, v8) d := fun h7 => by
   have e1 := Xyn (q + 4) hok' hN h7 hk
   have e2 := Xh8 (q + 4) h hN h7
   unfold Rh; (try dsimp only)
   unfold L0 at e1 e2
   by_cases ha : Di N 50 v5 v8 > 255
   ·rw [decide_eq_true ha] at e1 e2
    refine ⟨(0, 0, []), (bs h39).trans ?_, (bs e2).trans rfl, .inl ⟨rfl, rfl⟩⟩
    show (Xmc (q + 4) (v0, v1, v2, IntKind.i64.wrap (v3 - 1), v4, v5, v6, v7, v8) (N : Int)).bind _ = _
    rw [w3]
    exact (bs e1).trans rfl
   ·rw [decide_eq_false ha] at e1 e2
    refine ⟨(2, gw, Cv (Ia v0 v1 v2 (v3 - 1) v4 v7) N v6 50 v5 v8), (bs h39).trans ?_, (bs e2).trans ?_, Xqo h hb hN h7 c2 gw ha⟩
    ·show (Xmc (q + 4) (v0, v1, v2, IntKind.i64.wrap (v3 - 1), v4, v5, v6, v7, v8) (N : Int)).bind _ = _
     rw [w3]
     exact (bs e1).trans rfl
    ·have hl := Ic (Ia v0 v1 v2 v3 v4 v7) N v6 50 v5 v8
     have := Xdg (q + 4) s (v0, v1, v2, v3, v4, v5, v6, v7, v8) (r0, r1, gw, (N : Int)) (q + 4) [] (Cv (Ia v0 v1 v2 v3 v4 v7) N v6 50 v5 v8) (by simp; omega) (by omega)
     simp only [List.nil_append, List.length_nil, Nat.zero_add] at this
     rw [Te q3] at this
     exact (cf rfl).trans this
  by_cases c3 : (v8.length : Int) > (N : Int)
  ·have b3 : decide ((v8.length : Int) > (N : Int)) = true := decide_eq_true c3
   cases v7 with
   | true =>
    exact ⟨_, (bs rfl).trans ((cf rfl).trans ((bs rfl).trans ((cf rfl).trans ((cf b1).trans ((cf b2).trans ((bs fs).trans ((cf rfl).trans ((ct b3).trans ((ct rfl).trans ((bs (sg 6 (N : Int) (by omega) (by omega))).trans rfl)))))))))), (cf b1).trans ((cf b2).trans ((bs fi).trans ((cf rfl).trans ((ct b3).trans ((ct rfl).trans ((bs (ig 6 (N : Int) (by omega) (by omega))).trans rfl)))))), I7 _ _ _ _ _ _ _ _ _ _ _ _ _⟩
   | false =>
    obtain ⟨d, e1, e2, e3⟩ := sj (fun e => by cases e)
    exact ⟨d, (bs rfl).trans ((cf rfl).trans ((bs rfl).trans ((cf rfl).trans ((cf b1).trans ((cf b2).trans ((bs fs).trans ((cf rfl).trans ((ct b3).trans ((cf rfl).trans e1))))))))), (cf b1).trans ((cf b2).trans ((bs fi).trans ((cf rfl).trans ((ct b3).trans ((cf rfl).trans e2))))), e3⟩
  ·have b3 : decide ((v8.length : Int) > (N : Int)) = false := decide_eq_false c3
   obtain ⟨d, e1, e2, e3⟩ := sj (fun e => by omega)
   exact ⟨d, (bs rfl).trans ((cf rfl).trans ((bs rfl).trans ((cf rfl).trans ((cf b1).trans ((cf b2).trans ((bs fs).trans ((cf rfl).trans ((cf b3).trans e1)))))))), (cf b1).trans ((cf b2).trans ((bs fi).trans ((cf rfl).trans ((cf b3).trans e2)))), e3⟩
end Go.Proofs.YtdmepjjepogddaaGreat.Gn
end

section
namespace Go.Proofs.YtdmepjjepogddaaGreat.Gn
open Go.Rf Go.IntWalk
set_option linter.unusedVariables false
set_option linter.unusedSimpArgs false
abbrev Vu : Type := List (den (.pair (.int .i64) Ak))
def nM (d1 : Int) (l : Ct) (m : den Eg) : den Eg := cond (d1 == 1) (m.1 ++ l, m.2) (cond (d1 == 3) (m.1, m.2.1 ++ l, m.2.2) m)
def nA (d1 t : Int) (n : Nat) (A : Bv) : Bv := cond (d1 == 1) A (cond (d1 == 3) A (cond (decide (t ≥ 0)) (A ++ List.replicate n t) A))
def nR (d1 t : Int) (l : Ct) (R : Ct) : Ct := cond (d1 == 1) R (cond (d1 == 3) R (cond (decide (t ≥ 0)) (R ++ l) R))
theorem Xwt (d1 : Int) (a : den Ak) (l : Ct) (m : den Eg) : nM d1 l (nM d1 [a] m) = nM d1 (a :: l) m := by
 unfold nM
 cases d1 == 1 <;> cases d1 == 3 <;> simp
theorem Xwd (d1 t : Int) (n : Nat) (A : Bv) : nA d1 t n (nA d1 t 1 A) = nA d1 t (n + 1) A := by
 unfold nA
 cases d1 == 1 <;> cases d1 == 3 <;> cases decide (t ≥ 0) <;> simp [List.replicate_succ]
theorem Xzc (d1 t : Int) (a : den Ak) (l : Ct) (R : Ct) : nR d1 t l (nR d1 t [a] R) = nR d1 t (a :: l) R := by
 unfold nR
 cases d1 == 1 <;> cases d1 == 3 <;> cases decide (t ≥ 0) <;> simp
theorem X41 (d1 : Int) (l : Ct) (m : den Eg) : (nM d1 l m).1.length ≤ m.1.length + l.length ∧ (nM d1 l m).2.1.length ≤ m.2.1.length + l.length := by
 unfold nM
 cases d1 == 1 <;> cases d1 == 3 <;> simp
theorem X2u (d1 t : Int) (n : Nat) (A : Bv) : (nA d1 t n A).length ≤ A.length + n := by
 unfold nA
 cases d1 == 1 <;> cases d1 == 3 <;> cases decide (t ≥ 0) <;> simp
theorem X5c (d1 t : Int) (l : Ct) (R : Ct) : (nR d1 t l R).length ≤ R.length + l.length := by
 unfold nR
 cases d1 == 1 <;> cases d1 == 3 <;> cases decide (t ≥ 0) <;> simp
theorem Vg (k : Nat) (v : Fe) (w : Int) (p : den Ak) (x t : Int) (d : den Uy) (hl : d.2.2.length ≤ 100) : ∀ (n j : Nat) (m : den Eg) (A : Bv) (R : Ct), j ≤ d.2.2.length → d.2.2.length - j < n → m.1.length + (d.2.2.length - j) ≤ 100000 → m.2.1.length + (d.2.2.length - j) ≤ 100000 → A.length + (d.2.2.length - j) ≤ 100000 → R.length + (d.2.2.length - j) ≤ 100000 →
  Zi k v w p n x t (j : Int) m d A R = some (x, t, (d.2.2.length : Int), d, nM d.1 (d.2.2.drop j) m, nA d.1 t (d.2.2.drop j).length A, nR d.1 t (d.2.2.drop j) R)
 | 0, j, m, A, R, _, h, _, _, _, _ => by omega
 | n + 1, j, m, A, R, hj, h, h1, h2, h3, h4 => by
  rw [Zi]
  unfold Xaz; (try dsimp only [Az, Bi])
  rcases Nat.lt_or_ge j d.2.2.length with hlt | hge
  ·have d1 : decide ((j : Int) < ((d.2.2.length : Nat) : Int)) = true := decide_eq_true (by omega)
   have d0 : decide ((0 : Int) ≤ ((j : Nat) : Int)) = true := decide_eq_true (by omega)
   rw [Av (t := Ak) d.2.2 j hlt, F6 j (by omega), List.drop_eq_getElem_cons hlt]
   have l1 := X41 d.1 [d.2.2[j]] m
   have l2 := X2u d.1 t 1 A
   have l3 := X5c d.1 t [d.2.2[j]] R
   rw [List.length_singleton] at l1 l3
   have ih := Vg k v w p x t d hl n (j + 1) (nM d.1 [d.2.2[j]] m) (nA d.1 t 1 A) (nR d.1 t [d.2.2[j]] R) hlt (by omega) (by omega) (by omega) (by omega) (by omega)
   rw [Xwt, Xwd, Xzc] at ih
   refine Eq.trans ?_ ih
   refine (ct d1).trans ?_
   unfold nM nA nR
   have c1 : ((d.1 : Int) == 1) = true ∨ ((d.1 : Int) == 1) = false := by cases ((d.1 : Int) == 1) <;> simp
   rcases c1 with c1 | c1
   ·refine (ct c1).trans ((ct d0).trans ((ct d1).trans ((ct (decide_eq_true (by (try simp only [List.length_singleton]); omega))).trans ?_)))
    rw [c1]
    rfl
   ·have c3 : ((d.1 : Int) == 3) = true ∨ ((d.1 : Int) == 3) = false := by cases ((d.1 : Int) == 3) <;> simp
    rw [c1]
    rcases c3 with c3 | c3
    ·refine (cf rfl).trans ((ct c3).trans ((ct d0).trans ((ct d1).trans ((ct (decide_eq_true (by (try simp only [List.length_singleton]); omega))).trans ?_))))
     rw [c3]
     rfl
    ·rw [c3]
     by_cases ht : t ≥ 0
     ·refine (cf rfl).trans ((cf rfl).trans ((ct (decide_eq_true ht)).trans ((ct (decide_eq_true (by (try simp only [List.length_singleton]); omega))).trans ((ct d0).trans ((ct d1).trans ((ct (decide_eq_true (by (try simp only [List.length_singleton]); omega))).trans ?_))))))
      rw [decide_eq_true ht]
      rfl
     ·refine (cf rfl).trans ((cf rfl).trans ((cf (decide_eq_false ht)).trans ?_))
      rw [decide_eq_false ht]
      rfl
  ·have : j = d.2.2.length := by omega
   subst this
   rw [List.drop_length]
   refine (cf (decide_eq_false (by omega))).trans ?_
   unfold nM nA nR
   cases (d.1 : Int) == 1 <;> cases (d.1 : Int) == 3 <;> cases decide (t ≥ 0) <;> simp
theorem Lx (k : Nat) (v : Fe) (w : Int) (p : den Ak) (t : Int) (m : den Eg) (ps : Ct) (hl : ps.length ≤ 100) : ∀ (n j : Nat) (Q : Vu), j ≤ ps.length → ps.length - j < n → Q.length + (ps.length - j) ≤ 100000 →
  Kj k v w p n t (ps.length : Int) (j : Int) m ps Q = some (t, (ps.length : Int), (ps.length : Int), m, ps, Q ++ (ps.drop j).map fun r => (t, r))
 | 0, j, Q, _, h, _ => by omega
 | n + 1, j, Q, hj, h, h1 => by
  rw [Kj]
  unfold J3; (try dsimp only [Az, Bi])
  rcases Nat.lt_or_ge j ps.length with hlt | hge
  ·have d1 : decide ((j : Int) < ((ps.length : Nat) : Int)) = true := decide_eq_true (by omega)
   have d0 : decide ((0 : Int) ≤ ((j : Nat) : Int)) = true := decide_eq_true (by omega)
   rw [Av (t := Ak) ps j hlt, F6 j (by omega), List.drop_eq_getElem_cons hlt]
   refine (ct d1).trans ((ct d0).trans ((ct d1).trans ((ct (decide_eq_true (by rw [List.length_singleton]; omega))).trans ?_)))
   rw [Lx k v w p t m ps hl n (j + 1) _ hlt (by omega) (by rw [List.length_append, List.length_singleton]; omega), List.map_cons, List.append_assoc, List.singleton_append]
  ·have : j = ps.length := by omega
   subst this
   rw [List.drop_length]
   refine (cf (decide_eq_false (by omega))).trans ?_
   simp
theorem Xmn (k : Nat) (v : Ct) (hv : v.length ≤ 100000) (hs : ∀ r ∈ v, r.2.2.2.2.2.2.2.2.length ≤ 1048576) : ∀ (n j : Nat) (m : Ct), j ≤ v.length → v.length - j < n → m.length + (v.length - j) ≤ 100000 → Kk k v n (j : Int) m = some (m ++ v.drop j)
 | 0, j, m, _, h, _ => by omega
 | n + 1, j, m, hj, h, hm => by
  rw [Kk]
  unfold Ku; (try dsimp only [Az, Bi])
  rcases Nat.lt_or_ge j v.length with hlt | hge
  ·have d1 : decide ((j : Int) < ((v.length : Nat) : Int)) = true := decide_eq_true (by omega)
   have d0 : decide ((0 : Int) ≤ ((j : Nat) : Int)) = true := decide_eq_true (by omega)
   rw [Av v j hlt, F6 j (by omega), List.drop_eq_getElem_cons hlt]
   refine (ct d1).trans ((ct d0).trans ((ct d1).trans ((bs (Hw k v[j] (hs _ (List.getElem_mem hlt)))).trans ((ct (decide_eq_true (by rw [List.length_singleton]; omega))).trans ?_))))
   rw [Xmn k v hv hs n (j + 1) _ hlt (by omega) (by rw [List.length_append, List.length_singleton]; omega), List.append_assoc, List.singleton_append]
  ·have : j = v.length := by omega
   subst this
   rw [List.drop_length, List.append_nil]
   exact (cf (decide_eq_false (by omega))).trans ((bs (Xi0 k m)).trans rfl)
theorem Hs (k : Nat) (v : Ct) (hv : v.length ≤ 100000) (hs : ∀ r ∈ v, r.2.2.2.2.2.2.2.2.length ≤ 1048576) (hk : 1048576 < k) : Q2 k v = some v := by
 have := Xmn k v hv hs k 0 [] (Nat.zero_le _) (by omega) (by simpa using hv)
 unfold Q2 Zy; (try dsimp only)
 simpa using this
theorem X3u {a b : Int} (ha : 1 ≤ a ∧ a ≤ 48) (hb : 0 ≤ b ∧ b ≤ 255) : 1 ≤ a * (b + 1) ∧ a * (b + 1) ≤ 12288 := by
 have h1 := Int.mul_pos (show 0 < a by omega) (show 0 < b + 1 by omega)
 have h2 := Int.mul_le_mul ha.2 (show b + 1 ≤ 256 by omega) (show 0 ≤ b + 1 by omega) (show (0 : Int) ≤ 48 by omega)
 omega
theorem Xz7 {r : den Ak} (h : Ll r = true) : 1 ≤ wt r ∧ wt r ≤ 12288 := by
 obtain ⟨v0, v1, v2, v3, v4, v5, v6, v7, v8⟩ := r
 obtain ⟨_, _, _, h3, _, _, h8, _⟩ := Cx h
 exact X3u ⟨Xos _, by show wl v8.length ≤ 48; unfold wl; split <;> omega⟩ h3
theorem Xs3 {r : den Ak} (h : Ll r = true) : 1 ≤ wt r := (Xz7 h).1
theorem X8w {r : den Ak} (h : Ll r = true) : wt r ≤ 12288 := (Xz7 h).2
theorem Xa9 {α : Type} (s : α → Int) : ∀ a b : List α, H9 s (a ++ b) = H9 s a + H9 s b
 | [], b => by simp [H9]
 | x :: a, b => by simp only [List.cons_append, H9, Xa9 s a b]; omega
theorem Ra : ∀ l : Ct, (∀ r ∈ l, Ll r = true) → (l.length : Int) ≤ H9 wt l
 | [], _ => by simp [H9]
 | r :: l, h => by
  have h1 := Xs3 (h r (by simp))
  have h2 := Ra l (fun x hx => h x (by simp [hx]))
  simp only [H9, List.length_cons]
  omega
def TOk (t : den Eg) : Prop := t.1.length ≤ 100000 ∧ t.2.1.length ≤ 100000 ∧ (∀ r ∈ t.1, r.2.2.2.2.2.2.2.2.length ≤ 1048576) ∧ (∀ r ∈ t.2.1, r.2.2.2.2.2.2.2.2.length ≤ 1048576)
def stp (t : den Eg) : Int := t.2.2
theorem trav (q : Nat) (v : Fe) (w : Int) (p : den Ak) (hv : ∀ s ∈ v, StaOk (q + 4) s) (hvl : v.length ≤ 5) (hk : 1048576 < q + 4) : ∀ (c n n' x : Nat) (m : den Eg) (A : Bv) (R : Ct), A.length = R.length → x ≤ R.length → (∀ a ∈ A.drop x, @LE.le Int _ 0 a ∧ @LT.lt Int _ a (v.length : Int)) → (∀ r ∈ R.drop x, Ll r = true ∧ BOk r.2.2.2.2.2.2.2.2) →
  H9 wt (R.drop x) ≤ (c : Int) → c < n → c < n' → x + c ≤ 20000 → m.1.length + c ≤ 20000 → m.2.1.length + c ≤ 20000 → (∀ r ∈ m.1, r.2.2.2.2.2.2.2.2.length ≤ 1048576) → (∀ r ∈ m.2.1, r.2.2.2.2.2.2.2.2.length ≤ 1048576) → (0 ≤ stp m ∧ stp m + (c : Int) ≤ 20000) →
  ∃ t : den Eg, Ga (q + 4) v w p n (x : Int) m A R = some t ∧ Bg (q + 4) v w p n' m (List.zip (A.drop x) (R.drop x)) = some t ∧ TOk t := by
 intro c
 induction c with
 | zero =>
  intro n n' x m A R hAR hx hA hR hs hn hn' hxc hm1 hm2 hl1 hl2 hst
  obtain ⟨n, rfl⟩ : ∃ i, n = i + 1 := ⟨n - 1, by omega⟩
  obtain ⟨n', rfl⟩ : ∃ i, n' = i + 1 := ⟨n' - 1, by omega⟩
  have hlen := Ra (R.drop x) (fun r hr => (hR r hr).1)
  have hdl : (R.drop x).length = R.length - x := List.length_drop
  have e : R.drop x = [] := List.length_eq_zero_iff.1 (by omega)
  rw [Ga, Bg, e, List.zip_nil_right]
  refine ⟨m, (cf (decide_eq_false (by omega))).trans rfl, (cf (by rfl)).trans ((bs (Hs _ _ (by omega) hl1 hk)).trans ((bs (Hs _ _ (by omega) hl2 hk)).trans rfl)), by omega, by omega, hl1, hl2⟩
 | succ c ih =>
  intro n n' x m A R hAR hx hA hR hs hn hn' hxc hm1 hm2 hl1 hl2 hst
  obtain ⟨n, rfl⟩ : ∃ i, n = i + 1 := ⟨n - 1, by omega⟩
  obtain ⟨n', rfl⟩ : ∃ i, n' = i + 1 := ⟨n' - 1, by omega⟩
  have hlen := Ra (R.drop x) (fun r hr => (hR r hr).1)
  have hdl : (R.drop x).length = R.length - x := List.length_drop
  rcases Nat.eq_or_lt_of_le hx with hx0 | hxl
  ·have e : R.drop x = [] := List.length_eq_zero_iff.1 (by omega)
   rw [Ga, Bg, e, List.zip_nil_right]
   exact ⟨m, (cf (decide_eq_false (by omega))).trans rfl, (cf (by rfl)).trans ((bs (Hs _ _ (by omega) hl1 hk)).trans ((bs (Hs _ _ (by omega) hl2 hk)).trans rfl)), by omega, by omega, hl1, hl2⟩
  ·have hxA : x < A.length := by omega
   have eR : R.drop x = R[x] :: R.drop (x + 1) := List.drop_eq_getElem_cons hxl
   have eA : A.drop x = A[x] :: A.drop (x + 1) := List.drop_eq_getElem_cons hxA
   have ha := hA A[x] (by rw [eA]; exact List.mem_cons_self ..)
   have hr := hR R[x] (by rw [eR]; exact List.mem_cons_self ..)
   have hA' : ∀ a ∈ A.drop (x + 1), @LE.le Int _ 0 a ∧ @LT.lt Int _ a (v.length : Int) := fun a h => hA a (by rw [eA]; exact List.mem_cons_of_mem _ h)
   have hR' : ∀ r ∈ R.drop (x + 1), Ll r = true ∧ BOk r.2.2.2.2.2.2.2.2 := fun r h => hR r (by rw [eR]; exact List.mem_cons_of_mem _ h)
   have hlen' := Ra (R.drop (x + 1)) (fun r hr => (hR' r hr).1)
   rw [eR] at hs
   simp only [H9] at hs
   obtain ⟨a, hae⟩ : ∃ a : Int, a = A[x] := ⟨_, rfl⟩
   have hd1 : ((R.drop (x + 1)).length : Int) = (R.length : Int) - (x : Int) - 1 := by rw [List.length_drop]; omega
   have gA : Aw A (x : Int) = A[x] := Av A x hxA
   have gR : Aw R (x : Int) = R[x] := Av R x hxl
   rw [eA, eR, List.zip_cons_cons]
   rw [← hae] at ha gA ⊢
   generalize R[x] = r at hr hs gR ⊢
   obtain ⟨i, rfl⟩ : ∃ i : Nat, a = (i : Int) := ⟨a.toNat, by omega⟩
   have hi : i < v.length := by omega
   have ok := hv _ (List.getElem_mem hi)
   have hwr := Xs3 hr.1
   obtain ⟨r0, r1, r2, r3, r4, r5, r6, r7, r8⟩ := r
   have hr8 := (Cx hr.1).2.2.2.2.2.2.1
   obtain ⟨d, f1, f2, good⟩ := fwd q ok hr.1 hr.2 hk
   have f3 := Xy3 (q + 4) v d.2.1 (by omega) hk
   have f4 := Zo (q + 4) v d.2.1 (by omega) hk
   have f5 := Xca d.2.1 v 0
   generalize fi d.2.1 v 0 = t at f3 f4 f5
   have d1 : decide ((x : Int) < ((R.length : Nat) : Int)) = true := decide_eq_true (by omega)
   have dA : decide ((x : Int) < ((A.length : Nat) : Int)) = true := decide_eq_true (by omega)
   have d0 : decide ((0 : Int) ≤ ((x : Nat) : Int)) = true := decide_eq_true (by omega)
   have i1 : decide ((i : Int) < ((v.length : Nat) : Int)) = true := decide_eq_true (by omega)
   have i0 : decide ((0 : Int) ≤ ((i : Nat) : Int)) = true := decide_eq_true (by omega)
   have hdl2 : d.2.2.length ≤ 50 := by
    rcases good with ⟨_, e⟩ | ⟨_, e⟩ | ⟨_, z, e, _⟩ | ⟨_, _, _, e⟩
    ·rw [e]; simp
    ·rw [e]; simp
    ·rw [e]; simp
    ·exact e
   have l2 := Vg (q + 4) v w p (x : Int) t d (by omega) (q + 4) 0 (m.1, m.2.1, m.2.2 + 1) A R (Nat.zero_le _) (by omega) (by show m.1.length + _ ≤ _; omega) (by show m.2.1.length + _ ≤ _; omega) (by omega) (by omega)
   rw [List.drop_zero] at l2
   have w1 : IntKind.i64.wrap (m.2.2 + 1) = m.2.2 + 1 := i64_in _ (show -9223372036854775808 ≤ stp m + 1 ∧ stp m + 1 ≤ 9223372036854775807 by omega)
   have SP : ∀ z, Ga (q + 4) v w p n ((x + 1 : Nat) : Int) (nM d.1 d.2.2 (m.1, m.2.1, m.2.2 + 1)) (nA d.1 t d.2.2.length A) (nR d.1 t d.2.2 R) = some z → Ga (q + 4) v w p (n + 1) (x : Int) m A R = some z := fun z hz => by
    rw [Ga, gA, gR, Av v i hi, w1]
    refine (ct d1).trans ((ct d0).trans ((ct dA).trans ((ct i0).trans ((ct i1).trans ((ct d0).trans ((ct d1).trans ((bs f1).trans ((bs f3).trans ((bs l2).trans ?_)))))))))
    show Ga (q + 4) v w p n (IntKind.i64.wrap ((x : Int) + 1)) _ _ _ = _
    rw [F6 x (by omega)]
    exact hz
   generalize hZ : (List.zip (A.drop (x + 1)) (R.drop (x + 1)) : Vu) = Z
   have hZl : Z.length ≤ 30000 := by rw [← hZ, List.length_zip]; omega
   have tl : ((((i : Int), r0, r1, r2, r3, r4, r5, r6, r7, r8) :: Z : Vu).take (((((i : Int), r0, r1, r2, r3, r4, r5, r6, r7, r8) :: Z : Vu).length : Int)).toNat).drop 1 = Z := by rw [Int.toNat_natCast, List.take_length]; rfl
   have z0 : decide (((((i : Int), r0, r1, r2, r3, r4, r5, r6, r7, r8) :: Z : Vu).length : Int) > 0) = true := decide_eq_true (by rw [List.length_cons]; omega)
   have z1 : decide ((0 : Int) < ((((i : Int), r0, r1, r2, r3, r4, r5, r6, r7, r8) :: Z : Vu).length : Int)) = true := decide_eq_true (by rw [List.length_cons]; omega)
   have z2 : (decide ((0 : Int) ≤ 1) && decide ((1 : Int) ≤ ((((i : Int), r0, r1, r2, r3, r4, r5, r6, r7, r8) :: Z : Vu).length : Int))) = true := by rw [List.length_cons, decide_eq_true (by omega : (1 : Int) ≤ ((Z.length + 1 : Nat) : Int))]; rfl
   have g0 : Aw (t := .pair (.int .i64) Ak) (((i : Int), r0, r1, r2, r3, r4, r5, r6, r7, r8) :: Z) 0 = ((i : Int), r0, r1, r2, r3, r4, r5, r6, r7, r8) := rfl
   rw [Bg, g0, w1, tl]
   dsimp only
   rw [Av v i hi]
   have m2 : 0 ≤ stp m + 1 ∧ stp m + 1 + (c : Int) ≤ 20000 := by omega
   have hs2 : H9 wt (R.drop (x + 1)) ≤ (c : Int) := by omega
   have stay : ∃ z : den Eg, Ga (q + 4) v w p n ((x + 1 : Nat) : Int) (m.1, m.2.1, m.2.2 + 1) A R = some z ∧ Bg (q + 4) v w p n' (m.1, m.2.1, m.2.2 + 1) Z = some z ∧ TOk z := by
    rw [← hZ]
    exact ih n n' (x + 1) (m.1, m.2.1, m.2.2 + 1) A R hAR hxl hA' hR' hs2 (by omega) (by omega) (by omega) (by show m.1.length + _ ≤ _; omega) (by show m.2.1.length + _ ≤ _; omega) hl1 hl2 m2
   rcases good with ⟨k0, e⟩ | ⟨k1, e⟩ | ⟨k3, b, e, eb⟩ | ⟨k2, e1, e2, e3⟩
   ·obtain ⟨z, s1, s2, s3⟩ := stay
    rw [e] at SP
    have eM : nM d.1 [] (m.1, m.2.1, m.2.2 + 1) = (m.1, m.2.1, m.2.2 + 1) := by unfold nM; rw [k0]; rfl
    have eA2 : nA d.1 t ([] : Ct).length A = A := by unfold nA; rw [k0]; cases ht : decide (t ≥ 0) <;> simp
    have eR2 : nR d.1 t [] R = R := by unfold nR; rw [k0]; cases ht : decide (t ≥ 0) <;> simp
    rw [eM, eA2, eR2] at SP
    refine ⟨z, SP z s1, ?_, s3⟩
    refine (ct z0).trans ((ct z1).trans ((ct z2).trans ((ct i0).trans ((ct i1).trans ((bs f2).trans ?_)))))
    rw [k0]
    exact s2
   ·rw [e] at SP
    have eM : nM d.1 [(r0, r1, r2, r3, r4, r5, r6, r7, r8)] (m.1, m.2.1, m.2.2 + 1) = (m.1 ++ [(r0, r1, r2, r3, r4, r5, r6, r7, r8)], m.2.1, m.2.2 + 1) := by unfold nM; rw [k1]; rfl
    have eA2 : nA d.1 t ([(r0, r1, r2, r3, r4, r5, r6, r7, r8)] : Ct).length A = A := by unfold nA; rw [k1]; rfl
    have eR2 : nR d.1 t [(r0, r1, r2, r3, r4, r5, r6, r7, r8)] R = R := by unfold nR; rw [k1]; rfl
    rw [eM, eA2, eR2] at SP
    obtain ⟨z, s1, s2, s3⟩ := ih n n' (x + 1) (m.1 ++ [(r0, r1, r2, r3, r4, r5, r6, r7, r8)], m.2.1, m.2.2 + 1) A R hAR hxl hA' hR' hs2 (by omega) (by omega) (by omega) (by show (m.1 ++ _).length + _ ≤ _; rw [List.length_append, List.length_singleton]; omega) (by show m.2.1.length + _ ≤ _; omega)
     (fun y hy => (List.mem_append.1 hy).elim (hl1 y) (fun hy => by obtain rfl := List.mem_singleton.1 hy; show r8.length ≤ _; omega)) hl2 m2
    rw [hZ] at s2
    refine ⟨z, SP z s1, ?_, s3⟩
    refine (ct z0).trans ((ct z1).trans ((ct z2).trans ((ct i0).trans ((ct i1).trans ((bs f2).trans ?_)))))
    rw [k1, e]
    exact (ct rfl).trans ((ct (decide_eq_true (by rw [List.length_singleton]; omega))).trans s2)
   ·rw [e] at SP
    have eM : nM d.1 [b] (m.1, m.2.1, m.2.2 + 1) = (m.1, m.2.1 ++ [b], m.2.2 + 1) := by unfold nM; rw [k3]; rfl
    have eA2 : nA d.1 t ([b] : Ct).length A = A := by unfold nA; rw [k3]; rfl
    have eR2 : nR d.1 t [b] R = R := by unfold nR; rw [k3]; rfl
    rw [eM, eA2, eR2] at SP
    obtain ⟨z, s1, s2, s3⟩ := ih n n' (x + 1) (m.1, m.2.1 ++ [b], m.2.2 + 1) A R hAR hxl hA' hR' hs2 (by omega) (by omega) (by omega) (by show m.1.length + _ ≤ _; omega) (by show (m.2.1 ++ _).length + _ ≤ _; rw [List.length_append, List.length_singleton]; omega)
     hl1 (fun y hy => (List.mem_append.1 hy).elim (hl2 y) (fun hy => by obtain rfl := List.mem_singleton.1 hy; exact eb)) m2
    rw [hZ] at s2
    refine ⟨z, SP z s1, ?_, s3⟩
    refine (ct z0).trans ((ct z1).trans ((ct z2).trans ((ct i0).trans ((ct i1).trans ((bs f2).trans ?_)))))
    rw [k3, e]
    exact (cf rfl).trans ((ct rfl).trans ((ct (decide_eq_true (by rw [List.length_singleton]; omega))).trans s2))
   ·have eM : nM d.1 d.2.2 (m.1, m.2.1, m.2.2 + 1) = (m.1, m.2.1, m.2.2 + 1) := by unfold nM; rw [k2]; rfl
    by_cases ht : t ≥ 0
    ·have eA2 : nA d.1 t d.2.2.length A = A ++ List.replicate d.2.2.length t := by unfold nA; rw [k2, decide_eq_true ht]; rfl
     have eR2 : nR d.1 t d.2.2 R = R ++ d.2.2 := by unfold nR; rw [k2, decide_eq_true ht]; rfl
     rw [eM, eA2, eR2] at SP
     have dA2 : (A ++ List.replicate d.2.2.length t).drop (x + 1) = A.drop (x + 1) ++ List.replicate d.2.2.length t := List.drop_append_of_le_length (by omega)
     have dR2 : (R ++ d.2.2).drop (x + 1) = R.drop (x + 1) ++ d.2.2 := List.drop_append_of_le_length (by omega)
     have zz : (List.zip ((A ++ List.replicate d.2.2.length t).drop (x + 1)) ((R ++ d.2.2).drop (x + 1)) : Vu) = Z ++ d.2.2.map fun r => (t, r) := by
      rw [dA2, dR2, List.zip_append (by rw [List.length_drop, List.length_drop]; omega), hZ]
      congr 1
      generalize d.2.2 = l
      induction l with
      | nil => rfl
      | cons y l ihl => rw [List.length_cons, List.replicate_succ, List.zip_cons_cons, List.map_cons, ihl]
     obtain ⟨z, s1, s2, s3⟩ := ih n n' (x + 1) (m.1, m.2.1, m.2.2 + 1) (A ++ List.replicate d.2.2.length t) (R ++ d.2.2) (by rw [List.length_append, List.length_append, List.length_replicate, hAR]) (by rw [List.length_append]; omega)
      (fun y hy => by
       rw [dA2] at hy
       rcases List.mem_append.1 hy with hy | hy
       ·exact hA' y hy
       ·rw [List.eq_of_mem_replicate hy]; show 0 ≤ t ∧ t < (v.length : Int); omega)
      (fun y hy => by
       rw [dR2] at hy
       exact (List.mem_append.1 hy).elim (hR' y) (e1 y))
      (by rw [dR2, Xa9]; omega) (by omega) (by omega) (by omega) (by show m.1.length + _ ≤ _; omega) (by show m.2.1.length + _ ≤ _; omega) hl1 hl2 m2
     rw [zz] at s2
     have l3 := Lx (q + 4) v w p t (m.1, m.2.1, m.2.2 + 1) d.2.2 (by omega) (q + 4) 0 Z (Nat.zero_le _) (by omega) (by omega)
     rw [List.drop_zero] at l3
     refine ⟨z, SP z s1, ?_, s3⟩
     refine (ct z0).trans ((ct z1).trans ((ct z2).trans ((ct i0).trans ((ct i1).trans ((bs f2).trans ?_)))))
     rw [k2]
     exact (cf rfl).trans ((cf rfl).trans ((ct rfl).trans ((bs f4).trans ((ct (decide_eq_true ht)).trans ((bs l3).trans s2)))))
    ·have eA2 : nA d.1 t d.2.2.length A = A := by unfold nA; rw [k2, decide_eq_false ht]; rfl
     have eR2 : nR d.1 t d.2.2 R = R := by unfold nR; rw [k2, decide_eq_false ht]; rfl
     rw [eM, eA2, eR2] at SP
     obtain ⟨z, s1, s2, s3⟩ := stay
     refine ⟨z, SP z s1, ?_, s3⟩
     refine (ct z0).trans ((ct z1).trans ((ct z2).trans ((ct i0).trans ((ct i1).trans ((bs f2).trans ?_)))))
     rw [k2]
     exact (cf rfl).trans ((cf rfl).trans ((ct rfl).trans ((bs f4).trans ((cf (decide_eq_false ht)).trans s2))))
end Go.Proofs.YtdmepjjepogddaaGreat.Gn
end

section
namespace Go.Proofs.YtdmepjjepogddaaGreat.Gn
open Go.Rf Go.IntWalk
set_option linter.unusedVariables false
set_option linter.unusedSimpArgs false
def Ch (g : Int → Bool → A1 → den Ak) : Int → Ct → A1 → Bool → Prop
 | _, [], c, f => c = [] ∧ f = true
 | x, p :: l, c, f => ∃ m d c', p = g x m d ∧ c = d ++ c' ∧ ((m = true ∧ d ≠ [] ∧ Ch g (x + (d.length : Int)) l c' f) ∨ (m = false ∧ l = [] ∧ c' = [] ∧ f = false))
theorem Ir (g : Int → Bool → A1 → den Ak) : ∀ {l : Ct} {x : Int} {c : A1} {l' : Ct} {c' : A1} {f : Bool}, Ch g x l c true → Ch g (x + (c.length : Int)) l' c' f → Ch g x (l ++ l') (c ++ c') f
 | [], x, c, l', c', f, h, h' => by
  obtain ⟨rfl, _⟩ := h
  simpa using h'
 | p :: l, x, c, l', c', f, h, h' => by
  obtain ⟨m, d, c2, rfl, rfl, h | h⟩ := h
  ·refine ⟨m, d, c2 ++ c', rfl, by rw [List.append_assoc], .inl ⟨h.1, h.2.1, Ir g h.2.2 ?_⟩⟩
   rw [List.length_append] at h'
   rw [show x + (d.length : Int) + (c2.length : Int) = x + ((d.length + c2.length : Nat) : Int) by omega]
   exact h'
  ·exact absurd h.2.2.2 (by decide)
theorem Iv (g : Int → Bool → A1 → den Ak) {x : Int} {m : Bool} {d : A1} (h : m = true → d ≠ []) : Ch g x [g x m d] d m := by
 refine ⟨m, d, [], rfl, by simp, ?_⟩
 cases m with
 | true => exact .inl ⟨rfl, h rfl, rfl, rfl⟩
 | false => exact .inr ⟨rfl, rfl, rfl, rfl⟩
theorem Xhz (g : Int → Bool → A1 → den Ak) {N : Nat} (hN : 1 ≤ N) (f : Bool) : ∀ (n : Nat) (a : Int) (d : A1), d.length < n → (f = true → d ≠ []) → Ch g a (Cv g N f n a d) d f
 | 0, _, _, h, _ => by omega
 | n + 1, a, d, h, hf => by
  rw [Cv]
  by_cases hl : d.length ≤ N
  ·rw [if_pos hl]
   exact Iv g hf
  ·rw [if_neg hl]
   have ht : (d.take N).length = N := by rw [List.length_take]; omega
   have hd : (d.drop N).length = d.length - N := List.length_drop
   refine ⟨true, d.take N, d.drop N, rfl, (List.take_append_drop N d).symm, .inl ⟨rfl, fun e => by rw [e] at ht; simp at ht; omega, ?_⟩⟩
   rw [ht]
   exact Xhz g hN f n _ _ (by omega) (fun _ e => by rw [e] at hd; simp at hd; omega)
theorem Ez (g : Int → Bool → A1 → den Ak) : ∀ {l : Ct} {x : Int} {c : A1} {f : Bool}, Ch g x l c f → l.length ≤ c.length + 1
 | [], _, _, _, _ => Nat.zero_le _
 | p :: l, x, c, f, h => by
  obtain ⟨m, d, c2, rfl, rfl, h | h⟩ := h
  ·have := Ez g h.2.2
   have := List.length_pos_iff.2 h.2.1
   rw [List.length_append, List.length_cons]
   omega
  ·rw [h.2.1]; simp
theorem Wi (g : Int → Bool → A1 → den Ak) : ∀ {l : Ct} {x : Int} {c : A1} {f : Bool} {p : den Ak}, Ch g x l c f → p ∈ l → ∃ x' m d, p = g x' m d ∧ x ≤ x' ∧ x' + (d.length : Int) ≤ x + (c.length : Int) ∧ (m = true → d ≠ []) ∧ ∀ b ∈ d, b ∈ c
 | [], _, _, _, _, _, h => by cases h
 | p :: l, x, c, f, r, h, hr => by
  obtain ⟨m, d, c2, rfl, rfl, h | h⟩ := h
  ·rcases List.mem_cons.1 hr with rfl | hr
   ·exact ⟨x, m, d, rfl, Int.le_refl _, by rw [List.length_append]; omega, fun _ => h.2.1, fun b hb => List.mem_append_left _ hb⟩
   ·obtain ⟨x', m', d', e1, e2, e3, e4, e5⟩ := Wi g h.2.2 hr
    exact ⟨x', m', d', e1, by omega, by rw [List.length_append]; omega, e4, fun b hb => List.mem_append_right _ (e5 b hb)⟩
  ·rw [h.2.1] at hr
   obtain rfl := List.mem_singleton.1 hr
   exact ⟨x, m, d, rfl, Int.le_refl _, by rw [List.length_append]; omega, (fun e => by rw [h.1] at e; cases e), fun b hb => List.mem_append_left _ hb⟩
theorem fwdV (q : Nat) {s : den sta} (hs : StaOk (q + 4) s) {v0 v1 v2 v3 v4 v5 : Int} {v6 : Bool} {v8 : A1} (h : Ll (v0, v1, v2, v3, v4, v5, v6, false, v8) = true) (hb : BOk v8) (hk : 1048576 < q + 4) (ha : v5 + (v8.length : Int) ≤ 255) :
    ∃ d : den Uy, Xf (q + 4) s (v0, v1, v2, v3, v4, v5, v6, false, v8) = some d ∧
      ((v1 = s.1 ∧ d = (1, 0, [(v0, v1, v2, v3, v4, v5, v6, false, v8)])) ∨
       (v1 ≠ s.1 ∧ (v3 < 2 ∨ (Rt.B1 v1 17 s.2.reverse).2 = false) ∧ (@Eq Int d.1 0 ∨ @Eq Int d.1 3)) ∨
       (v1 ≠ s.1 ∧ ¬ v3 < 2 ∧ (Rt.B1 v1 17 s.2.reverse).2 = true ∧ ∃ N : Nat, (1 ≤ N ∧ N ≤ 48) ∧ @Eq Int (Rt.B1 v1 17 s.2.reverse).1.2.2.2 (N : Int) ∧ d = (2, (Rt.B1 v1 17 s.2.reverse).1.2.2.1, Cv (Ia v0 v1 v2 (v3 - 1) v4 false) N v6 50 v5 v8))) := by
  obtain ⟨q0, q1, q2, q3, q4, q5, q6, q7, q8⟩ := Cx h
  have h58 := Hw (q + 4) (v0, v1, v2, v3, v4, v5, v6, false, v8) (show v8.length ≤ 1048576 by omega)
  have ig := fun (a b : Int) (ha : 3 ≤ a ∧ a ≤ 6) (hb2 : 0 ≤ b ∧ b ≤ 65535) => Xh6 (Xio q h hb hk hs.at1 ha hb2)
  have gk : ∀ b : den Ak × Bool, @Eq Int (I9 b).1 0 ∨ @Eq Int (I9 b).1 3 := fun b => by
    unfold I9
    cases b.2 with
    | true => exact .inr rfl
    | false => exact .inl rfl
  unfold Xf T6; (try dsimp only)
  by_cases c1 : v1 = s.1
  · have b1 : (v1 == s.1) = true := beq_iff_eq.2 c1
    exact ⟨_, (ct b1).trans ((bs h58).trans rfl), .inl ⟨c1, rfl⟩⟩
  have b1 : (v1 == s.1) = false := beq_eq_false_iff_ne.2 c1
  by_cases c2 : v3 < 2
  · exact ⟨_, (cf b1).trans ((ct (decide_eq_true c2)).trans ((bs (ig 4 0 (by omega) (by omega))).trans rfl)), .inr (.inl ⟨c1, .inl c2, gk _⟩)⟩
  have b2 : decide (v3 < 2) = false := decide_eq_false c2
  have fi := Xct (q + 4) s.2 v1 hs.len hs.ok
  have fm := Ni v1 17 (l := s.2.reverse)
  generalize Rt.B1 v1 17 s.2.reverse = r at fi fm ⊢
  obtain ⟨r, fd⟩ := r
  cases fd with
  | false => exact ⟨_, (cf b1).trans ((cf b2).trans ((bs fi).trans ((ct rfl).trans ((bs (ig 3 0 (by omega) (by omega))).trans rfl)))), .inr (.inl ⟨c1, .inr rfl, gk _⟩)⟩
  | true =>
    have hm := List.mem_reverse.1 (fm rfl)
    obtain ⟨r0, r1, gw, mtu⟩ := r
    have hmtu : @LE.le Int _ 1 mtu ∧ @LE.le Int _ mtu 48 := Bf (Kt (hs.ok _ hm)).2.2.2
    obtain ⟨N, hN⟩ : ∃ N : Nat, mtu = (N : Int) := ⟨Int.toNat mtu, (Int.toNat_of_nonneg (by omega)).symm⟩
    subst hN
    have hN : 1 ≤ N ∧ N ≤ 48 := by omega
    have e2 := Xh8 (q + 4) h hN (fun e => by cases e)
    have hla := Xae N 50 v5 v8
    unfold L0 at e2
    rw [decide_eq_false (by omega : ¬ Di N 50 v5 v8 > 255)] at e2
    have hl := Ic (Ia v0 v1 v2 v3 v4 false) N v6 50 v5 v8
    have := Xdg (q + 4) s (v0, v1, v2, v3, v4, v5, v6, false, v8) (r0, r1, gw, (N : Int)) (q + 4) [] (Cv (Ia v0 v1 v2 v3 v4 false) N v6 50 v5 v8) (by simp; omega) (by omega)
    simp only [List.nil_append, List.length_nil, Nat.zero_add] at this
    rw [Te q3] at this
    refine ⟨(2, gw, Cv (Ia v0 v1 v2 (v3 - 1) v4 false) N v6 50 v5 v8), ?_, .inr (.inr ⟨c1, c2, rfl, N, hN, rfl, rfl⟩)⟩
    by_cases c3 : (v8.length : Int) > (N : Int)
    · exact (cf b1).trans ((cf b2).trans ((bs fi).trans ((cf rfl).trans ((ct (decide_eq_true c3)).trans ((cf rfl).trans ((bs e2).trans ((cf rfl).trans this)))))))
    · exact (cf b1).trans ((cf b2).trans ((bs fi).trans ((cf rfl).trans ((cf (decide_eq_false c3)).trans ((bs e2).trans ((cf rfl).trans this))))))
def D5 (v : Fe) (s : den sta) (to h : Int) : Option (Int × Nat) :=
 cond (decide (h < 2)) none (cond (Rt.B1 to 17 s.2.reverse).2 (cond (decide (fi (Rt.B1 to 17 s.2.reverse).1.2.2.1 v 0 ≥ 0)) (some (fi (Rt.B1 to 17 s.2.reverse).1.2.2.1 v 0, Int.toNat (Rt.B1 to 17 s.2.reverse).1.2.2.2)) none) none)
theorem M6 {α : Type} {c : Bool} {x : Option α} {t : α} (h : cond c x none = some t) : c = true ∧ x = some t := by
 cases c with
 | true => exact ⟨rfl, h⟩
 | false => cases h
theorem X9h (q : Nat) {v : Fe} (w : Int) (p : den Ak) (hv : ∀ s ∈ v, StaOk (q + 4) s) (hvl : v.length ≤ 5) (hk : 1048576 < q + 4) {n a : Nat} {s : den sta} (hs : v[a]? = some s) {m : den Eg} {v0 v1 v2 v3 v4 v5 : Int} {v6 : Bool} {v8 : A1}
    (h : Ll (v0, v1, v2, v3, v4, v5, v6, false, v8) = true) (hb : BOk v8) (ha : v5 + (v8.length : Int) ≤ 255) {Z : Vu} (hZ : Z.length ≤ 1000) (hm : m.1.length ≤ 1000) {t : den Eg}
    (ht : Bg (q + 4) v w p (n + 1) m (((a : Int), v0, v1, v2, v3, v4, v5, v6, false, v8) :: Z) = some t) :
    ∃ m' : den Eg, ∃ Q' : Vu, Bg (q + 4) v w p n m' Q' = some t ∧
      ((v1 = s.1 ∧ m'.1 = m.1 ++ [(v0, v1, v2, v3, v4, v5, v6, false, v8)] ∧ Q' = Z) ∨
       (v1 ≠ s.1 ∧ m'.1 = m.1 ∧ ((D5 v s v1 v3 = none ∧ Q' = Z) ∨ ∃ b : Nat, ∃ N : Nat, D5 v s v1 v3 = some ((b : Int), N) ∧ b < v.length ∧ 1 ≤ N ∧ 2 ≤ v3 ∧ Q' = Z ++ (Cv (Ia v0 v1 v2 (v3 - 1) v4 false) N v6 50 v5 v8).map fun r => ((b : Int), r)))) := by
  obtain ⟨hi, hse⟩ := List.getElem?_eq_some_iff.1 hs
  have ok := hv _ (List.getElem_mem hi)
  rw [hse] at ok
  obtain ⟨d, f2, hd⟩ := fwdV q ok h hb hk ha
  have i1 : decide ((a : Int) < ((v.length : Nat) : Int)) = true := decide_eq_true (by omega)
  have i0 : decide ((0 : Int) ≤ ((a : Nat) : Int)) = true := decide_eq_true (by omega)
  have tl : ((((a : Int), v0, v1, v2, v3, v4, v5, v6, false, v8) :: Z : Vu).take (((((a : Int), v0, v1, v2, v3, v4, v5, v6, false, v8) :: Z : Vu).length : Int)).toNat).drop 1 = Z := by rw [Int.toNat_natCast, List.take_length]; rfl
  have z0 : decide (((((a : Int), v0, v1, v2, v3, v4, v5, v6, false, v8) :: Z : Vu).length : Int) > 0) = true := decide_eq_true (by rw [List.length_cons]; omega)
  have z1 : decide ((0 : Int) < ((((a : Int), v0, v1, v2, v3, v4, v5, v6, false, v8) :: Z : Vu).length : Int)) = true := decide_eq_true (by rw [List.length_cons]; omega)
  have z2 : (decide ((0 : Int) ≤ 1) && decide ((1 : Int) ≤ ((((a : Int), v0, v1, v2, v3, v4, v5, v6, false, v8) :: Z : Vu).length : Int))) = true := by rw [List.length_cons, decide_eq_true (by omega : (1 : Int) ≤ ((Z.length + 1 : Nat) : Int))]; rfl
  have g0 : Aw (t := .pair (.int .i64) Ak) (((a : Int), v0, v1, v2, v3, v4, v5, v6, false, v8) :: Z) 0 = ((a : Int), v0, v1, v2, v3, v4, v5, v6, false, v8) := rfl
  rw [Bg, g0, tl] at ht
  dsimp only at ht
  rw [Av v a hi, hse] at ht
  replace ht := Eq.trans (Eq.symm ((ct z0).trans ((ct z1).trans ((ct z2).trans ((ct i0).trans ((ct i1).trans (bs f2))))))) ht
  rcases hd with ⟨c1, rfl⟩ | ⟨c1, c2, c3⟩ | ⟨c1, c2, c3, N, hN, eN, rfl⟩
  · obtain ⟨_, ht⟩ := M6 ht
    exact ⟨_, _, ht, .inl ⟨c1, rfl, rfl⟩⟩
  · have hh : D5 v s v1 v3 = none := by
      unfold D5
      by_cases c : v3 < 2
      · rw [decide_eq_true c]; rfl
      · rw [decide_eq_false c, c2.resolve_left c]; rfl
    rcases c3 with c3 | c3
    · rw [c3] at ht
      exact ⟨_, _, ht, .inr ⟨c1, rfl, .inl ⟨hh, rfl⟩⟩⟩
    · rw [c3] at ht
      obtain ⟨_, ht⟩ := M6 ht
      exact ⟨_, _, ht, .inr ⟨c1, rfl, .inl ⟨hh, rfl⟩⟩⟩
  · have f4 := Zo (q + 4) v (Rt.B1 v1 17 s.2.reverse).1.2.2.1 (by omega) hk
    have f5 := Xca (Rt.B1 v1 17 s.2.reverse).1.2.2.1 v 0
    have hh : D5 v s v1 v3 = cond (decide (fi (Rt.B1 v1 17 s.2.reverse).1.2.2.1 v 0 ≥ 0)) (some (fi (Rt.B1 v1 17 s.2.reverse).1.2.2.1 v 0, N)) none := by
      unfold D5
      rw [decide_eq_false c2, c3, cond_false, cond_true]
      have : Int.toNat (Rt.B1 v1 17 s.2.reverse).1.2.2.2 = N := by rw [eN]; rfl
      rw [this]
    have ht : (F75 (q + 4) v (Rt.B1 v1 17 s.2.reverse).1.2.2.1).bind _ = some t := ht
    rw [f4, Option.bind_some] at ht
    generalize fi (Rt.B1 v1 17 s.2.reverse).1.2.2.1 v 0 = b at *
    by_cases cb : b ≥ 0
    · obtain ⟨b, rfl⟩ : ∃ i : Nat, b = (i : Int) := ⟨b.toNat, by omega⟩
      rw [decide_eq_true cb] at ht hh
      have hl := Ic (Ia v0 v1 v2 (v3 - 1) v4 false) N v6 50 v5 v8
      have l3 := Lx (q + 4) v w p (b : Int) (m.1, m.2.1, IntKind.i64.wrap (m.2.2 + 1)) (Cv (Ia v0 v1 v2 (v3 - 1) v4 false) N v6 50 v5 v8) (by omega) (q + 4) 0 Z (Nat.zero_le _) (by omega) (by omega)
      rw [List.drop_zero] at l3
      have ht := (bs l3).symm.trans ht
      exact ⟨_, _, ht, .inr ⟨c1, rfl, .inr ⟨b, N, hh, by omega, hN.1, by omega, rfl⟩⟩⟩
    · rw [decide_eq_false cb] at ht hh
      exact ⟨_, _, ht, .inr ⟨c1, rfl, .inl ⟨hh, rfl⟩⟩⟩
end Go.Proofs.YtdmepjjepogddaaGreat.Gn
end

section
namespace Go.Proofs.YtdmepjjepogddaaGreat.Gn
open Go.Rf Go.IntWalk
set_option linter.unusedVariables false
set_option linter.unusedSimpArgs false
def Ba (fr to kd id h : Int) : Int → Bool → A1 → den Ak := Ia fr to kd h id false
def Ut (a : Nat) (l : Ct) : Vu := l.map fun r => ((a : Int), r)
theorem Z6 {v : Fe} {s : den sta} {to h : Int} {b : Int} {N : Nat} (e : D5 v s to h = some (b, N)) : 2 ≤ h ∧ 0 ≤ b ∧ b < (v.length : Int) := by
 unfold D5 at e
 by_cases c : h < 2
 ·rw [decide_eq_true c] at e; cases e
 ·rw [decide_eq_false c, cond_false] at e
  obtain ⟨_, e⟩ := M6 e
  have f5 := Xca (Rt.B1 to 17 s.2.reverse).1.2.2.1 v 0
  by_cases c2 : fi (Rt.B1 to 17 s.2.reverse).1.2.2.1 v 0 ≥ 0
  ·rw [decide_eq_true c2, cond_true] at e
   simp only [Option.some.injEq, Prod.mk.injEq] at e
   omega
  ·rw [decide_eq_false c2] at e; cases e
def Tg (v : Fe) (to : Int) : Nat → Nat → Bool
 | 0, a => (v[a]?).any fun s => @BEq.beq Int _ s.1 to
 | n + 1, a => (v[a]?).any fun s => @BEq.beq Int _ s.1 to || ((D5 v s to ((n + 1 : Nat) : Int)).any fun z => Tg v to n z.1.toNat)
theorem Xon {v : Fe} {to : Int} {a : Nat} {s : den sta} (hs : v[a]? = some s) (e : to = s.1) : ∀ n, Tg v to n a = true
 | 0 => by rw [Tg, hs]; exact beq_iff_eq.2 e.symm
 | n + 1 => by rw [Tg, hs, Option.any_some, show @BEq.beq Int _ s.1 to = true from beq_iff_eq.2 e.symm]; rfl
theorem Xm9 {v : Fe} {to : Int} {a : Nat} {s : den sta} (hs : v[a]? = some s) (e : to ≠ s.1) : ∀ n : Nat, D5 v s to (n : Int) = none → Tg v to n a = false
 | 0, _ => by rw [Tg, hs]; exact beq_eq_false_iff_ne.2 (Ne.symm e)
 | n + 1, h => by rw [Tg, hs, Option.any_some, show @BEq.beq Int _ s.1 to = false from beq_eq_false_iff_ne.2 (Ne.symm e), h]; rfl
theorem Xoo {v : Fe} {to : Int} {a b N : Nat} {s : den sta} (hs : v[a]? = some s) (e : to ≠ s.1) (n : Nat) (h : D5 v s to ((n + 1 : Nat) : Int) = some ((b : Int), N)) : Tg v to (n + 1) a = Tg v to n b := by
 rw [Tg, hs, Option.any_some, show @BEq.beq Int _ s.1 to = false from beq_eq_false_iff_ne.2 (Ne.symm e), h]
 rfl
def Inv (v : Fe) (fr to kd id : Int) (c : A1) (β : Bool) (arr : Ct) (Q : Vu) : Prop :=
  (Q = [] ∧ ((arr = [] ∧ β = false) ∨ (∃ h : Int, (0 ≤ h ∧ h ≤ 64) ∧ Ch (Ba fr to kd id h) 0 arr c false) ∧ β = true)) ∨
  ∃ (a : Nat) (s : den sta) (h : Int) (c1 c2 : A1) (A : Ct), v[a]? = some s ∧ (0 ≤ h ∧ h ≤ 64 ∧ Tg v to h.toNat a = β) ∧ c = c1 ++ c2 ∧ Ch (Ba fr to kd id h) (c1.length : Int) A c2 false ∧
    ((to = s.1 ∧ Ch (Ba fr to kd id h) 0 arr c1 true ∧ Q = Ut a A) ∨
     (to ≠ s.1 ∧ arr = [] ∧ ((D5 v s to h = none ∧ Q = Ut a A) ∨
       ∃ (b N : Nat) (B : Ct), D5 v s to h = some ((b : Int), N) ∧ b < v.length ∧ 1 ≤ h ∧ Ch (Ba fr to kd id (h - 1)) 0 B c1 true ∧ Q = Ut a A ++ Ut b B)))
theorem Xhk {v : Fe} {fr to kd id : Int} {c : A1} {a : Nat} {h : Int} {A : Ct} (ha : a < v.length) (hh : 0 ≤ h ∧ h ≤ 64) (hA : Ch (Ba fr to kd id h) 0 A c false) : Inv v fr to kd id c (Tg v to h.toNat a) [] (Ut a A) := by
 refine .inr ⟨a, v[a], h, [], c, A, List.getElem?_eq_getElem ha, ⟨hh.1, hh.2, rfl⟩, rfl, hA, ?_⟩
 by_cases e : to = v[a].1
 ·exact .inl ⟨e, ⟨rfl, rfl⟩, rfl⟩
 ·refine .inr ⟨e, rfl, ?_⟩
  cases ho : D5 v v[a] to h with
  | none => exact .inl ⟨rfl, rfl⟩
  | some z =>
   obtain ⟨b, N⟩ := z
   obtain ⟨h1, h2, h3⟩ := Z6 ho
   obtain ⟨b, rfl⟩ : ∃ i : Nat, b = (i : Int) := ⟨b.toNat, by omega⟩
   exact .inr ⟨b, N, [], rfl, by omega, by omega, ⟨rfl, rfl⟩, by simp [Ut]⟩
theorem X9q (g : Int → Bool → A1 → den Ak) {x : Int} {l : Ct} {c : A1} (h : Ch g x l c false) : l ≠ [] := fun e => by
 subst e
 exact absurd h.2 (by decide)
theorem Q8 (q : Nat) {v : Fe} (w : Int) (p : den Ak) (hv : ∀ s ∈ v, StaOk (q + 4) s) (hvl : v.length ≤ 5) (hk : 1048576 < q + 4) {fr to kd id : Int} {c : A1} (hfr : 0 ≤ fr ∧ fr ≤ 65535) (hto : 0 ≤ to ∧ to ≤ 65535) (hkd : 0 ≤ kd ∧ kd ≤ 255) (hid : 0 ≤ id ∧ id ≤ 255) (hc : c.length ≤ 48) (hb : BOk c) :
  ∀ (n : Nat) (m : den Eg) (Q : Vu) (t : den Eg) (β : Bool), Inv v fr to kd id c β m.1 Q → Bg (q + 4) v w p n m Q = some t → (t.1 = [] ∧ β = false) ∨ (∃ h : Int, (0 ≤ h ∧ h ≤ 64) ∧ Ch (Ba fr to kd id h) 0 t.1 c false) ∧ β = true
 | 0, _, _, _, _, _, ht => by rw [Bg] at ht; cases ht
 | n + 1, m, Q, t, β, hI, ht => by
  rcases hI with ⟨rfl, hF⟩ | ⟨a, s, h, c1, c2, A, hs, hh, hcc, hA, hM⟩
  ·
   rw [Bg] at ht
   have hsz : m.1.length ≤ 100000 ∧ ∀ r ∈ m.1, r.2.2.2.2.2.2.2.2.length ≤ 1048576 := by
    rcases hF with ⟨e, _⟩ | ⟨⟨h, _, hF⟩, _⟩
    ·rw [e]; exact ⟨by simp, fun r hr => by cases hr⟩
    ·have := Ez _ hF
     refine ⟨by omega, fun r hr => ?_⟩
     obtain ⟨x', m', d, rfl, _, e3, _⟩ := Wi _ hF hr
     show d.length ≤ 1048576
     omega
   have e1 := Hs (q + 4) m.1 hsz.1 hsz.2 hk
   have ht := Eq.trans (Eq.symm ((cf (show decide ((([] : Vu).length : Int) > 0) = false from rfl)).trans (bs e1))) ht
   cases e2 : Q2 (q + 4) m.2.1 with
   | none => rw [e2] at ht; cases ht
   | some z =>
    rw [e2, Option.bind_some, Option.some.injEq] at ht
    rw [← ht]
    exact hF
  ·have hAne := X9q _ hA
   cases A with
   | nil => exact absurd rfl hAne
   | cons r A =>
    obtain ⟨m0, d, c2', rfl, rfl, hA2⟩ := hA
    have hlen : c1.length + d.length + c2'.length ≤ 48 := by rw [hcc] at hc; simp only [List.length_append] at hc; omega
    have hbd : BOk d := fun z hz => hb z (by rw [hcc]; simp [hz])
    have hmd : m0 = true → d ≠ [] := fun e => by
     rcases hA2 with h2 | h2
     ·exact h2.2.1
     ·rw [h2.1] at e; cases e
    have okp : Ll (Ba fr to kd id h (c1.length : Int) m0 d) = true := Oo hfr hto hkd (by omega) hid (by omega) (by omega) (fun e => List.length_pos_iff.2 (hmd e)) (fun e => by cases e)
    have hAl : A.length ≤ 49 := by
     rcases hA2 with h2 | h2
     ·have := Ez _ h2.2.2; omega
     ·rw [h2.2.1]; simp
    have st := fun (Z : Vu) (hZ : Z.length ≤ 1000) (hm : m.1.length ≤ 1000) (ht : Bg (q + 4) v w p (n + 1) m (((a : Int), Ba fr to kd id h (c1.length : Int) m0 d) :: Z) = some t) => X9h q w p hv hvl hk hs okp hbd (by omega) hZ hm ht
    have e0 : (c1 ++ d).length = c1.length + d.length := List.length_append
    rcases hM with ⟨e1, harr, rfl⟩ | ⟨e1, harr, hM⟩
    ·
     have hml := Ez _ harr
     obtain ⟨m', Q', s1, s2⟩ := st (Ut a A) (by simp [Ut]; omega) (by omega) ht
     rcases s2 with ⟨_, s3, rfl⟩ | ⟨s3, _⟩
     ·have one := Iv (Ba fr to kd id h) (x := 0 + (c1.length : Int)) hmd
      rw [Int.zero_add] at one
      have arr' : Ch (Ba fr to kd id h) 0 m'.1 (c1 ++ d) m0 := by
       rw [s3]
       exact Ir _ harr (by rw [Int.zero_add]; exact one)
      refine Q8 q w p hv hvl hk hfr hto hkd hid hc hb n m' _ t β ?_ s1
      rcases hA2 with ⟨rfl, _, h2⟩ | ⟨rfl, rfl, rfl, _⟩
      ·refine .inr ⟨a, s, h, c1 ++ d, c2', A, hs, hh, by rw [List.append_assoc]; exact hcc, ?_, .inl ⟨e1, arr', rfl⟩⟩
       rw [e0, Int.natCast_add]
       exact h2
      ·refine .inl ⟨rfl, .inr ⟨⟨h, ⟨hh.1, hh.2.1⟩, ?_⟩, by rw [← hh.2.2]; exact Xon hs e1 _⟩⟩
       rw [hcc, List.append_nil]
       exact arr'
     ·exact absurd e1 s3
    ·
     have hm1 : m.1.length ≤ 1000 := by rw [harr]; simp
     rcases hM with ⟨ho, rfl⟩ | ⟨b, N, B, ho, hbl, h1, hB, rfl⟩
     ·obtain ⟨m', Q', s1, s2⟩ := st (Ut a A) (by simp [Ut]; omega) hm1 ht
      rcases s2 with ⟨s3, _⟩ | ⟨_, s3, s4⟩
      ·exact absurd s3 e1
      ·rcases s4 with ⟨_, rfl⟩ | ⟨b, N, s5, _⟩
       ·refine Q8 q w p hv hvl hk hfr hto hkd hid hc hb n m' _ t β ?_ s1
        rw [s3, harr]
        rcases hA2 with ⟨rfl, _, h2⟩ | ⟨rfl, rfl, rfl, _⟩
        ·refine .inr ⟨a, s, h, c1 ++ d, c2', A, hs, hh, by rw [List.append_assoc]; exact hcc, ?_, .inr ⟨e1, rfl, .inl ⟨ho, rfl⟩⟩⟩
         rw [e0, Int.natCast_add]
         exact h2
        ·exact .inl ⟨rfl, .inl ⟨rfl, by rw [← hh.2.2]; exact Xm9 hs e1 _ (by rw [Int.toNat_of_nonneg hh.1]; exact ho)⟩⟩
       ·rw [show D5 v s to h = none from ho] at s5; cases s5
     ·have hBl := Ez _ hB
      have ht : Bg (q + 4) v w p (n + 1) m (((a : Int), Ba fr to kd id h (c1.length : Int) m0 d) :: (Ut a A ++ Ut b B)) = some t := ht
      obtain ⟨m', Q', s1, s2⟩ := st (Ut a A ++ Ut b B) (by simp [Ut]; omega) hm1 ht
      rcases s2 with ⟨s3, _⟩ | ⟨_, s3, s4⟩
      ·exact absurd s3 e1
      ·rcases s4 with ⟨s5, _⟩ | ⟨b', N', s5, hb', hN', h3, rfl⟩
       ·rw [show D5 v s to h = _ from ho] at s5; cases s5
       ·rw [show D5 v s to h = _ from ho] at s5
        simp only [Option.some.injEq, Prod.mk.injEq] at s5
        obtain ⟨s5, rfl⟩ := s5
        obtain rfl : b = b' := by omega
        have cc := Xhz (Ba fr to kd id (h - 1)) hN' m0 50 (0 + (c1.length : Int)) d (by omega) hmd
        have B' := Ir _ hB cc
        rw [Int.zero_add] at B'
        have eQ : Ut a A ++ Ut b B ++ (Cv (Ia fr to kd (h - 1) id false) N m0 50 (c1.length : Int) d).map (fun r => ((b : Int), r)) = Ut a A ++ Ut b (B ++ Cv (Ba fr to kd id (h - 1)) N m0 50 (c1.length : Int) d) := by
         rw [List.append_assoc]
         simp [Ut, Ba]
        have s1 : Bg (q + 4) v w p n m' (Ut a A ++ Ut b B ++ (Cv (Ia fr to kd (h - 1) id false) N m0 50 (c1.length : Int) d).map (fun r => ((b : Int), r))) = some t := s1
        rw [eQ] at s1
        refine Q8 q w p hv hvl hk hfr hto hkd hid hc hb n m' _ t β ?_ s1
        rw [s3, harr]
        rcases hA2 with ⟨rfl, _, h2⟩ | ⟨rfl, rfl, rfl, _⟩
        ·refine .inr ⟨a, s, h, c1 ++ d, c2', A, hs, hh, by rw [List.append_assoc]; exact hcc, ?_, .inr ⟨e1, rfl, .inr ⟨b, N, _, ho, hbl, h1, B', rfl⟩⟩⟩
         rw [e0, Int.natCast_add]
         exact h2
        ·rw [hcc, List.append_nil]
         have hn := Xhk (a := b) (fr := fr) (to := to) (kd := kd) (id := id) hbl (by omega : 0 ≤ h - 1 ∧ h - 1 ≤ 64) B'
         obtain ⟨i, hi⟩ : ∃ i : Nat, h = ((i + 1 : Nat) : Int) := ⟨(h - 1).toNat, by omega⟩
         have hr : Tg v to (h - 1).toNat b = β := by
          rw [← hh.2.2, hi]
          rw [hi] at ho
          rw [show (((i + 1 : Nat) : Int) - 1).toNat = i by omega, Int.toNat_natCast]
          exact (Xoo hs e1 i ho).symm
         rw [hr] at hn
         exact hn
end Go.Proofs.YtdmepjjepogddaaGreat.Gn
end

section
namespace Go.Proofs.YtdmepjjepogddaaGreat.Gn
open Go.Rf Go.IntWalk
set_option linter.unusedVariables false
set_option linter.unusedSimpArgs false
structure Gk (fr to kd id h : Int) : Prop where
 fr : 0 ≤ fr ∧ fr ≤ 65535
 to : 0 ≤ to ∧ to ≤ 65535
 kd : 0 ≤ kd ∧ kd ≤ 255
 id : 0 ≤ id ∧ id ≤ 255
 h : 0 ≤ h ∧ h ≤ 64
theorem Gk.ok {fr to kd id h x : Int} {m : Bool} {d : A1} (G : Gk fr to kd id h) (h0 : 0 ≤ x) (hx : x + (d.length : Int) ≤ 48) (hm : m = true → d ≠ []) : Ll (Ba fr to kd id h x m d) = true :=
 Oo G.fr G.to G.kd (by have := G.h; omega) G.id (by omega) (by omega) (fun e => List.length_pos_iff.2 (hm e)) (fun e => by cases e)
def Cq (g : Int → Bool → A1 → den Ak) : Int → Ct → Prop
 | x, [] => x ≤ 48
 | x, p :: l => ∃ m d, p = g x m d ∧ (m = true → d ≠ []) ∧ (l ≠ [] → m = true) ∧ x + (d.length : Int) ≤ 48 ∧ Cq g (x + (d.length : Int)) l
theorem Xzq (g : Int → Bool → A1 → den Ak) : ∀ {l : Ct} {x : Int} {c : A1} {f : Bool}, Ch g x l c f → x + (c.length : Int) ≤ 48 → Cq g x l
 | [], x, c, f, h, hx => by
  obtain ⟨rfl, _⟩ := h
  simpa [Cq] using hx
 | p :: l, x, c, f, h, hx => by
  obtain ⟨m, d, c2, rfl, rfl, h⟩ := h
  rw [List.length_append] at hx
  refine ⟨m, d, rfl, fun e => ?_, fun e => ?_, by omega, ?_⟩
  ·rcases h with h | h
   ·exact h.2.1
   ·rw [h.1] at e; cases e
  ·rcases h with h | h
   ·exact h.1
   ·exact absurd h.2.1 e
  ·rcases h with h | h
   ·exact Xzq g h.2.2 (by omega)
   ·rw [h.2.1]
    show x + (d.length : Int) ≤ 48
    omega
theorem Y9 (k : Nat) (fr to kd id h x y : Int) (m m' : Bool) (d e : A1) : Xj3 k (Ba fr to kd id h x m d) (Ba fr to kd id h y m' e) = some true := by
 unfold Xj3 Xmq Ba Ia; (try dsimp only)
 simp only [beq_self_eq_true, cond_true]
theorem Xo6 (k : Nat) (fr to kd id h x y : Int) (m m' : Bool) (d e : A1) : Xgr k (Ba fr to kd id h x m d) (Ba fr to kd id h y m' e) = some true := Y9 k fr to kd id h x y m m' d e
def isG (fr to kd id h : Int) (p : den Ak) : Prop := ∃ (x : Int) (m : Bool) (d : A1), p = Ba fr to kd id h x m d
theorem Xo3 (k : Nat) {fr to kd id h : Int} (G : Gk fr to kd id h) (S : Ct) (hS : ∀ z ∈ S, isG fr to kd id h z) (hSl : S.length ≤ 1000) (hne : 0 < S.length) : ∀ (n : Nat) (d r : Ct) (x : Int), S = d ++ r → Cq (Ba fr to kd id h) x r → 0 ≤ x → (r ≠ [] → d = [] ∨ ∃ d0 y e, d = d0 ++ [Ba fr to kd id h y true e] ∧ 0 ≤ y ∧ y + (e.length : Int) = x) → x ≤ 48 → (d ≠ [] ∨ r ≠ []) → r.length < n →
  Hi k (S, 15) n x (d.length : Int) = some true ∧ Eh k (S, 15) n x (d.length : Int) = some true
 | 0, _, _, _, _, _, _, _, _, _, h => by omega
 | n + 1, d, [], x, hs, hq, h0, hd, hx, hor, hn => by
  have e1 : d.length = S.length := by rw [hs, List.append_nil]
  rw [Hi, Eh]
  unfold Ot Gx; (try dsimp only [Az, Bz])
  have c1 : decide ((d.length : Int) < (S.length : Int)) = false := decide_eq_false (by omega)
  have c2 : decide ((S.length : Int) > 0) = true := decide_eq_true (by omega)
  exact ⟨(cf c1).trans ((ct c2).trans ((ct (decide_eq_true hx)).trans ((bs (Bo k 15 0 1000000)).trans rfl))), (cf c1).trans ((ct c2).trans ((ct (decide_eq_true hx)).trans ((bs (B2 k 15 0 1000000)).trans rfl)))⟩
 | n + 1, d, p :: r, x, hs, hq, h0, hd, hx, hor, hn => by
  obtain ⟨m, e, rfl, hm, hr, hxe, hq⟩ := hq
  have hj : d.length < S.length := by rw [hs]; simp
  have hg : Aw (t := Ak) S (d.length : Int) = Ba fr to kd id h x m e := by rw [Av S d.length hj]; simp [hs]
  have d1 : decide ((d.length : Int) < (S.length : Int)) = true := decide_eq_true (by omega)
  have d0 : decide ((0 : Int) ≤ (d.length : Int)) = true := decide_eq_true (by omega)
  have p0 : decide ((0 : Int) < (S.length : Int)) = true := decide_eq_true (by omega)
  obtain ⟨y0, m0, e0, hg0⟩ := hS _ (List.getElem_mem hne)
  have hg0 : Aw (t := Ak) S 0 = Ba fr to kd id h y0 m0 e0 := by
   have := Av (t := Ak) S 0 hne
   rw [hg0] at this
   exact this
  have ok := G.ok h0 hxe hm
  have k1 : K8 k (Ba fr to kd id h x m e) = some true := by rw [C9, ok]
  have k2 : F89 k (Ba fr to kd id h x m e) = some true := by rw [Ro, ok]
  have s1 := Y9 k fr to kd id h x y0 m m0 e e0
  have s2 := Xo6 k fr to kd id h x y0 m m0 e e0
  have hxl : IntKind.i64.wrap (x + (e.length : Int)) = x + (e.length : Int) := i64_in _ (by omega)
  have hs' : S = (d ++ [Ba fr to kd id h x m e]) ++ r := by rw [hs]; simp
  have hl' : ((d ++ [Ba fr to kd id h x m e]).length : Int) = ((d.length + 1 : Nat) : Int) := by simp
  have rec1 : Hi k (S, 15) n (x + (e.length : Int)) ((d.length + 1 : Nat) : Int) = some true ∧ Eh k (S, 15) n (x + (e.length : Int)) ((d.length + 1 : Nat) : Int) = some true := by
   rw [← hl']
   refine Xo3 k G S hS hSl hne n (d ++ [Ba fr to kd id h x m e]) r _ hs' hq (by omega) (fun hrn => .inr ⟨d, x, e, by rw [hr hrn], h0, rfl⟩) hxe (.inl (by simp)) (by simp at hn; omega)
  rw [Hi, Eh]
  unfold Ot Gx; (try dsimp only [Az, Bz])
  rw [hg, hg0, F6 d.length (by omega)]
  have nx1 : Hi k (S, 15) n (IntKind.i64.wrap (x + ((Ba fr to kd id h x m e).2.2.2.2.2.2.2.2.length : Int))) ((d.length + 1 : Nat) : Int) = some true := by
   rw [show IntKind.i64.wrap (x + ((Ba fr to kd id h x m e).2.2.2.2.2.2.2.2.length : Int)) = x + (e.length : Int) from hxl]; exact rec1.1
  have nx2 : Eh k (S, 15) n (IntKind.i64.wrap (x + ((Ba fr to kd id h x m e).2.2.2.2.2.2.2.2.length : Int))) ((d.length + 1 : Nat) : Int) = some true := by
   rw [show IntKind.i64.wrap (x + ((Ba fr to kd id h x m e).2.2.2.2.2.2.2.2.length : Int)) = x + (e.length : Int) from hxl]; exact rec1.2
  rcases hd (by simp) with rfl | ⟨dd, y, e', rfl, hy0, hy⟩
  ·have g0 : decide ((([] : Ct).length : Int) > 0) = false := rfl
   exact ⟨(ct d1).trans ((ct d0).trans ((ct d1).trans ((bs k1).trans ((cf rfl).trans ((ct p0).trans ((bs s1).trans ((cf rfl).trans ((cf g0).trans nx1)))))))), (ct d1).trans ((ct d0).trans ((ct d1).trans ((bs k2).trans ((cf rfl).trans ((ct p0).trans ((bs s2).trans ((cf rfl).trans ((cf g0).trans nx2))))))))⟩
  ·have hl2 : (dd ++ [Ba fr to kd id h y true e']).length = dd.length + 1 := by simp
   rw [hl2] at d1 d0 hj nx1 nx2 ⊢
   have g0 : decide (((dd.length + 1 : Nat) : Int) > 0) = true := decide_eq_true (by omega)
   have e1 : IntKind.i64.wrap (((dd.length + 1 : Nat) : Int) - 1) = (dd.length : Int) := by rw [i64_in _ (by omega)]; omega
   have q1 : decide ((dd.length : Int) < (S.length : Int)) = true := decide_eq_true (by omega)
   have q0 : decide ((0 : Int) ≤ (dd.length : Int)) = true := decide_eq_true (by omega)
   have hgp : Aw (t := Ak) S (dd.length : Int) = Ba fr to kd id h y true e' := by rw [Av S dd.length (by omega)]; simp [hs]
   rw [e1, hgp]
   have lt1 : decide ((Ba fr to kd id h x m e).2.2.2.2.2.1 < IntKind.i64.wrap ((Ba fr to kd id h y true e').2.2.2.2.2.1 + ((Ba fr to kd id h y true e').2.2.2.2.2.2.2.2.length : Int))) = false := by
    refine decide_eq_false ?_
    show ¬ x < IntKind.i64.wrap (y + (e'.length : Int))
    rw [i64_in _ (by omega)]
    omega
   exact ⟨(ct d1).trans ((ct d0).trans ((ct d1).trans ((bs k1).trans ((cf rfl).trans ((ct p0).trans ((bs s1).trans ((cf rfl).trans ((ct g0).trans ((ct q0).trans ((ct q1).trans ((ct q0).trans ((ct q1).trans ((cf lt1).trans ((ct q0).trans ((ct q1).trans ((cf rfl).trans nx1)))))))))))))))), (ct d1).trans ((ct d0).trans ((ct d1).trans ((bs k2).trans ((cf rfl).trans ((ct p0).trans ((bs s2).trans ((cf rfl).trans ((ct g0).trans ((ct q0).trans ((ct q1).trans ((cf lt1).trans ((cf rfl).trans nx2))))))))))))⟩
theorem Xi {fr to kd id h : Int} {x : Int} {S : Ct} {c : A1} {f : Bool} (hS : Ch (Ba fr to kd id h) x S c f) : ∀ z ∈ S, isG fr to kd id h z := fun z hz => by
 obtain ⟨x', m, d, e, _⟩ := Wi _ hS hz
 exact ⟨x', m, d, e⟩
theorem Rr (k : Nat) {fr to kd id h : Int} (G : Gk fr to kd id h) {S : Ct} {c : A1} {f : Bool} (hS : Ch (Ba fr to kd id h) 0 S c f) (hc : c.length ≤ 48) (hne : S ≠ []) (hk : 1048576 < k) : Xd1 k (S, 15) = some true ∧ Xgk k (S, 15) = some true := by
 have hl := Ez _ hS
 exact Xo3 k G S (Xi hS) (by omega) (List.length_pos_iff.2 hne) k [] S 0 rfl (Xzq _ hS (by omega)) (by omega) (fun _ => .inl rfl) (by omega) (.inr hne) (by omega)
theorem Xb4 (k : Nat) (hk : 1048576 < k) : Xmb k [] = some true ∧ Xcq k [] = some true := by
 obtain ⟨n, rfl⟩ : ∃ n, k = n + 1 := ⟨k - 1, by omega⟩
 unfold Xmb Xds Xcq Ud; (try dsimp only)
 rw [Kr, Hm]
 exact ⟨rfl, rfl⟩
theorem Xlz (k : Nat) {fr to kd id h : Int} (G : Gk fr to kd id h) {S : Ct} {c : A1} {f : Bool} (hS : Ch (Ba fr to kd id h) 0 S c f) (hc : c.length ≤ 48) (hne : S ≠ []) (hk : 1048576 < k) : Xmb k [(S, 15)] = some true ∧ Xcq k [(S, 15)] = some true := by
 obtain ⟨o1, o2⟩ := Rr k G hS hc hne hk
 obtain ⟨n, rfl⟩ : ∃ n, k = n + 1 + 1 := ⟨k - 2, by omega⟩
 have w1 : IntKind.i64.wrap (0 + 1) = 1 := by decide
 constructor
 ·unfold Xmb Xds; (try dsimp only)
  rw [Kr]
  refine (ct rfl).trans ((ct rfl).trans ((ct rfl).trans ((bs o1).trans ((cf rfl).trans ?_))))
  have e : Ri (n + 1 + 1) [(S, 15)] (n + 1 + 1) 0 0 = some (.inr (0, 0)) := by
   rw [Ri]
   unfold Vq; (try dsimp only [Az])
   exact (cf rfl).trans rfl
  refine (bs e).trans ?_
  show Kr (n + 1 + 1) [(S, 15)] (n + 1) (IntKind.i64.wrap (0 + 1)) = some true
  rw [w1, Kr]
  exact (cf rfl).trans rfl
 ·unfold Xcq Ud; (try dsimp only)
  rw [Hm]
  unfold Gz; (try dsimp only [Az])
  refine (ct rfl).trans ((ct rfl).trans ((ct rfl).trans ((bs o2).trans ((cf rfl).trans ((ct rfl).trans ?_)))))
  have e : Xk8 (n + 1 + 1) (([(S, 15)] : List (den Bb)).take (0 : Int).toNat) (Aw (t := Bb) [(S, 15)] 0) = some (false, (S, 15)) := by
   unfold Xk8 Xlq Zm; (try dsimp only)
   show (Jz (n + 1 + 1) [] (S, 15) (n + 1 + 1) 0 (S, 15)).bind _ = _
   rw [Jz]
   rfl
  refine (bs e).trans ((cf rfl).trans ?_)
  rw [w1, Hm]
  unfold Gz; (try dsimp only [Az])
  exact (cf rfl).trans rfl
def Xhw (S : Ct) (x : Int) : Prop := ∀ z ∈ S, @LT.lt Int _ z.2.2.2.2.2.1 x
theorem Nr {fr to kd id h : Int} : ∀ {S : Ct} {x : Int} {c : A1}, Ch (Ba fr to kd id h) x S c true → Xhw S (x + (c.length : Int))
 | [], _, _, _, z, hz => by cases hz
 | p :: S, x, c, hS, z, hz => by
  obtain ⟨m, d, c2, rfl, rfl, h | h⟩ := hS
  ·have hd := List.length_pos_iff.2 h.2.1
   rw [List.length_append]
   rcases List.mem_cons.1 hz with rfl | hz
   ·show x < _
    omega
   ·have := Nr h.2.2 z hz
    rw [show x + ((d.length + c2.length : Nat) : Int) = x + (d.length : Int) + (c2.length : Int) by omega]
    exact this
  ·exact absurd h.2.2.2 (by decide)
theorem Xs5 (k : Nat) (S : Ct) (p : den Ak) (hS : Xhw S p.2.2.2.2.2.1) (hSl : S.length ≤ 1000) : ∀ (n j : Nat), j ≤ S.length → S.length - j < n → Q6 k (S, 15) p n false (j : Int) = Ms k (S, 15) p k false 0 ([], 15)
 | 0, j, _, h => by omega
 | n + 1, j, hj, h => by
  rw [Q6]
  unfold V9; (try dsimp only [Az, Bz])
  rcases Nat.lt_or_ge j S.length with hlt | hge
  ·have d1 : decide ((j : Int) < (S.length : Int)) = true := decide_eq_true (by omega)
   have d0 : decide ((0 : Int) ≤ (j : Int)) = true := decide_eq_true (by omega)
   have hz := hS _ (List.getElem_mem hlt)
   rw [Av S j hlt, F6 j (by omega)]
   have c : (S[j].2.2.2.2.2.1 == p.2.2.2.2.2.1) = false := beq_eq_false_iff_ne.2 (Int.ne_of_lt hz)
   exact (ct d1).trans ((ct d0).trans ((ct d1).trans ((cf c).trans (Xs5 k S p hS hSl n (j + 1) hlt (by omega)))))
  ·exact (cf (decide_eq_false (by show ¬ (j : Int) < (S.length : Int); omega))).trans rfl
theorem Xot (k : Nat) (S : Ct) (p : den Ak) (hS : Xhw S p.2.2.2.2.2.1) (hSl : S.length ≤ 1000) (hd : ∀ z ∈ S, z.2.2.2.2.2.2.2.2.length ≤ 1048576) (hp : p.2.2.2.2.2.2.2.2.length ≤ 1048576) (ho : Xd1 k (S ++ [p], 15) = some true) : ∀ (n j : Nat), j ≤ S.length → S.length - j < n → Ms k (S, 15) p n false (j : Int) (S.take j, 15) = some ((S ++ [p], 15), true)
 | 0, j, _, h => by omega
 | n + 1, j, hj, h => by
  rw [Ms]
  unfold Vb; (try dsimp only [Az, Bi, Bz])
  have ht : (S.take j).length = j := by rw [List.length_take]; omega
  rcases Nat.lt_or_ge j S.length with hlt | hge
  ·have d1 : decide ((j : Int) < (S.length : Int)) = true := decide_eq_true (by omega)
   have d0 : decide ((0 : Int) ≤ (j : Int)) = true := decide_eq_true (by omega)
   have hz := hS _ (List.getElem_mem hlt)
   unfold L3; (try dsimp only [Az, Bi])
   rw [Av S j hlt, F6 j (by omega)]
   have c : decide (p.2.2.2.2.2.1 < S[j].2.2.2.2.2.1) = false := decide_eq_false (by have := hz; exact Int.not_lt.2 (Int.le_of_lt hz))
   refine (ct d1).trans ((ct rfl).trans ((ct d0).trans ((ct d1).trans ((cf c).trans ((ct d0).trans ((ct d1).trans ((bs (Nn k S[j] (hd _ (List.getElem_mem hlt)))).trans ((ct (decide_eq_true (by show ((S.take j).length + 1) * 80 ≤ _; omega))).trans ?_))))))))
   have e : S.take j ++ [S[j]] = S.take (j + 1) := by rw [List.take_add_one, List.getElem?_eq_getElem hlt]; rfl
   rw [show ((S.take j, (15 : Int)) : den Bb).1 ++ [S[j]] = S.take (j + 1) from e]
   exact Xot k S p hS hSl hd hp ho n (j + 1) hlt (by omega)
  ·have e : S.take j = S := List.take_of_length_le hge
   rw [e]
   exact (cf (decide_eq_false (by show ¬ (j : Int) < (S.length : Int); omega))).trans ((ct rfl).trans ((bs (Nn k p hp)).trans ((ct (decide_eq_true (by show (S.length + 1) * 80 ≤ _; omega))).trans ((bs ho).trans ((cf rfl).trans rfl)))))
theorem Xj {fr to kd id h : Int} {S : Ct} (hS : ∀ z ∈ S, isG fr to kd id h z) (hne : 0 < S.length) : ∃ y m e, Aw (t := Ak) S 0 = Ba fr to kd id h y m e := by
 obtain ⟨y0, m0, e0, hg0⟩ := hS _ (List.getElem_mem hne)
 have := Av (t := Ak) S 0 hne
 rw [hg0] at this
 exact ⟨_, _, _, this⟩
theorem Mi {fr to kd id h x : Int} {S : Ct} {c : A1} {f : Bool} (hS : Ch (Ba fr to kd id h) x S c f) (hc : c.length ≤ 48) : ∀ z ∈ S, z.2.2.2.2.2.2.2.2.length ≤ 1048576 := fun z hz => by
 obtain ⟨x', m, d, rfl, _, e3, _⟩ := Wi _ hS hz
 show d.length ≤ 1048576
 omega
theorem X2g (k : Nat) {fr to kd id h : Int} (G : Gk fr to kd id h) {S : Ct} {c : A1} (hS : Ch (Ba fr to kd id h) 0 S c true) {m : Bool} {d : A1} (hd : m = true → d ≠ []) (hc : c.length + d.length ≤ 48) (hne : S ≠ []) (hk : 1048576 < k) :
  X4l k (S, 15) (Ba fr to kd id h (c.length : Int) m d) = some ((S ++ [Ba fr to kd id h (c.length : Int) m d], 15), true) := by
 have hl := Ez _ hS
 have hp := List.length_pos_iff.2 hne
 have S' := Ir _ hS (by rw [Int.zero_add]; exact Iv (Ba fr to kd id h) (x := (c.length : Int)) hd)
 obtain ⟨o1, _⟩ := Rr k G hS (by omega) hne hk
 obtain ⟨o2, _⟩ := Rr k G S' (by rw [List.length_append]; omega) (by simp) hk
 have ah := Nr hS
 rw [Int.zero_add] at ah
 have ok := G.ok (x := (c.length : Int)) (m := m) (d := d) (by omega) (by omega) hd
 obtain ⟨y, m0, e0, hg⟩ := Xj (Xi hS) hp
 unfold X4l Xq7; (try dsimp only)
 rw [hg]
 refine (bs o1).trans ((cf rfl).trans ((bs (show K8 k (Ba fr to kd id h (c.length : Int) m d) = some true by rw [C9, ok])).trans ((cf rfl).trans ((ct (decide_eq_true (by show (0 : Int) < (S.length : Int); omega))).trans ((bs (Y9 k fr to kd id h y (c.length : Int) m0 m e0 d)).trans ((cf rfl).trans ?_))))))
 refine (Xs5 k S _ ah (by omega) k 0 (Nat.zero_le _) (by omega)).trans ?_
 exact Xot k S _ ah (by omega) (Mi hS (by omega)) (show d.length ≤ 1048576 by omega) o2 k 0 (Nat.zero_le _) (by omega)
end Go.Proofs.YtdmepjjepogddaaGreat.Gn
end

section
namespace Go.Proofs.YtdmepjjepogddaaGreat.Gn
open Go.Rf Go.IntWalk
set_option linter.unusedVariables false
set_option linter.unusedSimpArgs false
def Cd (g : Int → Bool → A1 → den Ak) : Int → Ct → A1 → Prop
 | _, [], c => c = []
 | x, p :: l, c => ∃ m d c', p = g x m d ∧ c = d ++ c' ∧ Cd g (x + (d.length : Int)) l c'
theorem Xzn (g : Int → Bool → A1 → den Ak) : ∀ {l : Ct} {x : Int} {c : A1} {f : Bool}, Ch g x l c f → Cd g x l c
 | [], _, _, _, h => h.1
 | p :: l, x, c, f, h => by
  obtain ⟨m, d, c2, rfl, rfl, h | h⟩ := h
  ·exact ⟨m, d, c2, rfl, rfl, Xzn g h.2.2⟩
  ·refine ⟨m, d, c2, rfl, rfl, ?_⟩
   rw [h.2.1, h.2.2.1]
   rfl
theorem Xov (k : Nat) (fr to kd id h : Int) (S : Ct) (hSl : S.length ≤ 1000) : ∀ (n : Nat) (d r : Ct) (dat c : A1), S = d ++ r → Cd (Ba fr to kd id h) (dat.length : Int) r c → dat.length + c.length ≤ 48 → r.length < n →
  Nx k (S, 15) n (d.length : Int) (fr, to, kd, h, id, 0, false, false, dat) = some ((fr, to, kd, h, id, 0, false, false, dat ++ c), true)
 | 0, _, _, _, _, _, _, _, hn => by omega
 | n + 1, d, [], dat, c, hs, hc, hl, hn => by
  have e1 : d.length = S.length := by rw [hs, List.append_nil]
  have hc : c = [] := hc
  subst hc
  rw [Nx]
  unfold Ob; (try dsimp only [Az, Bi, Bz])
  rw [List.append_nil]
  exact (cf (decide_eq_false (by show ¬ (d.length : Int) < (S.length : Int); omega))).trans rfl
 | n + 1, d, p :: r, dat, c, hs, hc, hl, hn => by
  obtain ⟨m, e, c2, rfl, rfl, hc⟩ := hc
  rw [List.length_append] at hl
  have hj : d.length < S.length := by rw [hs]; simp
  have hg : Aw (t := Ak) S (d.length : Int) = Ba fr to kd id h (dat.length : Int) m e := by rw [Av S d.length hj]; simp [hs]
  have d1 : decide ((d.length : Int) < (S.length : Int)) = true := decide_eq_true (by omega)
  have d0 : decide ((0 : Int) ≤ (d.length : Int)) = true := decide_eq_true (by omega)
  have hl' : ((d ++ [Ba fr to kd id h (dat.length : Int) m e]).length : Int) = ((d.length + 1 : Nat) : Int) := by simp
  have ih := Xov k fr to kd id h S hSl n (d ++ [Ba fr to kd id h (dat.length : Int) m e]) r (dat ++ e) c2 (by rw [hs]; simp) (by rw [List.length_append, Int.natCast_add]; exact hc) (by rw [List.length_append]; omega) (by simp at hn; omega)
  rw [hl', List.append_assoc] at ih
  rw [Nx]
  unfold Ob; (try dsimp only [Az, Bi, Bz])
  rw [hg, F6 d.length (by omega)]
  have ne : ((Ba fr to kd id h (dat.length : Int) m e).2.2.2.2.2.1 != (dat.length : Int)) = false := bne_self_eq_false _
  exact (ct d1).trans ((ct d0).trans ((ct d1).trans ((cf ne).trans ((ct d0).trans ((ct d1).trans ((ct (decide_eq_true (by show (dat.length + e.length) * 1 ≤ _; omega))).trans ih))))))
theorem Xn6 (k : Nat) (fr to kd id h : Int) (S0 : Ct) (p : den Ak) (S : Ct) (hS : S = S0 ++ [p]) (hSl : S.length ≤ 1000) (b : Bool) : ∀ (n : Nat) (d r : Ct) (dat c : A1), S = d ++ r → Cd (Ba fr to kd id h) (dat.length : Int) r c → dat.length + c.length ≤ 48 → r.length < n →
  G7 k (S, 15) n (dat.length : Int) (d.length : Int) (fr, to, kd, h, id, 0, b, false, dat) = some (cond p.2.2.2.2.2.2.1 ((0, 0, 0, 0, 0, 0, false, false, []), false) ((fr, to, kd, h, id, 0, false, false, dat ++ c), true))
 | 0, _, _, _, _, _, _, _, hn => by omega
 | n + 1, d, [], dat, c, hs, hc, hl, hn => by
  have e1 : d.length = S.length := by rw [hs, List.append_nil]
  have hc : c = [] := hc
  subst hc
  have hSl2 : S.length = S0.length + 1 := by rw [hS]; simp
  rw [G7]
  unfold Gs; (try dsimp only [Az, Bi, Bz])
  have w : IntKind.i64.wrap ((S.length : Int) - 1) = (S0.length : Int) := by rw [i64_in _ (by omega)]; omega
  have hg : Aw (t := Ak) S (S0.length : Int) = p := by rw [Av S S0.length (by omega)]; simp [hS]
  rw [w, hg, List.append_nil]
  refine (cf (decide_eq_false (by show ¬ (d.length : Int) < (S.length : Int); omega))).trans ((ct (decide_eq_true (by omega))).trans ((ct (decide_eq_true (by omega))).trans ?_))
  cases p.2.2.2.2.2.2.1 with
  | true => rfl
  | false =>
   refine (cf rfl).trans ((bs (Hw k (fr, to, kd, h, id, 0, false, false, dat) (show dat.length ≤ 1048576 by simp at hl; omega))).trans rfl)
 | n + 1, d, z :: r, dat, c, hs, hc, hl, hn => by
  obtain ⟨m, e, c2, rfl, rfl, hc⟩ := hc
  rw [List.length_append] at hl
  have hj : d.length < S.length := by rw [hs]; simp
  have hg : Aw (t := Ak) S (d.length : Int) = Ba fr to kd id h (dat.length : Int) m e := by rw [Av S d.length hj]; simp [hs]
  have d1 : decide ((d.length : Int) < (S.length : Int)) = true := decide_eq_true (by omega)
  have d0 : decide ((0 : Int) ≤ (d.length : Int)) = true := decide_eq_true (by omega)
  have hl' : ((d ++ [Ba fr to kd id h (dat.length : Int) m e]).length : Int) = ((d.length + 1 : Nat) : Int) := by simp
  have hx : (((dat ++ e).length : Nat) : Int) = IntKind.i64.wrap ((dat.length : Int) + (e.length : Int)) := by rw [i64_in _ (by omega), List.length_append]; omega
  have ih := Xn6 k fr to kd id h S0 p S hS hSl b n (d ++ [Ba fr to kd id h (dat.length : Int) m e]) r (dat ++ e) c2 (by rw [hs]; simp) (by rw [List.length_append, Int.natCast_add]; exact hc) (by rw [List.length_append]; omega) (by simp at hn; omega)
  rw [hl', hx, List.append_assoc] at ih
  rw [G7]
  unfold Gs; (try dsimp only [Az, Bi, Bz])
  rw [hg, F6 d.length (by omega)]
  have ne : ((Ba fr to kd id h (dat.length : Int) m e).2.2.2.2.2.1 != (dat.length : Int)) = false := bne_self_eq_false _
  exact (ct d1).trans ((ct d0).trans ((ct d1).trans ((cf ne).trans ((ct (decide_eq_true (by show (dat.length + e.length) * 1 ≤ _; omega))).trans ih))))
def Xas (fr to kd id h : Int) (m : Bool) (c : A1) : den Ak × Bool := cond m ((0, 0, 0, 0, 0, 0, false, false, []), false) ((fr, to, kd, h, id, 0, false, false, c), true)
theorem Xu1 (k : Nat) {fr to kd id h : Int} (G : Gk fr to kd id h) {S : Ct} {c : A1} (hS : Ch (Ba fr to kd id h) 0 S c true) {m : Bool} {d : A1} (hd : m = true → d ≠ []) (hc : c.length + d.length ≤ 48) (hne : S ≠ []) (hk : 1048576 < k) :
  X6i k (S ++ [Ba fr to kd id h (c.length : Int) m d], 15) = some (Xas fr to kd id h m (c ++ d)) ∧ Xky k (S ++ [Ba fr to kd id h (c.length : Int) m d], 15) = some (Xas fr to kd id h m (c ++ d)) := by
 have hl := Ez _ hS
 have hp := List.length_pos_iff.2 hne
 have S' := Ir _ hS (by rw [Int.zero_add]; exact Iv (Ba fr to kd id h) (x := (c.length : Int)) hd)
 obtain ⟨o2, _⟩ := Rr k G S' (by rw [List.length_append]; omega) (by simp) hk
 have hcd := Xzn _ S'
 cases S with
 | nil => exact absurd rfl hne
 | cons z S =>
  obtain ⟨m0, e0, c0, rfl, hce, _⟩ := hS
  have hlen : (Ba fr to kd id h 0 m0 e0 :: S ++ [Ba fr to kd id h (c.length : Int) m d]).length = S.length + 2 := by simp
  have hlen0 : (Ba fr to kd id h 0 m0 e0 :: S).length = S.length + 1 := rfl
  rw [hlen0] at hl
  have he0 : e0.length ≤ 48 := by
   have e3 := congrArg List.length hce
   rw [List.length_append] at e3
   omega
  have g0 : Aw (t := Ak) (Ba fr to kd id h 0 m0 e0 :: S ++ [Ba fr to kd id h (c.length : Int) m d]) 0 = Ba fr to kd id h 0 m0 e0 := rfl
  have w : IntKind.i64.wrap (((S.length + 2 : Nat) : Int) - 1) = ((S.length + 1 : Nat) : Int) := by rw [i64_in _ (by omega)]; omega
  have hg : Aw (t := Ak) (Ba fr to kd id h 0 m0 e0 :: S ++ [Ba fr to kd id h (c.length : Int) m d]) ((S.length + 1 : Nat) : Int) = Ba fr to kd id h (c.length : Int) m d := by
   rw [Av _ (S.length + 1) (by rw [hlen]; omega)]; simp
  constructor
  ·have lp := Xov k fr to kd id h (Ba fr to kd id h 0 m0 e0 :: S ++ [Ba fr to kd id h (c.length : Int) m d]) (by rw [hlen]; omega) k [] (Ba fr to kd id h 0 m0 e0 :: S ++ [Ba fr to kd id h (c.length : Int) m d]) [] (c ++ d) rfl hcd (by rw [List.length_nil, List.length_append]; omega) (by rw [hlen]; omega)
   unfold X6i Xn3 Xas; (try dsimp only [Az, Bz])
   rw [hlen, w, hg, g0]
   refine (bs o2).trans ((cf rfl).trans ((ct (decide_eq_true (by omega))).trans ((ct (decide_eq_true (by omega))).trans ?_)))
   cases m with
   | true => rfl
   | false => exact (cf rfl).trans ((ct (decide_eq_true (by omega))).trans lp)
  ·have lp := Xn6 k fr to kd id h (Ba fr to kd id h 0 m0 e0 :: S) (Ba fr to kd id h (c.length : Int) m d) (Ba fr to kd id h 0 m0 e0 :: S ++ [Ba fr to kd id h (c.length : Int) m d]) rfl (by rw [hlen]; omega) m0 k [] (Ba fr to kd id h 0 m0 e0 :: S ++ [Ba fr to kd id h (c.length : Int) m d]) [] (c ++ d) rfl hcd (by rw [List.length_nil, List.length_append]; omega) (by rw [hlen]; omega)
   unfold Xky Xe Xas; (try dsimp only)
   rw [g0, hlen]
   exact (ct (decide_eq_true (by omega))).trans ((bs (Hw k (Ba fr to kd id h 0 m0 e0) (show e0.length ≤ 1048576 by omega))).trans lp)
theorem X0a (k : Nat) (S : Ct) (p : den Ak) (hS : Xhw S p.2.2.2.2.2.1) (hSl : S.length ≤ 1000) : ∀ (n j : Nat), j ≤ S.length → S.length - j < n → J5 k S p n (j : Int) p = some (-1, p) ∧ Ep k S p n (j : Int) p = some (-1, p)
 | 0, j, _, h => by omega
 | n + 1, j, hj, h => by
  rw [J5, Ep]
  unfold Jy F3; (try dsimp only [Az])
  rcases Nat.lt_or_ge j S.length with hlt | hge
  ·have d1 : decide ((j : Int) < (S.length : Int)) = true := decide_eq_true (by omega)
   have d0 : decide ((0 : Int) ≤ (j : Int)) = true := decide_eq_true (by omega)
   have hz := hS _ (List.getElem_mem hlt)
   obtain ⟨i1, i2⟩ := X0a k S p hS hSl n (j + 1) hlt (by omega)
   rw [Av S j hlt, F6 j (by omega)]
   have e1 : Xk6 k S[j] p = some (false, p) := by
    unfold Xk6 Y7; (try dsimp only)
    exact (cf (beq_eq_false_iff_ne.2 (Int.ne_of_lt hz))).trans rfl
   have e2 : Xle k S[j] p = some (false, p) := by
    unfold Xle; (try dsimp only)
    rw [show decide (S[j].2.2.2.2.2.1 > p.2.2.2.2.2.1) = false from decide_eq_false (Int.not_lt.2 (Int.le_of_lt hz))]
   exact ⟨(ct d1).trans ((ct d0).trans ((ct d1).trans ((bs e1).trans ((cf rfl).trans i1)))), (ct d1).trans ((ct d0).trans ((ct d1).trans ((bs e2).trans ((cf rfl).trans i2))))⟩
  ·have c : decide ((j : Int) < (S.length : Int)) = false := decide_eq_false (by omega)
   exact ⟨(cf c).trans rfl, (cf c).trans rfl⟩
theorem X90 (k : Nat) {fr to kd id h : Int} (G : Gk fr to kd id h) {S : Ct} {c : A1} (hS : Ch (Ba fr to kd id h) 0 S c true) {m : Bool} {d : A1} (hd : m = true → d ≠ []) (hc : c.length + d.length ≤ 48) (hne : S ≠ []) (hk : 1048576 < k) :
  Xk2 k (S, 15) (Ba fr to kd id h (c.length : Int) m d) = some ((S ++ [Ba fr to kd id h (c.length : Int) m d], 15), true) := by
 have hl := Ez _ hS
 have hp := List.length_pos_iff.2 hne
 have S' := Ir _ hS (by rw [Int.zero_add]; exact Iv (Ba fr to kd id h) (x := (c.length : Int)) hd)
 have hc' : (c ++ d).length ≤ 48 := by rw [List.length_append]; omega
 obtain ⟨_, o2⟩ := Rr k G S' hc' (by simp) hk
 have ah := Nr hS
 rw [Int.zero_add] at ah
 obtain ⟨i1, i2⟩ := X0a k S (Ba fr to kd id h (c.length : Int) m d) ah (by omega) k 0 (Nat.zero_le _) (by omega)
 have e1 : Xkh k S (Ba fr to kd id h (c.length : Int) m d) = some (false, Ba fr to kd id h (c.length : Int) m d) := by
  unfold Xkh; (try dsimp only)
  exact (bs i1).trans rfl
 have e3 : Xeb k S = some S := by
  unfold Xeb Y2; (try dsimp only [Bi])
  exact (cf (decide_eq_false (by omega))).trans ((ct (decide_eq_true (by rw [List.length_nil]; omega))).trans (by rw [List.nil_append]))
 have e4 : Xei k S (S.length : Int) [Ba fr to kd id h (c.length : Int) m d] = some (S ++ [Ba fr to kd id h (c.length : Int) m d]) := by
  unfold Xei Wz; (try dsimp only [Bi])
  refine (ct (by rw [decide_eq_true (by omega), decide_eq_true (by omega)]; rfl)).trans ((cf rfl).trans ((ct (beq_self_eq_true _)).trans ((ct (decide_eq_true (by rw [List.length_singleton]; omega))).trans rfl)))
 have e5 : R9 k (S ++ [Ba fr to kd id h (c.length : Int) m d], 15) = some (S ++ [Ba fr to kd id h (c.length : Int) m d], 15) := by
  unfold R9; (try dsimp only)
  exact (bs (Hs k _ (by simp; omega) (Mi S' hc') hk)).trans rfl
 unfold Xk2 Yd; (try dsimp only [Bz])
 exact (bs e1).trans ((cf rfl).trans ((bs i2).trans ((ct rfl).trans ((bs e3).trans ((bs e4).trans ((bs o2).trans ((cf rfl).trans ((bs e5).trans rfl))))))))
end Go.Proofs.YtdmepjjepogddaaGreat.Gn
end

section
namespace Go.Proofs.YtdmepjjepogddaaGreat.Gn
open Go.Rf Go.IntWalk
set_option linter.unusedVariables false
set_option linter.unusedSimpArgs false
abbrev prL : Type := List (den Bb)
theorem X5 (k : Nat) (hk : 1048576 < k) : O3 k [] = some [] := by
 obtain ⟨n, rfl⟩ : ∃ n, k = n + 1 := ⟨k - 1, by omega⟩
 unfold O3 Ub; (try dsimp only)
 rw [Hu]
 unfold Er; (try dsimp only [Az, Bi])
 exact (cf rfl).trans rfl
theorem Xel (k : Nat) {T : Ct} (hT : T.length ≤ 1000) (hs : ∀ z ∈ T, z.2.2.2.2.2.2.2.2.length ≤ 1048576) (hk : 1048576 < k) : O3 k [(T, 15)] = some [(T, 15)] := by
 have e5 : R9 k (T, 15) = some (T, 15) := by
  unfold R9; (try dsimp only)
  exact (bs (Hs k T (by omega) hs hk)).trans rfl
 obtain ⟨n, rfl⟩ : ∃ n, k = n + 1 + 1 := ⟨k - 2, by omega⟩
 unfold O3 Ub; (try dsimp only)
 rw [Hu]
 unfold Er; (try dsimp only [Az, Bi])
 refine (ct rfl).trans ((ct rfl).trans ((ct rfl).trans ((bs e5).trans ((ct rfl).trans ?_))))
 rw [show IntKind.i64.wrap (0 + 1) = 1 by decide, Hu]
 unfold Er; (try dsimp only [Az, Bi])
 exact (cf rfl).trans rfl
theorem X0r (k : Nat) (hk : 1048576 < k) : Xaj k [] 0 = some ([], 0) := by
 obtain ⟨n, rfl⟩ : ∃ n, k = n + 1 := ⟨k - 1, by omega⟩
 unfold Xaj Td; (try dsimp only)
 have e : Ik (n + 1) [] 0 = some (-1, [], 0) := by
  unfold Ik I1; (try dsimp only)
  rw [Du]
  unfold C7; (try dsimp only [Az])
  exact (cf rfl).trans rfl
 exact (bs e).trans ((ct rfl).trans rfl)
theorem X8x (k : Nat) (T : Ct) (hk : 1048576 < k) : Xaj k [(T, 15)] 0 = some ([(T, 15)], 0) := by
 obtain ⟨n, rfl⟩ : ∃ n, k = n + 1 + 1 := ⟨k - 2, by omega⟩
 unfold Xaj Td; (try dsimp only)
 have e : Ik (n + 1 + 1) [(T, 15)] 0 = some (-1, [(T, 15)], 0) := by
  unfold Ik I1; (try dsimp only)
  rw [Du]
  unfold C7; (try dsimp only [Az])
  refine (ct rfl).trans ((ct rfl).trans ((ct rfl).trans ((bs (show Xun (n + 1 + 1) (T, 15) 0 = some (false, 0) from rfl)).trans ((cf rfl).trans ?_))))
  rw [show IntKind.i64.wrap (0 + 1) = 1 by decide, Du]
  unfold C7; (try dsimp only [Az])
  exact (cf rfl).trans rfl
 exact (bs e).trans ((ct rfl).trans rfl)
theorem X8l (k : Nat) (p : den Ak) (hk : 1048576 < k) : Jd k [] p = some (-1, [], p) := by
 obtain ⟨n, rfl⟩ : ∃ n, k = n + 1 := ⟨k - 1, by omega⟩
 unfold Jd Jk; (try dsimp only)
 rw [Et]
 unfold D0; (try dsimp only [Az])
 exact (cf rfl).trans rfl
theorem X82 (k : Nat) {fr to kd id h x : Int} {m : Bool} {d : A1} {S : Ct} (hS : ∀ z ∈ S, isG fr to kd id h z) (hne : 0 < S.length) (hk : 1048576 < k) : Jd k [(S, 15)] (Ba fr to kd id h x m d) = some (0, [(S, 15)], Ba fr to kd id h x m d) := by
 obtain ⟨n, rfl⟩ : ∃ n, k = n + 1 := ⟨k - 1, by omega⟩
 obtain ⟨y, m0, e0, hg⟩ := Xj hS hne
 unfold Jd Jk; (try dsimp only)
 rw [Et]
 unfold D0; (try dsimp only [Az])
 have e : Xld (n + 1) (S, 15) (Ba fr to kd id h x m d) = some (true, Ba fr to kd id h x m d) := by
  unfold Xld Xc; (try dsimp only)
  rw [hg]
  exact (ct (decide_eq_true (by show (0 : Int) < (S.length : Int); omega))).trans ((bs (Xo6 (n + 1) fr to kd id h y x m0 m e0 d)).trans rfl)
 exact (ct rfl).trans ((ct rfl).trans ((ct rfl).trans ((bs e).trans ((ct rfl).trans rfl))))
theorem X8q (k : Nat) {fr to kd id h : Int} (G : Gk fr to kd id h) {c : A1} (hc : c.length ≤ 48) (hk : 1048576 < k) :
  F62 k [] (Ba fr to kd id h 0 false c) 0 = some ([], Ba fr to kd id h 0 false c, true) ∧ S5 k [] (Ba fr to kd id h 0 false c) 0 = some ([], Ba fr to kd id h 0 false c, true) := by
 have ok := G.ok (x := 0) (m := false) (d := c) (by omega) (by omega) (fun e => by cases e)
 have k1 : K8 k (Ba fr to kd id h 0 false c) = some true := by rw [C9, ok]
 have k2 : F89 k (Ba fr to kd id h 0 false c) = some true := by rw [Ro, ok]
 have o := Xb4 k hk
 have cp := Nn k (Ba fr to kd id h 0 false c) (show c.length ≤ 1048576 by omega)
 have cq := Hw k (Ba fr to kd id h 0 false c) (show c.length ≤ 1048576 by omega)
 constructor
 ·obtain ⟨n, rfl⟩ : ∃ n, k = n + 1 := ⟨k - 1, by omega⟩
  unfold F62 Xht; (try dsimp only)
  refine (bs o.1).trans ((cf rfl).trans ((bs k1).trans ((cf rfl).trans ((bs (Bo _ 0 0 999985)).trans ((cf rfl).trans ((ct rfl).trans ?_))))))
  rw [Lm]
  unfold Gl; (try dsimp only [Az, Bi])
  exact (cf rfl).trans ((ct rfl).trans ((bs cp).trans rfl))
 ·unfold S5 Po; (try dsimp only)
  exact (bs o.2).trans ((cf rfl).trans ((bs k2).trans ((cf rfl).trans ((bs (B2 k 0 0 999985)).trans ((cf rfl).trans ((bs (X5 k hk)).trans ((bs (X0r k hk)).trans ((ct rfl).trans ((ct rfl).trans ((bs (X5 k hk)).trans ((bs cq).trans rfl)))))))))))
theorem X8z (k : Nat) {fr to kd id h : Int} (G : Gk fr to kd id h) {d : A1} (hd : d ≠ []) (hc : d.length ≤ 48) (hk : 1048576 < k) :
  F62 k [] (Ba fr to kd id h 0 true d) 0 = some ([([Ba fr to kd id h 0 true d], 15)], noP, false) ∧ S5 k [] (Ba fr to kd id h 0 true d) 0 = some ([([Ba fr to kd id h 0 true d], 15)], noP, false) := by
 have ok := G.ok (x := 0) (m := true) (d := d) (by omega) (by omega) (fun _ => hd)
 have k1 : K8 k (Ba fr to kd id h 0 true d) = some true := by rw [C9, ok]
 have k2 : F89 k (Ba fr to kd id h 0 true d) = some true := by rw [Ro, ok]
 have o := Xb4 k hk
 have cp := Nn k (Ba fr to kd id h 0 true d) (show d.length ≤ 1048576 by omega)
 have w15 : IntKind.i64.wrap (0 + 15) = 15 := by decide
 constructor
 ·obtain ⟨n, rfl⟩ : ∃ n, k = n + 1 := ⟨k - 1, by omega⟩
  unfold F62 Xht; (try dsimp only)
  refine (bs o.1).trans ((cf rfl).trans ((bs k1).trans ((cf rfl).trans ((bs (Bo _ 0 0 999985)).trans ((cf rfl).trans ((ct rfl).trans ?_))))))
  rw [Lm]
  unfold Gl; (try dsimp only [Az, Bi])
  rw [w15]
  exact (cf rfl).trans ((cf rfl).trans ((ct rfl).trans ((bs cp).trans ((ct rfl).trans ((cf rfl).trans rfl)))))
 ·have p1 := Xel k (T := [Ba fr to kd id h 0 true d]) (by simp) (fun z hz => by obtain rfl := List.mem_singleton.1 hz; show d.length ≤ 1048576; omega) hk
  unfold S5 Po; (try dsimp only)
  refine (bs o.2).trans ((cf rfl).trans ((bs k2).trans ((cf rfl).trans ((bs (B2 k 0 0 999985)).trans ((cf rfl).trans ((bs (X5 k hk)).trans ((bs (X0r k hk)).trans ((ct rfl).trans ((cf rfl).trans ?_)))))))))
  unfold Ng; (try dsimp only [Az, Bi])
  refine (bs (X8l k _ hk)).trans ((ct rfl).trans ((ct rfl).trans ?_))
  dsimp only
  rw [w15]
  have w2 : IntKind.i64.wrap (((([] ++ [([Ba fr to kd id h 0 true d], 15)] : prL)).length : Int) - 3) = -2 := by show IntKind.i64.wrap (1 - 3) = -2; decide
  rw [w2]
  exact (ct rfl).trans ((bs p1).trans rfl)
theorem X9j (k : Nat) {fr to kd id h : Int} (G : Gk fr to kd id h) {S : Ct} {c : A1} (hS : Ch (Ba fr to kd id h) 0 S c true) {m : Bool} {d : A1} (hd : m = true → d ≠ []) (hc : c.length + d.length ≤ 48) (hne : S ≠ []) (hk : 1048576 < k) :
  F62 k [(S, 15)] (Ba fr to kd id h (c.length : Int) m d) 0 = some (cond m [(S ++ [Ba fr to kd id h (c.length : Int) m d], 15)] [], (Xas fr to kd id h m (c ++ d)).1, (Xas fr to kd id h m (c ++ d)).2) ∧
  S5 k [(S, 15)] (Ba fr to kd id h (c.length : Int) m d) 0 = some (cond m [(S ++ [Ba fr to kd id h (c.length : Int) m d], 15)] [], (Xas fr to kd id h m (c ++ d)).1, (Xas fr to kd id h m (c ++ d)).2) := by
 have hl := Ez _ hS
 have hp := List.length_pos_iff.2 hne
 have hcp : 0 < c.length := by
  have := Nr hS
  cases S with
  | nil => exact absurd rfl hne
  | cons z S =>
   obtain ⟨m0, e0, c0, rfl, rfl, h | h⟩ := hS
   ·have := List.length_pos_iff.2 h.2.1
    rw [List.length_append]; omega
   ·exact absurd h.2.2.2 (by decide)
 have ok := G.ok (x := (c.length : Int)) (m := m) (d := d) (by omega) (by omega) hd
 have k1 : K8 k (Ba fr to kd id h (c.length : Int) m d) = some true := by rw [C9, ok]
 have k2 : F89 k (Ba fr to kd id h (c.length : Int) m d) = some true := by rw [Ro, ok]
 have o := Xlz k G hS (by omega) hne hk
 obtain ⟨y, m0, e0, hg⟩ := Xj (Xi hS) hp
 have pc := X2g k G hS hd hc hne hk
 have pi := X90 k G hS hd hc hne hk
 have wh := Xu1 k G hS hd hc hne hk
 have S' := Ir _ hS (by rw [Int.zero_add]; exact Iv (Ba fr to kd id h) (x := (c.length : Int)) hd)
 have hc' : (c ++ d).length ≤ 48 := by rw [List.length_append]; omega
 have p1 := Xel k (T := S) (by omega) (Mi hS (by omega)) hk
 have p2 := Xel k (T := S ++ [Ba fr to kd id h (c.length : Int) m d]) (by simp; omega) (Mi S' hc') hk
 have at0 : ((Ba fr to kd id h (c.length : Int) m d).2.2.2.2.2.1 == (0 : Int)) = false := beq_eq_false_iff_ne.2 (by show ¬ (c.length : Int) = 0; omega)
 have w1 : IntKind.i64.wrap (0 + 1) = 1 := by decide
 constructor
 ·obtain ⟨n, rfl⟩ : ∃ n, k = n + 1 + 1 := ⟨k - 2, by omega⟩
  unfold F62 Xht; (try dsimp only)
  refine (bs o.1).trans ((cf rfl).trans ((bs k1).trans ((cf rfl).trans ((bs (Bo _ 0 0 999985)).trans ((cf rfl).trans ((cf at0).trans ?_))))))
  rw [Lm]
  unfold Gl; (try dsimp only [Az, Bi])
  rw [show Aw (t := Bb) [(S, 15)] 0 = (S, 15) from rfl, hg]
  refine (ct rfl).trans ((ct rfl).trans ((ct rfl).trans ((cf rfl).trans ((ct rfl).trans ((ct (decide_eq_true (by show (0 : Int) < (S.length : Int); omega))).trans ((bs (Y9 _ fr to kd id h y (c.length : Int) m0 m e0 d)).trans ((ct rfl).trans ((bs pc).trans ((bs wh.1).trans ((ct rfl).trans ?_))))))))))
  rw [w1]
  cases m with
  | true =>
   refine (ct rfl).trans ((ct rfl).trans ?_)
   rw [Lm]
   unfold Gl; (try dsimp only [Az, Bi])
   exact (cf rfl).trans ((cf rfl).trans ((cf rfl).trans ((cf rfl).trans rfl)))
  | false =>
   refine (cf rfl).trans ?_
   rw [Lm]
   unfold Gl; (try dsimp only [Az, Bi])
   exact (cf rfl).trans ((cf rfl).trans ((cf rfl).trans ((cf rfl).trans rfl)))
 ·unfold S5 Po; (try dsimp only)
  refine (bs o.2).trans ((cf rfl).trans ((bs k2).trans ((cf rfl).trans ((bs (B2 k 0 0 999985)).trans ((cf rfl).trans ((bs p1).trans ((bs (X8x k S hk)).trans ((cf at0).trans ?_))))))))
  unfold Ng; (try dsimp only [Az, Bi])
  refine (bs (X82 k (Xi hS) hp hk)).trans ((cf rfl).trans ((ct rfl).trans ((ct rfl).trans ?_)))
  refine (bs pi).trans ((cf rfl).trans ((bs wh.2).trans ?_))
  cases m with
  | true => exact (cf rfl).trans ((ct rfl).trans ((ct rfl).trans ((bs p2).trans rfl)))
  | false =>
   dsimp only
   rw [w1]
   exact (ct rfl).trans ((bs (show Xwz k [(S, 15)] 0 1 = some [] from rfl)).trans ((bs (X5 k hk)).trans rfl))
end Go.Proofs.YtdmepjjepogddaaGreat.Gn
end

section
namespace Go.Proofs.YtdmepjjepogddaaGreat.Gn
open Go.Rf Go.IntWalk
set_option linter.unusedVariables false
set_option linter.unusedSimpArgs false
theorem Xog (k : Nat) {fr to kd id h : Int} (G : Gk fr to kd id h) (v : Fe) (w p q o : Int) (cc : A1) (t : den Eg) (ht : t.1.length ≤ 1000) (hk : 1048576 < k) : ∀ (n : Nat) (S R : Ct) (c1 c2 : A1), t.1 = S ++ R → Ch (Ba fr to kd id h) 0 S c1 true → Ch (Ba fr to kd id h) (c1.length : Int) R c2 false → c1.length + c2.length ≤ 48 → R.length < n →
  Mb k v w p q o cc n (S.length : Int) t (if S = [] then [] else [(S, 15)]) = some (c1 ++ c2, true) ∧ Iz k v w p q o cc n (t.1.length : Int) (S.length : Int) t.1 (if S = [] then [] else [(S, 15)]) = some (c1 ++ c2, true)
 | 0, _, _, _, _, _, _, _, _, h => by omega
 | n + 1, S, [], c1, c2, _, _, hR, _, _ => absurd hR.2 (by decide)
 | n + 1, S, r :: R, c1, c2, hT, hS, hR, hc, hn => by
  obtain ⟨m, d, c3, rfl, rfl, hR⟩ := hR
  rw [List.length_append] at hc
  have hd : m = true → d ≠ [] := fun e => by
   rcases hR with h2 | h2
   ·exact h2.2.1
   ·rw [h2.1] at e; cases e
  have hj : S.length < t.1.length := by rw [hT]; simp
  have hg : Aw (t := Ak) t.1 (S.length : Int) = Ba fr to kd id h (c1.length : Int) m d := by rw [Av t.1 S.length hj]; simp [hT]
  have d1 : decide ((S.length : Int) < (t.1.length : Int)) = true := decide_eq_true (by omega)
  have d0 : decide ((0 : Int) ≤ (S.length : Int)) = true := decide_eq_true (by omega)
  have one := Iv (Ba fr to kd id h) (x := 0 + (c1.length : Int)) hd
  have S' := Ir _ hS one
  rw [Int.zero_add] at S'
  have he : ∃ q1 : den Ak, q1.2.2.2.2.2.2.2.2 = c1 ++ d ∧ (F62 k (if S = [] then [] else [(S, 15)]) (Ba fr to kd id h (c1.length : Int) m d) 0 = some (cond m ([(S ++ [Ba fr to kd id h (c1.length : Int) m d], 15)], noP, false) ([], q1, true))) ∧
    (S5 k (if S = [] then [] else [(S, 15)]) (Ba fr to kd id h (c1.length : Int) m d) 0 = some (cond m ([(S ++ [Ba fr to kd id h (c1.length : Int) m d], 15)], noP, false) ([], q1, true))) := by
   by_cases hs : S = []
   ·subst hs
    obtain ⟨rfl, _⟩ := hS
    rw [if_pos rfl]
    cases m with
    | true =>
     obtain ⟨b1, b2⟩ := X8z k G (hd rfl) (by omega) hk
     exact ⟨(0, 0, 0, 0, 0, 0, false, false, [] ++ d), rfl, b1, b2⟩
    | false =>
     obtain ⟨b1, b2⟩ := X8q k G (c := d) (by omega) hk
     exact ⟨Ba fr to kd id h 0 false d, rfl, b1, b2⟩
   ·rw [if_neg hs]
    obtain ⟨b1, b2⟩ := X9j k G hS hd (by omega) hs hk
    refine ⟨(fr, to, kd, h, id, 0, false, false, c1 ++ d), rfl, ?_, ?_⟩
    ·rw [b1]; cases m <;> rfl
    ·rw [b2]; cases m <;> rfl
  obtain ⟨q1, hq, h1, h2⟩ := he
  rw [Mb, Iz]
  unfold Nu Ij; (try dsimp only [Az, Bi])
  rw [hg, h1, h2, F6 S.length (by omega)]
  rcases hR with ⟨rfl, _, h3⟩ | ⟨rfl, rfl, rfl, _⟩
  ·have ih := Xog k G v w p q o cc t ht hk n (S ++ [Ba fr to kd id h (c1.length : Int) true d]) R (c1 ++ d) c3 (by rw [hT]; simp) S' (by rw [List.length_append, Int.natCast_add]; exact h3) (by rw [List.length_append]; omega) (by simp at hn; omega)
   rw [if_neg (by simp), List.append_assoc, show (((S ++ [Ba fr to kd id h (c1.length : Int) true d]).length : Nat) : Int) = ((S.length + 1 : Nat) : Int) by simp] at ih
   exact ⟨(ct d1).trans ((ct d0).trans ((ct d1).trans ((bs rfl).trans ((cf rfl).trans ih.1)))), (ct d1).trans ((ct d0).trans ((ct d1).trans ((bs rfl).trans ((cf rfl).trans ih.2))))⟩
  ·have hl : q1.2.2.2.2.2.2.2.2.length ≤ 48 := by rw [hq, List.length_append]; simp at hc; omega
   refine ⟨(ct d1).trans ((ct d0).trans ((ct d1).trans ((bs rfl).trans ((ct rfl).trans ((ct (decide_eq_true (by show (0 + q1.2.2.2.2.2.2.2.2.length) * 1 ≤ _; omega))).trans ?_))))), (ct d1).trans ((ct d0).trans ((ct d1).trans ((bs rfl).trans ((ct rfl).trans ((bs (Rn k _ (show q1.2.2.2.2.2.2.2.2.length ≤ 4194304 by omega))).trans ?_)))))⟩
   ·rw [List.append_nil, ← hq]; rfl
   ·rw [List.append_nil, ← hq]
theorem sent (q : Nat) {v : Fe} {a : Nat} {s : den sta} (hs : v[a]? = some s) {to kd id : Int} {c : A1} (hv : ∀ s ∈ v, StaOk (q + 4) s) (hvl : v.length ≤ 5) (hto : 0 ≤ to ∧ to ≤ 65535) (hkd : 0 ≤ kd ∧ kd ≤ 255) (hid : 0 ≤ id ∧ id ≤ 255) (hc : c.length ≤ 48) (hb : BOk c) (hk : 1048576 < q + 4) (hN : F59 (q + 4) v = some true) :
  ∃ t : den Eg, F61 (q + 4) v (a : Int) (s.1, to, kd, 64, id, 0, false, false, c) = some t ∧ Xi8 (q + 4) v (a : Int) (s.1, to, kd, 64, id, 0, false, false, c) = some t ∧ ((t.1 = [] ∧ Tg v to 64 a = false) ∨ (∃ h : Int, (0 ≤ h ∧ h ≤ 64) ∧ Ch (Ba s.1 to kd id h) 0 t.1 c false) ∧ Tg v to 64 a = true) := by
 obtain ⟨hi, hse⟩ := List.getElem?_eq_some_iff.1 hs
 have sk := hv _ (List.getElem_mem hi)
 rw [hse] at sk
 have hfr : 0 ≤ (s.1 : Int) ∧ (s.1 : Int) ≤ 65535 := Bf sk.at1
 have ok : Ll (s.1, to, kd, 64, id, 0, false, false, c) = true := Oo hfr hto hkd (by omega) hid (by omega) hc (fun e => by cases e) (fun e => by cases e)
 obtain ⟨t, t1, t2, _⟩ := trav q v (a : Int) (s.1, to, kd, 64, id, 0, false, false, c) hv hvl hk 12288 (q + 4) (q + 4) 0 ([], [], 0) [(a : Int)] [(s.1, to, kd, 64, id, 0, false, false, c)] rfl (by simp) (fun x hx => by
   have e : x = (a : Int) := by simpa using hx
   rw [e]; show (0 : Int) ≤ (a : Int) ∧ (a : Int) < (v.length : Int); omega) (fun r hr => by
   have e := List.mem_singleton.1 (show r ∈ [((s.1, to, kd, 64, id, 0, false, false, c) : den Ak)] from hr)
   rw [e]; exact ⟨ok, hb⟩) (by
   have := X8w ok
   rw [List.drop_zero]
   simp only [H9]
   omega) (by omega) (by omega) (by omega) (by simp) (by simp) (fun r h => by cases h) (fun r h => by cases h) (by show (0 : Int) ≤ 0 ∧ (0 : Int) + ((12288 : Nat) : Int) ≤ 20000; omega)
 have I : Inv v s.1 to kd id c (Tg v to 64 a) (([], [], 0) : den Eg).1 [((a : Int), s.1, to, kd, 64, id, 0, false, false, c)] :=
  Xhk (fr := s.1) (to := to) (kd := kd) (id := id) (c := c) (a := a) (h := 64) (A := [Ba s.1 to kd id 64 0 false c]) hi (by omega) (Iv _ (fun e => by cases e))
 refine ⟨t, ?_, ?_, Q8 q (a : Int) (s.1, to, kd, 64, id, 0, false, false, c) hv hvl hk hfr hto hkd hid hc hb (q + 4) ([], [], 0) _ t _ I t2⟩
 ·unfold F61 Xnu; (try dsimp only [A5])
  have p1 := C9 (q + 4) (s.1, to, kd, 64, id, 0, false, false, c)
  rw [ok] at p1
  have wl1 : IntKind.i64.wrap ((v.length : Int) - 1) = (v.length : Int) - 1 := i64_in _ (by omega)
  have i1 := Bo (q + 4) (a : Int) 0 (IntKind.i64.wrap ((v.length : Int) - 1))
  rw [wl1, B0 (show (0 : Int) ≤ (a : Int) ∧ (a : Int) ≤ (v.length : Int) - 1 by omega)] at i1
  rw [wl1]
  exact (bs hN).trans ((cf rfl).trans ((bs p1).trans ((cf rfl).trans ((bs i1).trans ((cf rfl).trans t1)))))
 ·unfold Xi8 X3; (try dsimp only [A5])
  exact t2
theorem Xf8 (q : Nat) {v : Fe} (w p kd id : Int) {c : A1} (hl : v.length ≤ 1048576) (hs : T9 v ≤ 1048576) (hb : BOk c) (hcl : c.length ≤ 1048576) (hk : 1048576 < q + 4) :
  ∃ r : A1 × Bool, F13 (q + 4) v w p kd id c = some r ∧ F16 (q + 4) v w p kd id c = some r ∧ (r = ([], false) ∨ r = (c, true)) ∧ r.1.length ≤ 48 ∧ (r.2 = true ↔ F59 (q + 4) v = some true ∧ c.length ≤ 48 ∧ inB p 0 65535 = true ∧ inB kd 0 255 = true ∧ inB id 0 255 = true ∧ ∃ a : Nat, w = (a : Int) ∧ a < v.length ∧ Tg v p 64 a = true) := by
 obtain ⟨b, n1, n2, n3⟩ := Xul q v hl hs hk
 have i1 := Bo (q + 4) w 0 (IntKind.i64.wrap ((v.length : Int) - 1))
 have i2 := B2 (q + 4) w 0 (IntKind.i64.wrap ((v.length : Int) - 1))
 have wl1 : IntKind.i64.wrap ((v.length : Int) - 1) = (v.length : Int) - 1 := i64_in _ (by omega)
 have w1 := F5 (q + 4) p
 have w2 := B2 (q + 4) kd 0 255
 have w3 := B2 (q + 4) id 0 255
 have no : ∀ x : Option (A1 × Bool), x = some ([], false) → x = some ([], false) := fun _ h => h
 unfold F13 Xz0 F16 Xg7; (try dsimp only [Az])
 cases b with
 | false => exact ⟨_, (bs n1).trans ((ct rfl).trans rfl), (bs n2).trans ((ct rfl).trans rfl), .inl rfl, by simp, iff_of_false (by decide) (fun h => by have h1 := h.1; rw [n1] at h1; cases h1)⟩
 | true =>
  cases hw : inB w 0 (IntKind.i64.wrap ((v.length : Int) - 1)) with
  | false =>
   rw [hw] at i1 i2
   exact ⟨_, (bs n1).trans ((cf rfl).trans ((bs i1).trans ((ct rfl).trans rfl))), (bs n2).trans ((cf rfl).trans ((bs i2).trans ((ct rfl).trans rfl))), .inl rfl, by simp, iff_of_false (by decide) (fun h => by
    obtain ⟨_, _, _, _, _, a, e, ha, _⟩ := h
    rw [wl1, e, B0 (show (0 : Int) ≤ (a : Int) ∧ (a : Int) ≤ (v.length : Int) - 1 by omega)] at hw
    cases hw)⟩
  | true =>
   rw [hw] at i1 i2
   rw [wl1] at hw
   have hw := Bf hw
   obtain ⟨a, rfl⟩ : ∃ i : Nat, w = (i : Int) := ⟨w.toNat, by omega⟩
   have ha : a < v.length := by omega
   have d1 : decide ((a : Int) < (v.length : Int)) = true := decide_eq_true (by omega)
   have d0 : decide ((0 : Int) ≤ (a : Int)) = true := decide_eq_true (by omega)
   by_cases hc : ¬ c.length ≤ 48
   ·have c1 : decide ((c.length : Int) > 48) = true := decide_eq_true (by omega)
    refine ⟨([], false), (bs n1).trans ((cf rfl).trans ((bs i1).trans ((cf rfl).trans ((ct c1).trans rfl)))), (bs n2).trans ((cf rfl).trans ((bs i2).trans ((cf rfl).trans ((bs w1).trans ?_)))), .inl rfl, by simp, iff_of_false (by decide) (fun h => hc h.2.1)⟩
    cases inB p 0 65535; · rfl
    refine (cf rfl).trans ((bs w2).trans ?_)
    cases inB kd 0 255; · rfl
    refine (cf rfl).trans ((bs w3).trans ?_)
    cases inB id 0 255; · rfl
    exact (cf rfl).trans ((ct c1).trans rfl)
   ·replace hc := Decidable.not_not.1 hc
    have c1 : decide ((c.length : Int) > 48) = false := decide_eq_false (by omega)
    have hg := Av v a ha
    obtain ⟨h1, h2⟩ := n3 rfl
    have sk := h1 _ (List.getElem_mem ha)
    have hfr := Bf sk.at1
    by_cases hok : inB p 0 65535 = true ∧ inB kd 0 255 = true ∧ inB id 0 255 = true
    ·obtain ⟨o1, o2, o3⟩ := hok
     rw [o1] at w1; rw [o2] at w2; rw [o3] at w3
     obtain ⟨t, t1, t2, t3⟩ := sent q (List.getElem?_eq_getElem ha) h1 h2 (Bf o1) (Bf o2) (Bf o3) hc hb hk n1
     have O5 : ∃ r : A1 × Bool, Mb (q + 4) v (a : Int) p kd id c (q + 4) 0 t [] = some r ∧ Iz (q + 4) v (a : Int) p kd id c (q + 4) (t.1.length : Int) 0 t.1 [] = some r ∧ ((r = ([], false) ∧ Tg v p 64 a = false) ∨ (r = (c, true) ∧ Tg v p 64 a = true)) := by
      rcases t3 with ⟨e, hβ⟩ | ⟨⟨h, hh, hC⟩, hβ⟩
      ·refine ⟨([], false), ?_, ?_, .inl ⟨rfl, hβ⟩⟩
       ·rw [Mb]
        unfold Nu; (try dsimp only [Az, Bi])
        rw [e]
        exact (cf rfl).trans rfl
       ·rw [e, Iz]
        unfold Ij; (try dsimp only [Az])
        exact (cf rfl).trans rfl
      ·have hlen := Ez _ hC
       have G : Gk v[a].1 p kd id h := ⟨hfr, Bf o1, Bf o2, Bf o3, hh⟩
       have := Xog (q + 4) G v (a : Int) p kd id c t (by omega) hk (q + 4) [] t.1 [] c rfl ⟨rfl, rfl⟩ hC (by simpa using hc) (by omega)
       exact ⟨(c, true), this.1, this.2, .inr ⟨rfl, hβ⟩⟩
     obtain ⟨r, r1, r2, r3⟩ := O5
     refine ⟨r, (bs n1).trans ((cf rfl).trans ((bs i1).trans ((cf rfl).trans ((cf c1).trans ((ct d0).trans ((ct d1).trans ?_)))))), (bs n2).trans ((cf rfl).trans ((bs i2).trans ((cf rfl).trans ((bs w1).trans ((cf rfl).trans ((bs w2).trans ((cf rfl).trans ((bs w3).trans ((cf rfl).trans ((cf c1).trans ((bs ?_).trans rfl))))))))))), r3.imp (·.1) (·.1), ?_, ?_⟩
     ·rw [hg]
      exact (bs t1).trans r1
     ·unfold F66 Xhl; (try dsimp only [Az])
      rw [hg]
      exact (ct d0).trans ((ct d1).trans ((bs t2).trans r2))
     ·rcases r3 with ⟨rfl, _⟩ | ⟨rfl, _⟩
      ·simp
      ·exact hc
     ·rcases r3 with ⟨rfl, hβ⟩ | ⟨rfl, hβ⟩
      ·refine iff_of_false (by decide) (fun h => ?_)
       obtain ⟨_, _, _, _, _, a', e, _, h7⟩ := h
       obtain rfl : a = a' := by omega
       rw [hβ] at h7
       cases h7
      ·exact iff_of_true rfl ⟨n1, hc, o1, o2, o3, a, rfl, ha, hβ⟩
    ·have po : Ll (v[a].1, p, kd, 64, id, 0, false, false, c) = false := by
      cases ho : Ll (v[a].1, p, kd, 64, id, 0, false, false, c) with
      | false => rfl
      | true =>
       obtain ⟨_, q1, q2, _, q4, _⟩ := Cx ho
       exact absurd ⟨B0 q1, B0 q2, B0 q4⟩ hok
     have p1 := C9 (q + 4) (v[a].1, p, kd, 64, id, 0, false, false, c)
     rw [po] at p1
     have tr : F61 (q + 4) v (a : Int) (v[a].1, p, kd, 64, id, 0, false, false, c) = some ([], [], 0) := by
      unfold F61 Xnu; (try dsimp only [A5])
      exact (bs n1).trans ((cf rfl).trans ((bs p1).trans ((ct rfl).trans rfl)))
     refine ⟨([], false), (bs n1).trans ((cf rfl).trans ((bs i1).trans ((cf rfl).trans ((cf c1).trans ((ct d0).trans ((ct d1).trans ?_)))))), (bs n2).trans ((cf rfl).trans ((bs i2).trans ((cf rfl).trans ((bs w1).trans ?_)))), .inl rfl, by simp, iff_of_false (by decide) (fun h => hok ⟨h.2.2.1, h.2.2.2.1, h.2.2.2.2.1⟩)⟩
     ·rw [hg]
      refine (bs tr).trans ?_
      rw [Mb]
      unfold Nu; (try dsimp only [Az, Bi])
      exact (cf rfl).trans rfl
     ·cases o1 : inB p 0 65535; · rfl
      refine (cf rfl).trans ((bs w2).trans ?_)
      cases o2 : inB kd 0 255; · rfl
      refine (cf rfl).trans ((bs w3).trans ?_)
      cases o3 : inB id 0 255; · rfl
      exact absurd ⟨o1, o2, o3⟩ hok
end Go.Proofs.YtdmepjjepogddaaGreat.Gn
end

section
namespace Go.Proofs.YtdmepjjepogddaaGreat.Gn
open Go.Rf Go.IntWalk
set_option linter.unusedVariables false
set_option linter.unusedSimpArgs false
def Pt (v : Fe) (to : Int) : Nat → Nat → Bool
 | 0, _ => false
 | n + 1, a => (v[a]?).any fun s => @BEq.beq Int _ s.1 to || ((D5 v s to 2).any fun z => Pt v to n z.1.toNat)
theorem Xxw {v : Fe} {s : den sta} {to h : Int} (hh : 2 ≤ h) : D5 v s to h = D5 v s to 2 := by
 unfold D5
 rw [decide_eq_false (by omega : ¬ h < 2)]
 rfl
theorem Yy (v : Fe) (to : Int) : ∀ (n a : Nat), Tg v to (n + 1) a = Pt v to (n + 1) a
 | 0, a => by
  rw [Tg, Pt]
  cases v[a]? with
  | none => rfl
  | some s =>
   rw [Option.any_some, Option.any_some]
   have e1 : D5 v s to ((0 + 1 : Nat) : Int) = none := rfl
   rw [e1]
   cases D5 v s to 2 with
   | none => rfl
   | some z => rfl
 | n + 1, a => by
  rw [Tg, Pt]
  cases v[a]? with
  | none => rfl
  | some s =>
   rw [Option.any_some, Option.any_some, Xxw (by omega)]
   cases D5 v s to 2 with
   | none => rfl
   | some z => rw [Option.any_some, Option.any_some, Yy v to n]
theorem Ug (v : Fe) (to : Int) : ∀ (n a : Nat), Pt v to n a = true → Pt v to (n + 1) a = true
 | 0, a, h => by cases h
 | n + 1, a, h => by
  rw [Pt] at h ⊢
  cases hv : v[a]? with
  | none => rw [hv] at h; cases h
  | some s =>
   rw [hv, Option.any_some] at h
   rw [Option.any_some]
   cases hb : @BEq.beq Int _ s.1 to with
   | true => rfl
   | false =>
    rw [hb, Bool.false_or] at h
    rw [Bool.false_or]
    cases hz : D5 v s to 2 with
    | none => rw [hz] at h; cases h
    | some z =>
     rw [hz, Option.any_some] at h
     rw [Option.any_some]
     exact Ug v to n _ h
theorem Xtt {α : Type} (P Q : α → Bool) (h : ∀ a, P a = true → Q a = true) : ∀ l : List α, l.countP P ≤ l.countP Q ∧ (l.countP P = l.countP Q → ∀ a ∈ l, Q a = true → P a = true)
 | [] => ⟨Nat.le_refl _, fun _ a ha => by cases ha⟩
 | x :: l => by
  obtain ⟨h1, h2⟩ := Xtt P Q h l
  rw [List.countP_cons, List.countP_cons]
  cases hp : P x with
  | true =>
   rw [h x hp]
   refine ⟨by simp; omega, fun e a ha hq => ?_⟩
   rcases List.mem_cons.1 ha with rfl | ha
   ·exact hp
   ·exact h2 (by simpa using e) a ha hq
  | false =>
   cases hq : Q x with
   | true => exact ⟨by simp; omega, fun e => by simp at e; omega⟩
   | false =>
    refine ⟨by simpa using h1, fun e a ha hqa => ?_⟩
    rcases List.mem_cons.1 ha with rfl | ha
    ·rw [hq] at hqa; cases hqa
    ·exact h2 (by simpa using e) a ha hqa
def Xiw (v : Fe) (to : Int) (n : Nat) : Prop := ∀ a, a < v.length → Pt v to (n + 1) a = Pt v to n a
theorem X3c {v : Fe} {s : den sta} {to h : Int} {z : Int × Nat} (e : D5 v s to h = some z) : z.1.toNat < v.length := by
 obtain ⟨b, N⟩ := z
 obtain ⟨_, h2, h3⟩ := Z6 e
 show b.toNat < _
 omega
theorem Xan {v : Fe} {to : Int} {n : Nat} (h : Xiw v to n) : ∀ m, n ≤ m → Xiw v to m
 | 0, hm => by
  obtain rfl : n = 0 := by omega
  exact h
 | m + 1, hm => by
  rcases Nat.eq_or_lt_of_le hm with rfl | hlt
  ·exact h
  ·have ih := Xan h m (by omega)
   intro a ha
   rw [Pt, Pt]
   cases v[a]? with
   | none => rfl
   | some s =>
    rw [Option.any_some, Option.any_some]
    cases hz : D5 v s to 2 with
    | none => rfl
    | some z => rw [Option.any_some, Option.any_some, ih _ (X3c hz)]
theorem Ul {v : Fe} {to : Int} {n : Nat} (h : Xiw v to n) {a : Nat} (ha : a < v.length) : ∀ d, Pt v to (n + d) a = Pt v to n a
 | 0 => rfl
 | d + 1 => by rw [← Nat.add_assoc, Xan h (n + d) (by omega) a ha]; exact Ul h ha d
theorem Xck (v : Fe) (to : Int) : ∀ n, n ≤ (List.range v.length).countP (Pt v to n) ∨ ∃ i, i < n ∧ Xiw v to i
 | 0 => .inl (Nat.zero_le _)
 | n + 1 => by
  rcases Xck v to n with h | ⟨i, h1, h2⟩
  ·obtain ⟨c1, c2⟩ := Xtt (Pt v to n) (Pt v to (n + 1)) (fun a => Ug v to n a) (List.range v.length)
   by_cases e : (List.range v.length).countP (Pt v to n) = (List.range v.length).countP (Pt v to (n + 1))
   ·refine .inr ⟨n, by omega, fun a ha => ?_⟩
    have := c2 e a (List.mem_range.2 ha)
    cases h1 : Pt v to (n + 1) a with
    | true => exact (this h1).symm
    | false =>
     cases h2 : Pt v to n a with
     | false => rfl
     | true => rw [Ug v to n a h2] at h1; cases h1
   ·exact .inl (by omega)
  ·exact .inr ⟨i, by omega, h2⟩
theorem Xmi {v : Fe} {to : Int} (hl : v.length ≤ 5) {a : Nat} (ha : a < v.length) : Pt v to 64 a = Pt v to (v.length + 1) a := by
 rcases Xck v to (v.length + 1) with h | ⟨i, h1, h2⟩
 ·have := List.countP_le_length (p := Pt v to (v.length + 1)) (l := List.range v.length)
  rw [List.length_range] at this
  omega
 ·have e1 := Ul h2 ha (64 - i)
  have e2 := Ul h2 ha (v.length + 1 - i)
  rw [show i + (64 - i) = 64 by omega] at e1
  rw [show i + (v.length + 1 - i) = v.length + 1 by omega] at e2
  rw [e1, e2]
theorem Xts (q : Nat) (v : Fe) (w p : Int) (hv : ∀ s ∈ v, StaOk (q + 4) s) (hvl : v.length ≤ 5) (hp : inB p 0 65535 = true) (hk : 1048576 < q + 4) : ∀ (j n i a : Nat) (room : Int), i + j = v.length + 1 → j < n → a < v.length → 1 ≤ room → ∃ r : Int, H5 (q + 4) v w p n room (a : Int) (i : Int) = some r ∧ (r > 0 ↔ Pt v p j a = true)
 | _, 0, _, _, _, _, h, _, _ => by omega
 | 0, n + 1, i, a, room, hi, _, ha, hr => by
  rw [H5]
  unfold Gw; (try dsimp only [Az])
  rw [i64_in ((v.length : Int) + 1) (by omega)]
  exact ⟨0, (cf (decide_eq_false (by omega))).trans rfl, iff_of_false (by omega) (by rw [Pt]; decide)⟩
 | j + 1, n + 1, i, a, room, hi, hn, ha, hr => by
  have sk := hv _ (List.getElem_mem ha)
  have d0 : decide ((0 : Int) ≤ (a : Int)) = true := decide_eq_true (by omega)
  have d1 : decide ((a : Int) < (v.length : Int)) = true := decide_eq_true (by omega)
  have n0 : decide ((a : Int) < 0) = false := decide_eq_false (by omega)
  rw [H5]
  unfold Gw; (try dsimp only [Az])
  rw [i64_in ((v.length : Int) + 1) (by omega), Av v a ha, F6 i (by omega), Pt, List.getElem?_eq_getElem ha, Option.any_some]
  have di : decide ((i : Int) < (v.length : Int) + 1) = true := decide_eq_true (by omega)
  cases hb : @BEq.beq Int _ v[a].1 p with
  | true => exact ⟨room, (ct di).trans ((cf n0).trans ((ct d0).trans ((ct d1).trans ((ct rfl).trans rfl)))), iff_of_true (by omega) rfl⟩
  | false =>
   rw [Bool.false_or]
   have fi' := Xct (q + 4) v[a].2 p sk.len sk.ok
   have fm := Ni p 17 (l := v[a].2.reverse)
   have hh : D5 v v[a] p 2 = cond (Rt.B1 p 17 v[a].2.reverse).2 (cond (decide (fi (Rt.B1 p 17 v[a].2.reverse).1.2.2.1 v 0 ≥ 0)) (some (fi (Rt.B1 p 17 v[a].2.reverse).1.2.2.1 v 0, Int.toNat (Rt.B1 p 17 v[a].2.reverse).1.2.2.2)) none) none := rfl
   rw [hh]
   generalize Rt.B1 p 17 v[a].2.reverse = r at fi' fm
   obtain ⟨r, fd⟩ := r
   cases fd with
   | false => exact ⟨0, (ct di).trans ((cf n0).trans ((ct d0).trans ((ct d1).trans ((cf rfl).trans ((ct d0).trans ((ct d1).trans ((bs fi').trans ((ct rfl).trans rfl)))))))), iff_of_false (by omega) (by show ¬ (false = true); decide)⟩
   | true =>
    have hm := List.mem_reverse.1 (fm rfl)
    obtain ⟨r0, r1, gw, mtu⟩ := r
    have hmtu : @LE.le Int _ 1 mtu ∧ @LE.le Int _ mtu 48 := Bf (Kt (sk.ok _ hm)).2.2.2
    have f4 := Zo (q + 4) v gw (by omega) hk
    have f5 := Xca gw v 0
    show ∃ r : Int, _ ∧ (r > 0 ↔ (cond (decide (fi gw v 0 ≥ 0)) (some (fi gw v 0, Int.toNat mtu)) none).any (fun z => Pt v p j z.1.toNat) = true)
    generalize fi gw v 0 = b at f4 f5 ⊢
    by_cases cb : b ≥ 0
    ·obtain ⟨b, rfl⟩ : ∃ i : Nat, b = (i : Int) := ⟨b.toNat, by omega⟩
     obtain ⟨z, z1, z2⟩ := Xts q v w p hv hvl hp hk j n (i + 1) b (if mtu < room then mtu else room) (by omega) (by omega) (by omega) (by split <;> omega)
     rw [decide_eq_true cb, cond_true, Option.any_some]
     exact ⟨z, (ct di).trans ((cf n0).trans ((ct d0).trans ((ct d1).trans ((cf rfl).trans ((ct d0).trans ((ct d1).trans ((bs fi').trans ((cf rfl).trans ((bs f4).trans z1))))))))), z2⟩
    ·rw [decide_eq_false cb]
     refine ⟨0, (ct di).trans ((cf n0).trans ((ct d0).trans ((ct d1).trans ((cf rfl).trans ((ct d0).trans ((ct d1).trans ((bs fi').trans ((cf rfl).trans ((bs f4).trans ?_))))))))), iff_of_false (by omega) (by show ¬ (false = true); decide)⟩
     obtain ⟨n, rfl⟩ : ∃ n', n = n' + 1 := ⟨n - 1, by omega⟩
     show H5 (q + 4) v w p (n + 1) _ b ((i + 1 : Nat) : Int) = some 0
     rw [H5]
     unfold Gw; (try dsimp only [Az])
     rw [i64_in ((v.length : Int) + 1) (by omega)]
     by_cases c : ((i + 1 : Nat) : Int) < (v.length : Int) + 1
     ·exact (ct (decide_eq_true c)).trans ((ct (decide_eq_true (by omega))).trans rfl)
     ·exact (cf (decide_eq_false c)).trans rfl
theorem Xwh (q : Nat) (v : Fe) (w p : Int) (hl : v.length ≤ 1048576) (hs : T9 v ≤ 1048576) (hk : 1048576 < q + 4) : ∃ r : Int, F25 (q + 4) v w p = some r ∧ (r > 0 ↔ F59 (q + 4) v = some true ∧ inB p 0 65535 = true ∧ ∃ a : Nat, w = (a : Int) ∧ a < v.length ∧ Tg v p 64 a = true) := by
 obtain ⟨b, n1, n2, n3⟩ := Xul q v hl hs hk
 have i2 := B2 (q + 4) w 0 (IntKind.i64.wrap ((v.length : Int) - 1))
 have wl1 : IntKind.i64.wrap ((v.length : Int) - 1) = (v.length : Int) - 1 := i64_in _ (by omega)
 have w1 := F5 (q + 4) p
 unfold F25 Xib; (try dsimp only)
 cases b with
 | false => exact ⟨0, (bs n2).trans ((ct rfl).trans rfl), iff_of_false (by omega) (fun h => by have h1 := h.1; rw [n1] at h1; cases h1)⟩
 | true =>
  cases hw : inB w 0 (IntKind.i64.wrap ((v.length : Int) - 1)) with
  | false =>
   rw [hw] at i2
   refine ⟨0, (bs n2).trans ((cf rfl).trans ((bs i2).trans ((ct rfl).trans rfl))), iff_of_false (by omega) (fun h => ?_)⟩
   obtain ⟨_, _, a, e, ha, _⟩ := h
   rw [wl1, e, B0 (show (0 : Int) ≤ (a : Int) ∧ (a : Int) ≤ (v.length : Int) - 1 by omega)] at hw
   cases hw
  | true =>
   rw [hw] at i2
   rw [wl1] at hw
   have hw := Bf hw
   obtain ⟨a, rfl⟩ : ∃ i : Nat, w = (i : Int) := ⟨w.toNat, by omega⟩
   have ha : a < v.length := by omega
   cases hp : inB p 0 65535 with
   | false =>
    rw [hp] at w1
    exact ⟨0, (bs n2).trans ((cf rfl).trans ((bs i2).trans ((cf rfl).trans ((bs w1).trans ((ct rfl).trans rfl))))), iff_of_false (by omega) (fun h => by have h1 := h.2.1; cases h1)⟩
   | true =>
    rw [hp] at w1
    obtain ⟨h1, h2⟩ := n3 rfl
    obtain ⟨r, r1, r2⟩ := Xts q v (a : Int) p h1 h2 hp hk (v.length + 1) (q + 4) 0 a 48 (by omega) (by omega) ha (by omega)
    refine ⟨r, (bs n2).trans ((cf rfl).trans ((bs i2).trans ((cf rfl).trans ((bs w1).trans ((cf rfl).trans r1))))), r2.trans ⟨fun h => ⟨n1, rfl, a, rfl, ha, ?_⟩, fun h => ?_⟩⟩
    ·rw [Yy v p 63, Xmi h2 ha]; exact h
    ·obtain ⟨_, _, a', e, _, h7⟩ := h
     obtain rfl : a = a' := by omega
     rw [Yy v p 63, Xmi h2 ha] at h7
     exact h7
end Go.Proofs.YtdmepjjepogddaaGreat.Gn
end

section
namespace Go.Proofs.YtdmepjjepogddaaGreat.Gn
open Go.Rf Go.IntWalk
set_option linter.unusedVariables false
set_option linter.unusedSimpArgs false
def Sm {β : Type} (o : Option β) (P : β → Prop) : Prop := ∃ r, o = some r ∧ P r
theorem Sm.bind {α β : Type} {o : Option α} {f : α → Option β} {P : α → Prop} {Q : β → Prop} (h : Sm o P) (g : ∀ r, P r → Sm (f r) Q) : Sm (o.bind f) Q := by
 obtain ⟨r, e, p⟩ := h
 rw [e]
 exact g r p
theorem Sm.cond {β : Type} {c : Bool} {a b : Option β} {Q : β → Prop} (h1 : c = true → Sm a Q) (h2 : c = false → Sm b Q) : Sm (cond c a b) Q := by
 cases c
 ·exact h2 rfl
 ·exact h1 rfl
theorem Sm.ct {β : Type} {c : Bool} {a b : Option β} {Q : β → Prop} (hc : c = true) (h : Sm a Q) : Sm (_root_.cond c a b) Q := by rw [hc]; exact h
theorem Sm.cf {β : Type} {c : Bool} {a b : Option β} {Q : β → Prop} (hc : c = false) (h : Sm b Q) : Sm (_root_.cond c a b) Q := by rw [hc]; exact h
theorem Nb {t : Ty} {l : List (den t)} {i : Int} (h0 : 0 ≤ i) (h1 : i < (l.length : Nat)) : Aw l i ∈ l := by
 obtain ⟨j, rfl⟩ := Int.eq_ofNat_of_zero_le h0
 rw [Av l j (by omega)]
 exact List.getElem_mem _
theorem Xkf (x y : Int) (hx : 0 ≤ x ∧ x < 2 ^ 50) (hy : 0 ≤ y ∧ y < 2 ^ 50) : 0 ≤ Cf .xor .i64 x y ∧ Cf .xor .i64 x y < 2 ^ 50 := by
 obtain ⟨a, rfl⟩ := Int.eq_ofNat_of_zero_le hx.1
 obtain ⟨b, rfl⟩ := Int.eq_ofNat_of_zero_le hy.1
 have ha : a < 2 ^ 50 := by omega
 have hb : b < 2 ^ 50 := by omega
 have h1 : (BitVec.ofInt 64 (a : Int) ^^^ BitVec.ofInt 64 (b : Int)).toNat = a ^^^ b := by
  rw [BitVec.toNat_xor]
  simp only [BitVec.ofInt_natCast, BitVec.toNat_ofNat]
  rw [Nat.mod_eq_of_lt (by omega), Nat.mod_eq_of_lt (by omega)]
 have h2 : a ^^^ b < 2 ^ 50 := Nat.xor_lt_two_pow ha hb
 have h3 : Cf .xor .i64 (a : Int) (b : Int) = ((a ^^^ b : Nat) : Int) := by
  show IntKind.i64.wrap (((BitVec.ofInt 64 (a : Int) ^^^ BitVec.ofInt 64 (b : Int)).toNat : Nat) : Int) = _
  rw [h1, i64_in _ (by omega)]
 rw [h3]
 omega
theorem Wt (k : Nat) (b : A1) (hb : BOk b) (hl : b.length ≤ 2000) (p n : Int) (hp : 0 ≤ p) (hp2 : p < 2 ^ 30) : ∃ r, Gf k (b, p) n = some (r, (b, p + 1)) ∧ 0 ≤ r ∧ (1 ≤ n → r < n) ∧ (n < 1 → r = 0) := by
 unfold Gf Xiz; (try dsimp only [Az, u_0])
 rw [i64_in (p + 1) (by omega), show p + 1 - 1 = p by omega, i64_in p (by omega)]
 by_cases hn : n < 1
 ·rw [decide_eq_true hn]; exact ⟨0, rfl, by omega, by omega, fun _ => rfl⟩
 ·rw [decide_eq_false hn, cond_false]
  by_cases h0 : b.length = 0
  ·have : (((b.length : Nat) : Int) == 0) = true := by simp [h0]
   rw [this]; exact ⟨0, rfl, by omega, by omega, fun _ => rfl⟩
  ·have : (((b.length : Nat) : Int) == 0) = false := by simp [h0]
   rw [this, cond_false]
   have hpos : 0 < ((b.length : Nat) : Int) := by omega
   by_cases hlt : p < ((b.length : Nat) : Int)
   ·rw [decide_eq_true hlt, decide_eq_true hp, decide_eq_false (by omega : ¬ n = 0)]
    simp only [cond_true, cond_false]
    have hm := hb _ (Nb hp hlt)
    rw [i64_in (Aw b p) ⟨Int.le_trans (by decide) hm.1, Int.le_trans hm.2 (by decide)⟩]
    exact ⟨_, rfl, Int.tmod_nonneg _ hm.1, fun h => Int.tmod_lt_of_pos _ (by omega), by omega⟩
   ·rw [decide_eq_false hlt, decide_eq_false (by omega : ¬ ((b.length : Nat) : Int) = 0)]
    simp only [cond_false]
    rw [i64_in (p * 7) (by omega), i64_in (p * 7 + 3) (by omega)]
    have m1 : 0 ≤ p.tmod ((b.length : Nat) : Int) := Int.tmod_nonneg _ hp
    have m2 : p.tmod ((b.length : Nat) : Int) < ((b.length : Nat) : Int) := Int.tmod_lt_of_pos _ hpos
    have m3 : 0 ≤ (p * 7 + 3).tmod ((b.length : Nat) : Int) := Int.tmod_nonneg _ (by omega)
    have m4 : (p * 7 + 3).tmod ((b.length : Nat) : Int) < ((b.length : Nat) : Int) := Int.tmod_lt_of_pos _ hpos
    have m5 : 0 ≤ p.tdiv ((b.length : Nat) : Int) := Int.tdiv_nonneg hp (by omega)
    have m6 : p.tdiv ((b.length : Nat) : Int) ≤ p := Int.tdiv_le_self _ hp
    rw [decide_eq_true m1, decide_eq_true m2, decide_eq_true m3, decide_eq_true m4, decide_eq_false (by omega : ¬ n = 0)]
    simp only [cond_true, cond_false]
    have g1 := hb _ (Nb m1 m2)
    have g2 := hb _ (Nb m3 m4)
    obtain ⟨x1, hx1⟩ : ∃ x : Int, x = Aw b (p.tmod ((b.length : Nat) : Int)) := ⟨_, rfl⟩
    obtain ⟨x2, hx2⟩ : ∃ x : Int, x = Aw b ((p * 7 + 3).tmod ((b.length : Nat) : Int)) := ⟨_, rfl⟩
    rw [← hx1] at g1 ⊢
    rw [← hx2] at g2 ⊢
    generalize p.tdiv ((b.length : Nat) : Int) = q at *
    have g1 : 0 ≤ x1 ∧ x1 ≤ 255 := g1
    have g2 : 0 ≤ x2 ∧ x2 ≤ 255 := g2
    rw [i64_in x1 (by omega), i64_in x2 (by omega), i64_in (x1 * 131) (by omega), i64_in (x2 * 1117) (by omega), i64_in (x1 * 131 + x2 * 1117) (by omega), i64_in (p * 29) (by omega), i64_in (x1 * 131 + x2 * 1117 + p * 29) (by omega),
     i64_in q (by omega), i64_in (q * 53) (by omega), i64_in (x1 * 131 + x2 * 1117 + p * 29 + q * 53) (by omega)]
    generalize hX : x1 * 131 + x2 * 1117 + p * 29 + q * 53 = X
    have hX1 : 0 ≤ X ∧ X < 2 ^ 50 := by omega
    have d1 : 0 ≤ X.tdiv 64 := Int.tdiv_nonneg hX1.1 (by omega)
    have d2 : X.tdiv 64 ≤ X := Int.tdiv_le_self _ hX1.1
    rw [i64_in (X.tdiv 64) (by omega)]
    have hxo := Xkf X (X.tdiv 64) hX1 (by omega)
    exact ⟨_, rfl, Int.tmod_nonneg _ hxo.1, fun h => Int.tmod_lt_of_pos _ (by omega), by omega⟩
theorem pk {β : Type} (k : Nat) {b : A1} (hb : BOk b) (hl : b.length ≤ 2000) {p n : Int} (hp : 0 ≤ p) (hp2 : p < 1000000) (hn : 1 ≤ n) {f : Int × A1 × Int → Option β} {Q : β → Prop}
  (h : ∀ x : Int, 0 ≤ x → x < n → Sm (f (x, b, p + 1)) Q) : Sm ((Gf k (b, p) n).bind f) Q := by
 obtain ⟨r, e, h0, h1, _⟩ := Wt k b hb hl p n hp (by omega)
 rw [e]
 exact h r h0 (h1 hn)
theorem Xx4 (k : Nat) (b : A1) (hb : BOk b) : ∃ b', F69 k b = some (b', 0) ∧ BOk b' ∧ b'.length ≤ 2000 := by
 unfold F69 Xhp; (try dsimp only)
 by_cases h : ((b.length : Nat) : Int) > 2000
 ·rw [decide_eq_true h, cond_true]
  rw [decide_eq_true (by omega : (2000 : Int) ≤ ((b.length : Nat) : Int))]
  exact ⟨_, rfl, fun x hx => hb x (List.mem_of_mem_take hx), by simp; omega⟩
 ·rw [decide_eq_false h, cond_false]
  exact ⟨_, rfl, hb, by omega⟩
theorem Xhh (k : Nat) (a0 : A1) (a1 a2 : Int) {b : A1} (hb : BOk b) (hl : b.length ≤ 2000) : ∀ (n c : Nat) (p : Int) (m : A1), c < n → c ≤ 100 → 0 ≤ p → p + 2 * c < 999900 → m.length + c ≤ 1000 →
  Sm (E4 k (a0, a1) a2 n (c : Int) (b, p) m) fun r => r.1.length = m.length + c ∧ r.2 = (b, p + 2 * c)
 | 0, c, p, m, h, _, _, _, _ => by omega
 | n + 1, 0, p, m, h, hc, hp, hp2, hm => by
  rw [E4]
  unfold G0; (try dsimp only [Bi])
  refine Sm.cf (decide_eq_false (by omega)) ⟨_, rfl, by simp, ?_⟩
  simp
 | n + 1, c + 1, p, m, h, hc, hp, hp2, hm => by
  rw [E4]
  unfold G0; (try dsimp only [Bi])
  have e : IntKind.i64.wrap (((c + 1 : Nat) : Int) - 1) = (c : Int) := by rw [i64_in _ (by omega)]; omega
  rw [e]
  have O5 : ∀ y : den (.int .u8), Sm (E4 k (a0, a1) a2 n (c : Int) (b, p + 1 + 1) (m ++ [y])) fun r => r.1.length = m.length + (c + 1) ∧ r.2 = (b, p + 2 * ((c + 1 : Nat) : Int)) := fun y => by
   obtain ⟨r, e1, e2, e3⟩ := Xhh k a0 a1 a2 hb hl n c (p + 1 + 1) (m ++ [y]) (by omega) (by omega) (by omega) (by omega) (by
    simp only [List.length_append, List.length_singleton]
    omega)
   refine ⟨r, e1, by rw [e2]; simp only [List.length_append, List.length_singleton]; omega, ?_⟩
   rw [e3]
   simp only [Prod.mk.injEq, true_and]
   omega
  refine Sm.ct (decide_eq_true (by omega)) ?_
  refine pk k hb hl (by omega) (by omega) (by omega) fun x1 _ _ => ?_
  dsimp only
  refine Sm.cond (fun _ => ?_) (fun _ => ?_)
  ·refine pk k hb hl (by omega) (by omega) (by omega) fun x2 _ _ => ?_
   dsimp only
   exact Sm.ct (decide_eq_true (by simp only [List.length_singleton]; omega)) (O5 _)
  ·refine pk k hb hl (by omega) (by omega) (by omega) fun x2 _ _ => ?_
   dsimp only
   exact Sm.ct (decide_eq_true (by simp only [List.length_singleton]; omega)) (O5 _)
theorem odk {β : Type} (k : Nat) {b : A1} (hb : BOk b) (hl : b.length ≤ 2000) {p n : Int} (hp : 0 ≤ p) (hp2 : p < 1000000) {f : Bool × A1 × Int → Option β} {Q : β → Prop}
  (h : ∀ (x : Bool) (p' : Int), p ≤ p' → p' ≤ p + 1 → Sm (f (x, b, p')) Q) : Sm ((U2 k (b, p) n).bind f) Q := by
 unfold U2 Yj; (try dsimp only)
 by_cases hn : n > 0
 ·rw [decide_eq_true hn, cond_true]
  obtain ⟨r, e, _⟩ := Wt k b hb hl p n hp (by omega)
  rw [e]
  exact h _ (p + 1) (by omega) (by omega)
 ·rw [decide_eq_false hn]
  exact h _ _ (by omega) (by omega)
end Go.Proofs.YtdmepjjepogddaaGreat.Gn
end
