/-
  What the proof of this row needs, part 6: the typed evaluator of the translated code, the functions that the law reaches as plain functions, and what they answer.
-/
import Derived.Test.YtgbmdojleednhaaGreatA5
section
set_option linter.unusedVariables false
set_option linter.unusedSimpArgs false
namespace Go.Proofs.YtgbmdojleednhaaGreat.Gn
open Go.Rf IntKind
noncomputable section
def F63_t (k : Nat) : Tab := entT 26 (F26_p k) <| noTab
abbrev F63_E (k : Nat) : Env := env (F63_t k) noHint .own [(false, 0), (false, 1)] k
abbrev F63_sh : List AK := [.p [.sl .ro (.int .u8), .int .i64], .one (.l (.int .i64))]
noncomputable abbrev F63_a := arC F63_sh
def F63_r (r : Bool × L_u8 × Int) : A × List (List Leaf) := (.one (vB r.1), [[.s .ro (.int .u8) r.2.1, vI r.2.2]])
def F63_T {β : Type} (RET : (Bool × L_u8 × Int) → Option β) (k : Nat) (v0 : L_u8) (v1 w : Int) : Option β := cond (decide (w > 0)) ((F26 k v0 v1 w).bind fun b1 => RET ((b1.1 == (i64.wrap (w - 1))), b1.2.1, b1.2.2)) (RET (false, v0, v1))
def F63 := F63_T (β := Bool × L_u8 × Int) some
theorem F63_ev {β : Type} (k : Nat) (v0 : L_u8) (v1 w : Int) (K : KT β) : evalF (F63_E k) Tryz.f63 (F63_a v0 v1 w) K = (F63 k v0 v1 w).bind fun r => K (F63_r r) :=
 Eq.trans (b := F63_T (fun r => K (F63_r r)) k v0 v1 w) (by kernel_rfl) (by simp only [F63, F63_T, z1, z2, z3, z4, z5])
theorem F63_tOk (k : Nat) : TabFn Tryz.prog (F63_t k) := .ent (F26_q k) F26_f (.none)
noncomputable def F63_p (k : Nat) : List Arg → Option CR := cleC F63_sh (F63 k) F63_r
theorem F63_q (k : Nat) : ∀ xs cr, F63_p k xs = some cr → Contract Tryz.prog 63 xs cr := cleC_ok fun x => con_of (envOk (F63_tOk k) _ _ _ _) mixed Tryz.func63 rfl rfl (F63_ev k _ _ _ some)
theorem F63_f : FnOk Tryz.prog 63 := .of (by kernel_rfl)
abbrev F42_E (k : Nat) : Env := env noTab noHint .own [] k
abbrev F42_sh : List AK := [.one (.l (.int .i64)), .one (.l (.int .i64)), .one (.l (.int .i64))]
noncomputable abbrev F42_a := arC F42_sh
def F42_r (r : Bool) : A × List (List Leaf) := (.one (vB r), [])
def F42 (k : Nat) (v w p : Int) : Option (Bool) := cond (decide (v ≥ w)) (some (decide (v ≤ p))) (some false)
theorem F42_ev {β : Type} (k : Nat) (v w p : Int) (K : KT β) : evalF (F42_E k) Tryz.f42 (F42_a v w p) K = (F42 k v w p).bind fun r => K (F42_r r) :=
 Eq.trans (b := cond (decide (v ≥ w)) (K (.one (vB (decide (v ≤ p))), [])) (K (.one (vB false), []))) (by kernel_rfl) (by simp only [F42, F42_r, z1, z2, z3, z4, z5])
noncomputable def F42_p (k : Nat) : List Arg → Option CR := cleC F42_sh (F42 k) F42_r
theorem F42_q (k : Nat) : ∀ xs cr, F42_p k xs = some cr → Contract Tryz.prog 42 xs cr := cleC_ok fun x => con_of (envOk .none _ _ _ _) mixed Tryz.func42 rfl rfl (F42_ev k _ _ _ some)
theorem F42_f : FnOk Tryz.prog 42 := .of (by kernel_rfl)
def F29_t (k : Nat) : Tab := entT 42 (F42_p k) <| noTab
abbrev F29_E (k : Nat) : Env := env (F29_t k) noHint .own [] k
abbrev F29_sh : List AK := [.one (.l (.int .i64))]
noncomputable abbrev F29_a := arC F29_sh
def F29_r (r : Bool) : A × List (List Leaf) := (.one (vB r), [])
def F29 (k : Nat) (v : Int) : Option (Bool) := (F42 k v 0 65535).bind fun b1 => some b1
theorem F29_ev {β : Type} (k : Nat) (v : Int) (K : KT β) : evalF (F29_E k) Tryz.f29 (F29_a v) K = (F29 k v).bind fun r => K (F29_r r) :=
 Eq.trans (b := (F42 k v 0 65535).bind fun b1 => K (.one (vB b1), [])) (by kernel_rfl) (by simp only [F29, F29_r, z1, z2, z3, z4, z5])
theorem F29_tOk (k : Nat) : TabFn Tryz.prog (F29_t k) := .ent (F42_q k) F42_f (.none)
noncomputable def F29_p (k : Nat) : List Arg → Option CR := cleC F29_sh (F29 k) F29_r
theorem F29_q (k : Nat) : ∀ xs cr, F29_p k xs = some cr → Contract Tryz.prog 29 xs cr := cleC_ok fun x => con_of (envOk (F29_tOk k) _ _ _ _) mixed Tryz.func29 rfl rfl (F29_ev k _ some)
theorem F29_f : FnOk Tryz.prog 29 := .of (by kernel_rfl)
def F30_t (k : Nat) : Tab := entT 42 (F42_p k) <| noTab
abbrev F30_E (k : Nat) : Env := env (F30_t k) noHint .own [] k
abbrev F30_sh : List AK := [.one (.l (.int .i64))]
noncomputable abbrev F30_a := arC F30_sh
def F30_r (r : Bool) : A × List (List Leaf) := (.one (vB r), [])
def F30 (k : Nat) (v : Int) : Option (Bool) := (F42 k v 1 255).bind fun b1 => some b1
theorem F30_ev {β : Type} (k : Nat) (v : Int) (K : KT β) : evalF (F30_E k) Tryz.f30 (F30_a v) K = (F30 k v).bind fun r => K (F30_r r) :=
 Eq.trans (b := (F42 k v 1 255).bind fun b1 => K (.one (vB b1), [])) (by kernel_rfl) (by simp only [F30, F30_r, z1, z2, z3, z4, z5])
theorem F30_tOk (k : Nat) : TabFn Tryz.prog (F30_t k) := .ent (F42_q k) F42_f (.none)
noncomputable def F30_p (k : Nat) : List Arg → Option CR := cleC F30_sh (F30 k) F30_r
theorem F30_q (k : Nat) : ∀ xs cr, F30_p k xs = some cr → Contract Tryz.prog 30 xs cr := cleC_ok fun x => con_of (envOk (F30_tOk k) _ _ _ _) mixed Tryz.func30 rfl rfl (F30_ev k _ some)
theorem F30_f : FnOk Tryz.prog 30 := .of (by kernel_rfl)
abbrev F113_E (k : Nat) : Env := env noTab noHint .own [] k
abbrev F113_sh : List AK := [.one (.l (.sl .own rng))]
noncomputable abbrev F113_a := arC F113_sh
def F113_r (r : L_rng) : A × List (List Leaf) := (.one (.s .own rng r), [])
def F113_T {β : Type} (RET : L_rng → Option β) (k : Nat) (v : L_rng) : Option β := cond (decide (0 ≤ (v.length : Int)) && decide ((v.length : Int) ≤ (v.length : Int))) (cond (decide ((v.length : Int) = (v.length : Int))) (RET ((v.take ((v.length : Int).toNat)).drop 0)) none) none
def F113 := F113_T (β := L_rng) some
theorem F113_ev {β : Type} (k : Nat) (v : L_rng) (K : KT β) : evalF (F113_E k) Tryz.f113 (F113_a v) K = (F113 k v).bind fun r => K (F113_r r) :=
 Eq.trans (b := F113_T (fun r => K (F113_r r)) k v) (by kernel_rfl) (by simp only [F113, F113_T, z1, z2, z3, z4, z5])
noncomputable def F113_p (k : Nat) : List Arg → Option CR := cleC F113_sh (F113 k) F113_r
theorem F113_q (k : Nat) : ∀ xs cr, F113_p k xs = some cr → Contract Tryz.prog 113 xs cr := cleC_ok fun x => con_of (envOk .none _ _ _ _) mixed Tryz.func113 rfl rfl (F113_ev k _ some)
theorem F113_f : FnOk Tryz.prog 113 := .of (by kernel_rfl)
def F91_t (k : Nat) : Tab := entT 113 (F113_p k) <| noTab
abbrev F91_E (k : Nat) : Env := env (F91_t k) noHint .own [] k
abbrev F91_sh : List AK := [.one (.l (.sl .ro rng))]
noncomputable abbrev F91_a := arC F91_sh
def F91_r (r : L_rng) : A × List (List Leaf) := (.one (.s .own rng r), [])
def F91_T {β : Type} (RET : L_rng → Option β) (k : Nat) (v : L_rng) : Option β := cond ((v.length : Int) == 0) (RET []) (cond (decide ((([] : L_rng).length + v.length) * 16 ≤ 140737488355328)) ((F113 k ([] ++ v)).bind fun b1 => RET b1) none)
def F91 := F91_T (β := L_rng) some
theorem F91_ev {β : Type} (k : Nat) (v : L_rng) (K : KT β) : evalF (F91_E k) Tryz.f91 (F91_a v) K = (F91 k v).bind fun r => K (F91_r r) :=
 Eq.trans (b := F91_T (fun r => K (F91_r r)) k v) (by kernel_rfl) (by simp only [F91, F91_T, z1, z2, z3, z4, z5])
theorem F91_tOk (k : Nat) : TabFn Tryz.prog (F91_t k) := .ent (F113_q k) F113_f (.none)
noncomputable def F91_p (k : Nat) : List Arg → Option CR := cleC F91_sh (F91 k) F91_r
theorem F91_q (k : Nat) : ∀ xs cr, F91_p k xs = some cr → Contract Tryz.prog 91 xs cr := cleC_ok fun x => con_of (envOk (F91_tOk k) _ _ _ _) mixed Tryz.func91 rfl rfl (F91_ev k _ some)
theorem F91_f : FnOk Tryz.prog 91 := .of (by kernel_rfl)
def F75_h : Nat → Hint
 | 0 => ⟨pl 2 1 ((7, .own .own rng []) :: (pl 8 1 (pl 12 3 []))), []⟩
 | _ => ⟨[], []⟩
def F75_t (k : Nat) : Tab := entT 91 (F91_p k) <| noTab
abbrev F75_E (k : Nat) : Env := env (F75_t k) F75_h .own [] k
abbrev F75_sh : List AK := [.one (.l (.sl .ro rng)), .one (.l (.int .i64)), .one (.l (.int .i64))]
noncomputable abbrev F75_a := arC F75_sh
def F75_r (r : L_rng) : A × List (List Leaf) := (.one (.s .own rng r), [])
def F75_s0 (v : L_rng) (w p : Int) (x8_0 x14_0 : Int) (m7900_0 : L_rng) : St := ⟨(.one .d) :: (.one .d) :: (.one (vI p)) :: dz 4 ((.one (.a (.cell 7900) 0 0 none)) :: (.one (vI x8_0)) :: dz 3 ((.one (.s .ro rng v)) :: (.one (vI (v.length : Int))) :: (.one (vI x14_0)) :: dz 34 [])), [eM 7900 (.s .own rng m7900_0)]⟩
noncomputable abbrev F75_l0_g {β : Type} (k : Nat) (v : L_rng) (w p : Int) (K : KT β) (n : Nat) (x8_0 x14_0 : Int) (m7900_0 : L_rng) : Option β := loopG (F75_E k) Tryz.f75 [1, 1, 1, 0, 1, 0] 0 (kontAt (F75_E k) [1, 1, 1, 0, 1, 0] (bodyOf Tryz.f75) 0 (endC (F75_E k) Tryz.f75 (F75_a v w p) K)) n (F75_s0 v w p x8_0 x14_0 m7900_0)
def F75_l0_T {β : Type} (NX : Int → Int → L_rng → Option β) (RET : L_rng → Option β) (k : Nat) (v : L_rng) (w p : Int) (x8_0 x14_0 : Int) (m7900_0 : L_rng) : Option β := cond (decide (x14_0 < (v.length : Int))) (cond (decide (0 ≤ x14_0)) (cond (decide (x14_0 < (v.length : Int))) (cond (decide ((atI v x14_0).1 > x8_0)) (cond (decide ((atI v x14_0).2 > (atI v x14_0).1)) (cond (decide ((atI v x14_0).2 ≤ p)) (cond (decide ((m7900_0.length : Int) < 2)) (cond (decide ((m7900_0.length + [(atI v x14_0)].length) * 16 ≤ 140737488355328)) (NX (atI v x14_0).2 (i64.wrap (x14_0 + 1)) (m7900_0 ++ [(atI v x14_0)])) none) (NX x8_0 (i64.wrap (x14_0 + 1)) m7900_0)) (NX x8_0 (i64.wrap (x14_0 + 1)) m7900_0)) (NX x8_0 (i64.wrap (x14_0 + 1)) m7900_0)) (NX x8_0 (i64.wrap (x14_0 + 1)) m7900_0)) none) none) ((F91 k m7900_0).bind fun b1 => RET b1)
def F75_l0 (k : Nat) (v : L_rng) (w p : Int) : Nat → Int → Int → L_rng → Option (L_rng)
 | 0, _, _, _ => none
 | n + 1, x8_0, x14_0, m7900_0 => F75_l0_T (F75_l0 k v w p n) some k v w p x8_0 x14_0 m7900_0
theorem F75_l0_lp {β : Type} (k : Nat) (v : L_rng) (w p : Int) (K : KT β) (n : Nat) : ∀ (x8_0 x14_0 : Int) (m7900_0 : L_rng), F75_l0_g k v w p K n x8_0 x14_0 m7900_0 =
  (F75_l0 k v w p n x8_0 x14_0 m7900_0).bind fun r => K (F75_r r) := by
 induction n with
 | zero => intros; rfl
 | succ n ih =>
  intro x8_0 x14_0 m7900_0
  refine Eq.trans (b := F75_l0_T (F75_l0_g k v w p K n) (fun r => K (F75_r r)) k v w p x8_0 x14_0 m7900_0) (by kernel_rfl) ?_
  rw [F75_l0]
  simp only [F75_l0_T, z1, z2, z3, z4, z5, ih]
def F75_T {β : Type} (LP0 : Int → Int → L_rng → Option β) (k : Nat) (v : L_rng) (w p : Int) : Option β := LP0 w 0 []
def F75 (k : Nat) (v : L_rng) (w p : Int) : Option (L_rng) := F75_T (F75_l0 k v w p k) k v w p
theorem F75_ev {β : Type} (k : Nat) (v : L_rng) (w p : Int) (K : KT β) : evalF (F75_E k) Tryz.f75 (F75_a v w p) K = (F75 k v w p).bind fun r => K (F75_r r) :=
 Eq.trans (b := F75_T (F75_l0_g k v w p K k) k v w p) (by kernel_rfl) (by simp only [F75, F75_T, z1, z2, z3, z4, z5, F75_l0_lp])
theorem F75_tOk (k : Nat) : TabFn Tryz.prog (F75_t k) := .ent (F91_q k) F91_f (.none)
noncomputable def F75_p (k : Nat) : List Arg → Option CR := cleC F75_sh (F75 k) F75_r
theorem F75_q (k : Nat) : ∀ xs cr, F75_p k xs = some cr → Contract Tryz.prog 75 xs cr := cleC_ok fun x => con_of (envOk (F75_tOk k) _ _ _ _) mixed Tryz.func75 rfl rfl (F75_ev k _ _ _ some)
theorem F75_f : FnOk Tryz.prog 75 := .of (by kernel_rfl)
def F74_h : Nat → Hint
 | 0 => ⟨pl 0 2 (pl 12 2 []), []⟩
 | _ => ⟨[], []⟩
abbrev F74_E (k : Nat) : Env := env noTab F74_h .own [] k
abbrev F74_sh : List AK := [.one (.l (.sl .ro rng)), .one (.l (.sl .ro rng))]
noncomputable abbrev F74_a := arC F74_sh
def F74_r (r : Bool) : A × List (List Leaf) := (.one (vB r), [])
def F74_s0 (v w : L_rng) (x13_0 : Int) : St := ⟨(.one (.s .ro rng v)) :: (.one (.s .ro rng w)) :: dz 10 ((.one (vI (v.length : Int))) :: (.one (vI x13_0)) :: dz 12 []), []⟩
noncomputable abbrev F74_l0_g {β : Type} (k : Nat) (v w : L_rng) (K : KT β) (n : Nat) (x13_0 : Int) : Option β := loopG (F74_E k) Tryz.f74 [1, 1, 0, 1, 0] 0 (kontAt (F74_E k) [1, 1, 0, 1, 0] (bodyOf Tryz.f74) 0 (endC (F74_E k) Tryz.f74 (F74_a v w) K)) n (F74_s0 v w x13_0)
def F74_l0_T {β : Type} (NX : Int → Option β) (RET : Bool → Option β) (k : Nat) (v w : L_rng) (x13_0 : Int) : Option β := cond (decide (x13_0 < (v.length : Int))) (cond (decide (0 ≤ x13_0)) (cond (decide (x13_0 < (v.length : Int))) (cond (decide (0 ≤ x13_0)) (cond (decide (x13_0 < (w.length : Int))) (cond (!(eqD rng (atI v x13_0) (atI w x13_0))) (RET false) (NX (i64.wrap (x13_0 + 1)))) none) none) none) none) (RET true)
def F74_l0 (k : Nat) (v w : L_rng) : Nat → Int → Option (Bool)
 | 0, _ => none
 | n + 1, x13_0 => F74_l0_T (F74_l0 k v w n) some k v w x13_0
theorem F74_l0_lp {β : Type} (k : Nat) (v w : L_rng) (K : KT β) (n : Nat) : ∀ (x13_0 : Int), F74_l0_g k v w K n x13_0 =
  (F74_l0 k v w n x13_0).bind fun r => K (F74_r r) := by
 induction n with
 | zero => intros; rfl
 | succ n ih =>
  intro x13_0
  refine Eq.trans (b := F74_l0_T (F74_l0_g k v w K n) (fun r => K (F74_r r)) k v w x13_0) (by kernel_rfl) ?_
  rw [F74_l0]
  simp only [F74_l0_T, z1, z2, z3, z4, z5, ih]
def F74_T {β : Type} (LP0 : Int → Option β) (RET : Bool → Option β) (k : Nat) (v w : L_rng) : Option β := cond ((v.length : Int) != (w.length : Int)) (RET false) (LP0 0)
def F74 (k : Nat) (v w : L_rng) : Option (Bool) := F74_T (F74_l0 k v w k) some k v w
theorem F74_ev {β : Type} (k : Nat) (v w : L_rng) (K : KT β) : evalF (F74_E k) Tryz.f74 (F74_a v w) K = (F74 k v w).bind fun r => K (F74_r r) :=
 Eq.trans (b := F74_T (F74_l0_g k v w K k) (fun r => K (F74_r r)) k v w) (by kernel_rfl) (by simp only [F74, F74_T, z1, z2, z3, z4, z5, F74_l0_lp])
noncomputable def F74_p (k : Nat) : List Arg → Option CR := cleC F74_sh (F74 k) F74_r
theorem F74_q (k : Nat) : ∀ xs cr, F74_p k xs = some cr → Contract Tryz.prog 74 xs cr := cleC_ok fun x => con_of (envOk .none _ _ _ _) mixed Tryz.func74 rfl rfl (F74_ev k _ _ some)
theorem F74_f : FnOk Tryz.prog 74 := .of (by kernel_rfl)
def F43_t (k : Nat) : Tab := entT 42 (F42_p k) <| entT 75 (F75_p k) <| entT 74 (F74_p k) <| noTab
abbrev F43_E (k : Nat) : Env := env (F43_t k) noHint .own [] k
abbrev F43_sh : List AK := [.agg sh1]
noncomputable abbrev F43_a := arC F43_sh
def F43_r (r : Bool) : A × List (List Leaf) := (.one (vB r), [])
def F43_T {β : Type} (RET : Bool → Option β) (k : Nat) (v0 : Int) (v1 : L_u8) (v2 v3 : Int) (v4 : L_rng) : Option β := (F42 k v0 0 1000000).bind fun b1 => cond b1 (cond (decide ((v1.length : Int) ≤ 32)) ((F42 k v2 0 (v1.length : Int)).bind fun b2 => cond b2 ((F42 k v3 0 255).bind fun b3 => cond b3 (cond (decide ((v4.length : Int) ≤ 2)) ((F75 k v4 v0 (i64.wrap (v0 + v2))).bind fun b4 => (F74 k b4 v4).bind fun b5 => RET b5) (RET false)) (RET false)) (RET false)) (RET false)) (RET false)
def F43 := F43_T (β := Bool) some
theorem F43_ev {β : Type} (k : Nat) (v0 : Int) (v1 : L_u8) (v2 v3 : Int) (v4 : L_rng) (K : KT β) : evalF (F43_E k) Tryz.f43 (F43_a v0 v1 v2 v3 v4) K = (F43 k v0 v1 v2 v3 v4).bind fun r => K (F43_r r) :=
 Eq.trans (b := F43_T (fun r => K (F43_r r)) k v0 v1 v2 v3 v4) (by kernel_rfl) (by simp only [F43, F43_T, z1, z2, z3, z4, z5])
theorem F43_tOk (k : Nat) : TabFn Tryz.prog (F43_t k) := .ent (F42_q k) F42_f (.ent (F75_q k) F75_f (.ent (F74_q k) F74_f (.none)))
noncomputable def F43_p (k : Nat) : List Arg → Option CR := cleC F43_sh (F43 k) F43_r
theorem F43_q (k : Nat) : ∀ xs cr, F43_p k xs = some cr → Contract Tryz.prog 43 xs cr := cleC_ok fun x => con_of (envOk (F43_tOk k) _ _ _ _) mixed Tryz.func43 rfl rfl (F43_ev k _ _ _ _ _ some)
theorem F43_f : FnOk Tryz.prog 43 := .of (by kernel_rfl)
abbrev F76_E (k : Nat) : Env := env noTab noHint .own [] k
abbrev F76_sh : List AK := [.agg sh2]
noncomputable abbrev F76_a := arC F76_sh
def F76_r (r : Int) : A × List (List Leaf) := (.one (vI r), [])
def F76 (k : Nat) (v0 v1 : Int) (v2 : L_u8) (v3 : L_erl) : Option (Int) := some (i64.wrap (v1 - (v2.length : Int)))
theorem F76_ev {β : Type} (k : Nat) (v0 v1 : Int) (v2 : L_u8) (v3 : L_erl) (K : KT β) : evalF (F76_E k) Tryz.f76 (F76_a v0 v1 v2 v3) K = (F76 k v0 v1 v2 v3).bind fun r => K (F76_r r) :=
 Eq.trans (b := K (.one (vI (i64.wrap (v1 - (v2.length : Int)))), [])) (by kernel_rfl) (by simp only [F76, F76_r, z1, z2, z3, z4, z5])
noncomputable def F76_p (k : Nat) : List Arg → Option CR := cleC F76_sh (F76 k) F76_r
theorem F76_q (k : Nat) : ∀ xs cr, F76_p k xs = some cr → Contract Tryz.prog 76 xs cr := cleC_ok fun x => con_of (envOk .none _ _ _ _) mixed Tryz.func76 rfl rfl (F76_ev k _ _ _ _ some)
theorem F76_f : FnOk Tryz.prog 76 := .of (by kernel_rfl)
def F44_h : Nat → Hint
 | 0 => ⟨pl 1 1 (pl 21 3 []), pl 1000 4 []⟩
 | _ => ⟨[], []⟩
def F44_t (k : Nat) : Tab := entT 42 (F42_p k) <| entT 76 (F76_p k) <| noTab
abbrev F44_E (k : Nat) : Env := env (F44_t k) F44_h .own [] k
abbrev F44_sh : List AK := [.agg sh2]
noncomputable abbrev F44_a := arC F44_sh
def F44_r (r : Bool) : A × List (List Leaf) := (.one (vB r), [])
def F44_s0 (v0 v1 : Int) (v2 : L_u8) (v3 : L_erl) (x23_0 : Int) : St := ⟨(.one .d) :: (.one (.ptr (.cell 1000) 4 0)) :: dz 19 ((.one (.s .ro erl v3)) :: (.one (vI (v3.length : Int))) :: (.one (vI x23_0)) :: dz 34 []), [iM 1000 v0, iM 1001 v1, eM 1002 (.s .ro (.int .u8) v2), eM 1003 (.s .ro erl v3)]⟩
noncomputable abbrev F44_l0_g {β : Type} (k : Nat) (v0 v1 : Int) (v2 : L_u8) (v3 : L_erl) (K : KT β) (n : Nat) (x23_0 : Int) : Option β := loopG (F44_E k) Tryz.f44 [1, 1, 0, 1, 0] 0 (kontAt (F44_E k) [1, 1, 0, 1, 0] (bodyOf Tryz.f44) 0 (endC (F44_E k) Tryz.f44 (F44_a v0 v1 v2 v3) K)) n (F44_s0 v0 v1 v2 v3 x23_0)
def F44_l0_T {β : Type} (NX : Int → Option β) (RET : Bool → Option β) (k : Nat) (v0 v1 : Int) (v2 : L_u8) (v3 : L_erl) (x23_0 : Int) : Option β := cond (decide (x23_0 < (v3.length : Int))) (cond (decide (0 ≤ x23_0)) (cond (decide (x23_0 < (v3.length : Int))) ((F76 k v0 v1 v2 v3).bind fun b4 => (F42 k (atI v3 x23_0).1 (i64.wrap (v0 + 1)) (i64.wrap ((i64.wrap (v0 + b4)) - 1))).bind fun b5 => cond (!b5) (RET false) (cond (decide (x23_0 > 0)) (cond (decide (0 ≤ (i64.wrap (x23_0 - 1)))) (cond (decide ((i64.wrap (x23_0 - 1)) < (v3.length : Int))) (cond (decide ((atI v3 (i64.wrap (x23_0 - 1))).1 ≥ (atI v3 x23_0).1)) (RET false) (NX (i64.wrap (x23_0 + 1)))) none) none) (NX (i64.wrap (x23_0 + 1))))) none) none) (RET true)
def F44_l0 (k : Nat) (v0 v1 : Int) (v2 : L_u8) (v3 : L_erl) : Nat → Int → Option (Bool)
 | 0, _ => none
 | n + 1, x23_0 => F44_l0_T (F44_l0 k v0 v1 v2 v3 n) some k v0 v1 v2 v3 x23_0
theorem F44_l0_lp {β : Type} (k : Nat) (v0 v1 : Int) (v2 : L_u8) (v3 : L_erl) (K : KT β) (n : Nat) : ∀ (x23_0 : Int), F44_l0_g k v0 v1 v2 v3 K n x23_0 =
  (F44_l0 k v0 v1 v2 v3 n x23_0).bind fun r => K (F44_r r) := by
 induction n with
 | zero => intros; rfl
 | succ n ih =>
  intro x23_0
  refine Eq.trans (b := F44_l0_T (F44_l0_g k v0 v1 v2 v3 K n) (fun r => K (F44_r r)) k v0 v1 v2 v3 x23_0) (by kernel_rfl) ?_
  rw [F44_l0]
  simp only [F44_l0_T, z1, z2, z3, z4, z5, ih]
def F44_T {β : Type} (LP0 : Int → Option β) (RET : Bool → Option β) (k : Nat) (v0 v1 : Int) (v2 : L_u8) (v3 : L_erl) : Option β := (F42 k v0 0 1000000).bind fun b1 => cond (!b1) (RET false) ((F42 k v1 1 32).bind fun b2 => cond (!b2) (RET false) ((F76 k v0 v1 v2 v3).bind fun b3 => cond (decide (b3 < 0)) (RET false) (LP0 0)))
def F44 (k : Nat) (v0 v1 : Int) (v2 : L_u8) (v3 : L_erl) : Option (Bool) := F44_T (F44_l0 k v0 v1 v2 v3 k) some k v0 v1 v2 v3
theorem F44_ev {β : Type} (k : Nat) (v0 v1 : Int) (v2 : L_u8) (v3 : L_erl) (K : KT β) : evalF (F44_E k) Tryz.f44 (F44_a v0 v1 v2 v3) K = (F44 k v0 v1 v2 v3).bind fun r => K (F44_r r) :=
 Eq.trans (b := F44_T (F44_l0_g k v0 v1 v2 v3 K k) (fun r => K (F44_r r)) k v0 v1 v2 v3) (by kernel_rfl) (by simp only [F44, F44_T, z1, z2, z3, z4, z5, F44_l0_lp])
theorem F44_tOk (k : Nat) : TabFn Tryz.prog (F44_t k) := .ent (F42_q k) F42_f (.ent (F76_q k) F76_f (.none))
noncomputable def F44_p (k : Nat) : List Arg → Option CR := cleC F44_sh (F44 k) F44_r
theorem F44_q (k : Nat) : ∀ xs cr, F44_p k xs = some cr → Contract Tryz.prog 44 xs cr := cleC_ok fun x => con_of (envOk (F44_tOk k) _ _ _ _) mixed Tryz.func44 rfl rfl (F44_ev k _ _ _ _ some)
theorem F44_f : FnOk Tryz.prog 44 := .of (by kernel_rfl)
def F45_t (k : Nat) : Tab := entT 42 (F42_p k) <| noTab
abbrev F45_E (k : Nat) : Env := env (F45_t k) noHint .own [] k
abbrev F45_sh : List AK := [.agg [.l (.int .i64), .l (.int .i64), .l (.int .i64)]]
noncomputable abbrev F45_a := arC F45_sh
def F45_r (r : Bool) : A × List (List Leaf) := (.one (vB r), [])
def F45_T {β : Type} (RET : Bool → Option β) (k : Nat) (v0 v1 v2 : Int) : Option β := (F42 k v0 0 80000).bind fun b1 => cond b1 ((F42 k v1 0 80000).bind fun b2 => cond b2 ((F42 k v2 4 200).bind fun b3 => RET b3) (RET false)) (RET false)
def F45 := F45_T (β := Bool) some
theorem F45_ev {β : Type} (k : Nat) (v0 v1 v2 : Int) (K : KT β) : evalF (F45_E k) Tryz.f45 (F45_a v0 v1 v2) K = (F45 k v0 v1 v2).bind fun r => K (F45_r r) :=
 Eq.trans (b := F45_T (fun r => K (F45_r r)) k v0 v1 v2) (by kernel_rfl) (by simp only [F45, F45_T, z1, z2, z3, z4, z5])
theorem F45_tOk (k : Nat) : TabFn Tryz.prog (F45_t k) := .ent (F42_q k) F42_f (.none)
noncomputable def F45_p (k : Nat) : List Arg → Option CR := cleC F45_sh (F45 k) F45_r
theorem F45_q (k : Nat) : ∀ xs cr, F45_p k xs = some cr → Contract Tryz.prog 45 xs cr := cleC_ok fun x => con_of (envOk (F45_tOk k) _ _ _ _) mixed Tryz.func45 rfl rfl (F45_ev k _ _ _ some)
theorem F45_f : FnOk Tryz.prog 45 := .of (by kernel_rfl)
def F46_h : Nat → Hint
 | 0 => ⟨pl 1 1 (pl 41 3 []), pl 1000 24 []⟩
 | _ => ⟨[], []⟩
def F46_t (k : Nat) : Tab := entT 42 (F42_p k) <| noTab
abbrev F46_E (k : Nat) : Env := env (F46_t k) F46_h .own [] k
abbrev F46_sh : List AK := [.agg sh3]
noncomputable abbrev F46_a := arC F46_sh
def F46_r (r : Bool) : A × List (List Leaf) := (.one (vB r), [])
def F46_s0 (v0 v1 v2 v3 v4 v5 v6 : Int) (v7 : L_u8) (v8 v9 : Int) (v10 : L_rng) (v11 v12 : Int) (v13 : L_u8) (v14 : L_erl) (v15 v16 v17 : Bool) (v18 v19 v20 v21 v22 v23 : Int) (x43_0 : Int) : St := ⟨(.one .d) :: (.one (.ptr (.cell 1000) 24 0)) :: dz 39 ((.one (.s .ro erl v14)) :: (.one (vI (v14.length : Int))) :: (.one (vI x43_0)) :: dz 20 []), [iM 1000 v0, iM 1001 v1, iM 1002 v2, iM 1003 v3, iM 1004 v4, iM 1005 v5, iM 1006 v6, eM 1007 (.s .ro (.int .u8) v7), iM 1008 v8, iM 1009 v9, eM 1010 (.s .ro rng v10), iM 1011 v11, iM 1012 v12, eM 1013 (.s .ro (.int .u8) v13), eM 1014 (.s .ro erl v14), eM 1015 (vB v15), eM 1016 (vB v16), eM 1017 (vB v17), iM 1018 v18, iM 1019 v19, iM 1020 v20, iM 1021 v21, iM 1022 v22, iM 1023 v23]⟩
noncomputable abbrev F46_l0_g {β : Type} (k : Nat) (v0 v1 v2 v3 v4 v5 v6 : Int) (v7 : L_u8) (v8 v9 : Int) (v10 : L_rng) (v11 v12 : Int) (v13 : L_u8) (v14 : L_erl) (v15 v16 v17 : Bool) (v18 v19 v20 v21 v22 v23 : Int) (K : KT β) (n : Nat) (x43_0 : Int) : Option β := loopG (F46_E k) Tryz.f46 [1, 1, 1, 0, 1, 0] 0 (kontAt (F46_E k) [1, 1, 1, 0, 1, 0] (bodyOf Tryz.f46) 0 (endC (F46_E k) Tryz.f46 (F46_a v0 v1 v2 v3 v4 v5 v6 v7 v8 v9 v10 v11 v12 v13 v14 v15 v16 v17 v18 v19 v20 v21 v22 v23) K)) n (F46_s0 v0 v1 v2 v3 v4 v5 v6 v7 v8 v9 v10 v11 v12 v13 v14 v15 v16 v17 v18 v19 v20 v21 v22 v23 x43_0)
def F46_l0_T {β : Type} (NX : Int → Option β) (RET : Bool → Option β) (k : Nat) (v0 v1 v2 v3 v4 v5 v6 : Int) (v7 : L_u8) (v8 v9 : Int) (v10 : L_rng) (v11 v12 : Int) (v13 : L_u8) (v14 : L_erl) (v15 v16 v17 : Bool) (v18 v19 v20 v21 v22 v23 : Int) (x43_0 : Int) : Option β := cond (decide (x43_0 < (v14.length : Int))) (cond (decide (0 ≤ x43_0)) (cond (decide (x43_0 < (v14.length : Int))) (cond (decide ((atI v14 x43_0).1 ≥ v18)) (RET false) (NX (i64.wrap (x43_0 + 1)))) none) none) ((F42 k v18 v11 1000000).bind fun b1 => cond b1 (RET (decide (v0 ≥ 4))) (RET false))
def F46_l0 (k : Nat) (v0 v1 v2 v3 v4 v5 v6 : Int) (v7 : L_u8) (v8 v9 : Int) (v10 : L_rng) (v11 v12 : Int) (v13 : L_u8) (v14 : L_erl) (v15 v16 v17 : Bool) (v18 v19 v20 v21 v22 v23 : Int) : Nat → Int → Option (Bool)
 | 0, _ => none
 | n + 1, x43_0 => F46_l0_T (F46_l0 k v0 v1 v2 v3 v4 v5 v6 v7 v8 v9 v10 v11 v12 v13 v14 v15 v16 v17 v18 v19 v20 v21 v22 v23 n) some k v0 v1 v2 v3 v4 v5 v6 v7 v8 v9 v10 v11 v12 v13 v14 v15 v16 v17 v18 v19 v20 v21 v22 v23 x43_0
theorem F46_l0_lp {β : Type} (k : Nat) (v0 v1 v2 v3 v4 v5 v6 : Int) (v7 : L_u8) (v8 v9 : Int) (v10 : L_rng) (v11 v12 : Int) (v13 : L_u8) (v14 : L_erl) (v15 v16 v17 : Bool) (v18 v19 v20 v21 v22 v23 : Int) (K : KT β) (n : Nat) : ∀ (x43_0 : Int), F46_l0_g k v0 v1 v2 v3 v4 v5 v6 v7 v8 v9 v10 v11 v12 v13 v14 v15 v16 v17 v18 v19 v20 v21 v22 v23 K n x43_0 =
  (F46_l0 k v0 v1 v2 v3 v4 v5 v6 v7 v8 v9 v10 v11 v12 v13 v14 v15 v16 v17 v18 v19 v20 v21 v22 v23 n x43_0).bind fun r => K (F46_r r) := by
 induction n with
 | zero => intros; rfl
 | succ n ih =>
  intro x43_0
  refine Eq.trans (b := F46_l0_T (F46_l0_g k v0 v1 v2 v3 v4 v5 v6 v7 v8 v9 v10 v11 v12 v13 v14 v15 v16 v17 v18 v19 v20 v21 v22 v23 K n) (fun r => K (F46_r r)) k v0 v1 v2 v3 v4 v5 v6 v7 v8 v9 v10 v11 v12 v13 v14 v15 v16 v17 v18 v19 v20 v21 v22 v23 x43_0) (by kernel_rfl) ?_
  rw [F46_l0]
  simp only [F46_l0_T, z1, z2, z3, z4, z5, ih]
def F46_j1 {β : Type} (k : Nat) (v0 v1 v2 v3 v4 v5 v6 : Int) (v7 : L_u8) (v8 v9 : Int) (v10 : L_rng) (v11 v12 : Int) (v13 : L_u8) (v14 : L_erl) (v15 v16 v17 : Bool) (v18 v19 v20 v21 v22 v23 : Int) (LP0 : Int → Option β) (RET : Bool → Option β) : Option β := cond v16 (cond (!v15) (RET false) (cond (v8 != (v7.length : Int)) (RET false) (cond (decide (v0 < 4)) (RET false) (cond (v18 == (-1)) (RET true) (LP0 0))))) (cond (v18 == (-1)) (RET true) (LP0 0))
def F46_T {β : Type} (LP0 : Int → Option β) (RET : Bool → Option β) (k : Nat) (v0 v1 v2 v3 v4 v5 v6 : Int) (v7 : L_u8) (v8 v9 : Int) (v10 : L_rng) (v11 v12 : Int) (v13 : L_u8) (v14 : L_erl) (v15 v16 v17 : Bool) (v18 v19 v20 v21 v22 v23 : Int) : Option β := cond v17 (cond (!v16) (RET false) (F46_j1 k v0 v1 v2 v3 v4 v5 v6 v7 v8 v9 v10 v11 v12 v13 v14 v15 v16 v17 v18 v19 v20 v21 v22 v23 LP0 RET)) (F46_j1 k v0 v1 v2 v3 v4 v5 v6 v7 v8 v9 v10 v11 v12 v13 v14 v15 v16 v17 v18 v19 v20 v21 v22 v23 LP0 RET)
def F46 (k : Nat) (v0 v1 v2 v3 v4 v5 v6 : Int) (v7 : L_u8) (v8 v9 : Int) (v10 : L_rng) (v11 v12 : Int) (v13 : L_u8) (v14 : L_erl) (v15 v16 v17 : Bool) (v18 v19 v20 v21 v22 v23 : Int) : Option (Bool) := F46_T (F46_l0 k v0 v1 v2 v3 v4 v5 v6 v7 v8 v9 v10 v11 v12 v13 v14 v15 v16 v17 v18 v19 v20 v21 v22 v23 k) some k v0 v1 v2 v3 v4 v5 v6 v7 v8 v9 v10 v11 v12 v13 v14 v15 v16 v17 v18 v19 v20 v21 v22 v23
theorem F46_ev {β : Type} (k : Nat) (v0 v1 v2 v3 v4 v5 v6 : Int) (v7 : L_u8) (v8 v9 : Int) (v10 : L_rng) (v11 v12 : Int) (v13 : L_u8) (v14 : L_erl) (v15 v16 v17 : Bool) (v18 v19 v20 v21 v22 v23 : Int) (K : KT β) : evalF (F46_E k) Tryz.f46 (F46_a v0 v1 v2 v3 v4 v5 v6 v7 v8 v9 v10 v11 v12 v13 v14 v15 v16 v17 v18 v19 v20 v21 v22 v23) K = (F46 k v0 v1 v2 v3 v4 v5 v6 v7 v8 v9 v10 v11 v12 v13 v14 v15 v16 v17 v18 v19 v20 v21 v22 v23).bind fun r => K (F46_r r) :=
 Eq.trans (b := F46_T (F46_l0_g k v0 v1 v2 v3 v4 v5 v6 v7 v8 v9 v10 v11 v12 v13 v14 v15 v16 v17 v18 v19 v20 v21 v22 v23 K k) (fun r => K (F46_r r)) k v0 v1 v2 v3 v4 v5 v6 v7 v8 v9 v10 v11 v12 v13 v14 v15 v16 v17 v18 v19 v20 v21 v22 v23) (by kernel_rfl) (by simp only [F46, F46_T, F46_j1, z1, z2, z3, z4, z5, F46_l0_lp])
theorem F46_tOk (k : Nat) : TabFn Tryz.prog (F46_t k) := .ent (F42_q k) F42_f (.none)
noncomputable def F46_p (k : Nat) : List Arg → Option CR := cleC F46_sh (F46 k) F46_r
theorem F46_q (k : Nat) : ∀ xs cr, F46_p k xs = some cr → Contract Tryz.prog 46 xs cr := cleC_ok fun x => con_of (envOk (F46_tOk k) _ _ _ _) mixed Tryz.func46 rfl rfl (F46_ev k _ _ _ _ _ _ _ _ _ _ _ _ _ _ _ _ _ _ _ _ _ _ _ _ some)
theorem F46_f : FnOk Tryz.prog 46 := .of (by kernel_rfl)
abbrev F47_E (k : Nat) : Env := env noTab noHint .own [] k
abbrev F47_sh : List AK := [.agg sh3]
noncomputable abbrev F47_a := arC F47_sh
def F47_r (r : Bool) : A × List (List Leaf) := (.one (vB r), [])
def F47_T {β : Type} (RET : Bool → Option β) (k : Nat) (v0 v1 v2 v3 v4 v5 v6 : Int) (v7 : L_u8) (v8 v9 : Int) (v10 : L_rng) (v11 v12 : Int) (v13 : L_u8) (v14 : L_erl) (v15 v16 v17 : Bool) (v18 v19 v20 v21 v22 v23 : Int) : Option β := cond (v0 == 2) (RET true) (cond (v0 == 3) (RET true) (cond (v0 == 4) (cond (decide ((v7.length : Int) > 0)) (RET true) (cond v16 (RET (!v17)) (RET false))) (RET false)))
def F47 := F47_T (β := Bool) some
theorem F47_ev {β : Type} (k : Nat) (v0 v1 v2 v3 v4 v5 v6 : Int) (v7 : L_u8) (v8 v9 : Int) (v10 : L_rng) (v11 v12 : Int) (v13 : L_u8) (v14 : L_erl) (v15 v16 v17 : Bool) (v18 v19 v20 v21 v22 v23 : Int) (K : KT β) : evalF (F47_E k) Tryz.f47 (F47_a v0 v1 v2 v3 v4 v5 v6 v7 v8 v9 v10 v11 v12 v13 v14 v15 v16 v17 v18 v19 v20 v21 v22 v23) K = (F47 k v0 v1 v2 v3 v4 v5 v6 v7 v8 v9 v10 v11 v12 v13 v14 v15 v16 v17 v18 v19 v20 v21 v22 v23).bind fun r => K (F47_r r) :=
 Eq.trans (b := F47_T (fun r => K (F47_r r)) k v0 v1 v2 v3 v4 v5 v6 v7 v8 v9 v10 v11 v12 v13 v14 v15 v16 v17 v18 v19 v20 v21 v22 v23) (by kernel_rfl) (by simp only [F47, F47_T, z1, z2, z3, z4, z5])
noncomputable def F47_p (k : Nat) : List Arg → Option CR := cleC F47_sh (F47 k) F47_r
theorem F47_q (k : Nat) : ∀ xs cr, F47_p k xs = some cr → Contract Tryz.prog 47 xs cr := cleC_ok fun x => con_of (envOk .none _ _ _ _) mixed Tryz.func47 rfl rfl (F47_ev k _ _ _ _ _ _ _ _ _ _ _ _ _ _ _ _ _ _ _ _ _ _ _ _ some)
theorem F47_f : FnOk Tryz.prog 47 := .of (by kernel_rfl)
def F11_t (k : Nat) : Tab := entT 42 (F42_p k) <| entT 29 (F29_p k) <| entT 30 (F30_p k) <| entT 43 (F43_p k) <| entT 44 (F44_p k) <| entT 45 (F45_p k) <| entT 46 (F46_p k) <| entT 47 (F47_p k) <| noTab
abbrev F11_E (k : Nat) : Env := env (F11_t k) noHint .own [] k
abbrev F11_sh : List AK := [.agg sh3]
noncomputable abbrev F11_a := arC F11_sh
def F11_r (r : Bool) : A × List (List Leaf) := (.one (vB r), [])
def F11_j2 {β : Type} (k : Nat) (v0 v1 v2 v3 v4 v5 v6 : Int) (v7 : L_u8) (v8 v9 : Int) (v10 : L_rng) (v11 v12 : Int) (v13 : L_u8) (v14 : L_erl) (v15 v16 v17 : Bool) (v18 v19 v20 v21 v22 v23 : Int) (RET : Bool → Option β) : Option β := (F47 k v0 v1 v2 v3 v4 v5 v6 v7 v8 v9 v10 v11 v12 v13 v14 v15 v16 v17 v18 v19 v20 v21 v22 v23).bind fun b13 => cond b13 (RET true) (cond (v19 == 0) (cond (v20 == 0) (RET true) (RET (v0 == 5))) (RET false))
def F11_j1 {β : Type} (k : Nat) (v0 v1 v2 v3 v4 v5 v6 : Int) (v7 : L_u8) (v8 v9 : Int) (v10 : L_rng) (v11 v12 : Int) (v13 : L_u8) (v14 : L_erl) (v15 v16 v17 : Bool) (v18 v19 v20 v21 v22 v23 : Int) (RET : Bool → Option β) : Option β := cond (v0 == 0) (cond (!((v4 == 0) == true)) (RET false) (F11_j2 k v0 v1 v2 v3 v4 v5 v6 v7 v8 v9 v10 v11 v12 v13 v14 v15 v16 v17 v18 v19 v20 v21 v22 v23 RET)) (cond (!((v4 == 0) == (v0 == 1))) (RET false) (F11_j2 k v0 v1 v2 v3 v4 v5 v6 v7 v8 v9 v10 v11 v12 v13 v14 v15 v16 v17 v18 v19 v20 v21 v22 v23 RET))
def F11_T {β : Type} (RET : Bool → Option β) (k : Nat) (v0 v1 v2 v3 v4 v5 v6 : Int) (v7 : L_u8) (v8 v9 : Int) (v10 : L_rng) (v11 v12 : Int) (v13 : L_u8) (v14 : L_erl) (v15 v16 v17 : Bool) (v18 v19 v20 v21 v22 v23 : Int) : Option β := (F42 k v0 0 5).bind fun b1 => cond (!b1) (RET false) ((F29 k v1).bind fun b2 => cond (!b2) (RET false) ((F30 k v2).bind fun b3 => cond (!b3) (RET false) ((F29 k v3).bind fun b4 => cond (!b4) (RET false) ((F42 k v4 0 255).bind fun b5 => cond (!b5) (RET false) ((F29 k v5).bind fun b6 => cond (!b6) (RET false) ((F43 k v6 v7 v8 v9 v10).bind fun b7 => cond (!b7) (RET false) (cond (decide (v6 < (i64.wrap (v5 + 1)))) (RET false) ((F44 k v11 v12 v13 v14).bind fun b8 => cond (!b8) (RET false) ((F45 k v21 v22 v23).bind fun b9 => cond (!b9) (RET false) ((F42 k v19 0 1000000).bind fun b10 => cond (!b10) (RET false) ((F42 k v20 0 8).bind fun b11 => cond (!b11) (RET false) ((F46 k v0 v1 v2 v3 v4 v5 v6 v7 v8 v9 v10 v11 v12 v13 v14 v15 v16 v17 v18 v19 v20 v21 v22 v23).bind fun b12 => cond (!b12) (RET false) (cond (decide (v0 < 4)) (cond (v8 != 0) (RET false) (cond (v6 != (i64.wrap (v5 + 1))) (RET false) (F11_j1 k v0 v1 v2 v3 v4 v5 v6 v7 v8 v9 v10 v11 v12 v13 v14 v15 v16 v17 v18 v19 v20 v21 v22 v23 RET))) (F11_j1 k v0 v1 v2 v3 v4 v5 v6 v7 v8 v9 v10 v11 v12 v13 v14 v15 v16 v17 v18 v19 v20 v21 v22 v23 RET))))))))))))))
def F11 := F11_T (β := Bool) some
theorem F11_ev {β : Type} (k : Nat) (v0 v1 v2 v3 v4 v5 v6 : Int) (v7 : L_u8) (v8 v9 : Int) (v10 : L_rng) (v11 v12 : Int) (v13 : L_u8) (v14 : L_erl) (v15 v16 v17 : Bool) (v18 v19 v20 v21 v22 v23 : Int) (K : KT β) : evalF (F11_E k) Tryz.f11 (F11_a v0 v1 v2 v3 v4 v5 v6 v7 v8 v9 v10 v11 v12 v13 v14 v15 v16 v17 v18 v19 v20 v21 v22 v23) K = (F11 k v0 v1 v2 v3 v4 v5 v6 v7 v8 v9 v10 v11 v12 v13 v14 v15 v16 v17 v18 v19 v20 v21 v22 v23).bind fun r => K (F11_r r) :=
 Eq.trans (b := F11_T (fun r => K (F11_r r)) k v0 v1 v2 v3 v4 v5 v6 v7 v8 v9 v10 v11 v12 v13 v14 v15 v16 v17 v18 v19 v20 v21 v22 v23) (by kernel_rfl) (by simp only [F11, F11_T, F11_j2, F11_j1, z1, z2, z3, z4, z5])
theorem F11_tOk (k : Nat) : TabFn Tryz.prog (F11_t k) := .ent (F42_q k) F42_f (.ent (F29_q k) F29_f (.ent (F30_q k) F30_f (.ent (F43_q k) F43_f (.ent (F44_q k) F44_f (.ent (F45_q k) F45_f (.ent (F46_q k) F46_f (.ent (F47_q k) F47_f (.none))))))))
noncomputable def F11_p (k : Nat) : List Arg → Option CR := cleC F11_sh (F11 k) F11_r
theorem F11_q (k : Nat) : ∀ xs cr, F11_p k xs = some cr → Contract Tryz.prog 11 xs cr := cleC_ok fun x => con_of (envOk (F11_tOk k) _ _ _ _) mixed Tryz.func11 rfl rfl (F11_ev k _ _ _ _ _ _ _ _ _ _ _ _ _ _ _ _ _ _ _ _ _ _ _ _ some)
theorem F11_f : FnOk Tryz.prog 11 := .of (by kernel_rfl)
def F28_t (k : Nat) : Tab := entT 11 (F11_p k) <| entT 42 (F42_p k) <| noTab
abbrev F28_E (k : Nat) : Env := env (F28_t k) noHint .own [] k
abbrev F28_sh : List AK := [.agg sh3, .one (.l (.int .i64))]
noncomputable abbrev F28_a := arC F28_sh
def F28_r (r : Bool) : A × List (List Leaf) := (.one (vB r), [])
def F28_T {β : Type} (RET : Bool → Option β) (k : Nat) (v0 v1 v2 v3 v4 v5 v6 : Int) (v7 : L_u8) (v8 v9 : Int) (v10 : L_rng) (v11 v12 : Int) (v13 : L_u8) (v14 : L_erl) (v15 v16 v17 : Bool) (v18 v19 v20 v21 v22 v23 w : Int) : Option β := (F11 k v0 v1 v2 v3 v4 v5 v6 v7 v8 v9 v10 v11 v12 v13 v14 v15 v16 v17 v18 v19 v20 v21 v22 v23).bind fun b1 => cond b1 ((F42 k w 0 900000).bind fun b2 => RET b2) (RET false)
def F28 := F28_T (β := Bool) some
theorem F28_ev {β : Type} (k : Nat) (v0 v1 v2 v3 v4 v5 v6 : Int) (v7 : L_u8) (v8 v9 : Int) (v10 : L_rng) (v11 v12 : Int) (v13 : L_u8) (v14 : L_erl) (v15 v16 v17 : Bool) (v18 v19 v20 v21 v22 v23 w : Int) (K : KT β) : evalF (F28_E k) Tryz.f28 (F28_a v0 v1 v2 v3 v4 v5 v6 v7 v8 v9 v10 v11 v12 v13 v14 v15 v16 v17 v18 v19 v20 v21 v22 v23 w) K = (F28 k v0 v1 v2 v3 v4 v5 v6 v7 v8 v9 v10 v11 v12 v13 v14 v15 v16 v17 v18 v19 v20 v21 v22 v23 w).bind fun r => K (F28_r r) :=
 Eq.trans (b := F28_T (fun r => K (F28_r r)) k v0 v1 v2 v3 v4 v5 v6 v7 v8 v9 v10 v11 v12 v13 v14 v15 v16 v17 v18 v19 v20 v21 v22 v23 w) (by kernel_rfl) (by simp only [F28, F28_T, z1, z2, z3, z4, z5])
theorem F28_tOk (k : Nat) : TabFn Tryz.prog (F28_t k) := .ent (F11_q k) F11_f (.ent (F42_q k) F42_f (.none))
noncomputable def F28_p (k : Nat) : List Arg → Option CR := cleC F28_sh (F28 k) F28_r
theorem F28_q (k : Nat) : ∀ xs cr, F28_p k xs = some cr → Contract Tryz.prog 28 xs cr := cleC_ok fun x => con_of (envOk (F28_tOk k) _ _ _ _) mixed Tryz.func28 rfl rfl (F28_ev k _ _ _ _ _ _ _ _ _ _ _ _ _ _ _ _ _ _ _ _ _ _ _ _ _ some)
theorem F28_f : FnOk Tryz.prog 28 := .of (by kernel_rfl)
abbrev F112_E (k : Nat) : Env := env noTab noHint .own [] k
abbrev F112_sh : List AK := [.one (.l (.sl .own (.int .u8)))]
noncomputable abbrev F112_a := arC F112_sh
def F112_r (r : L_u8) : A × List (List Leaf) := (.one (.s .own (.int .u8) r), [])
def F112_T {β : Type} (RET : L_u8 → Option β) (k : Nat) (v : L_u8) : Option β := cond (decide (0 ≤ (v.length : Int)) && decide ((v.length : Int) ≤ (v.length : Int))) (cond (decide ((v.length : Int) = (v.length : Int))) (RET ((v.take ((v.length : Int).toNat)).drop 0)) none) none
def F112 := F112_T (β := L_u8) some
theorem F112_ev {β : Type} (k : Nat) (v : L_u8) (K : KT β) : evalF (F112_E k) Tryz.f112 (F112_a v) K = (F112 k v).bind fun r => K (F112_r r) :=
 Eq.trans (b := F112_T (fun r => K (F112_r r)) k v) (by kernel_rfl) (by simp only [F112, F112_T, z1, z2, z3, z4, z5])
noncomputable def F112_p (k : Nat) : List Arg → Option CR := cleC F112_sh (F112 k) F112_r
theorem F112_q (k : Nat) : ∀ xs cr, F112_p k xs = some cr → Contract Tryz.prog 112 xs cr := cleC_ok fun x => con_of (envOk .none _ _ _ _) mixed Tryz.func112 rfl rfl (F112_ev k _ some)
theorem F112_f : FnOk Tryz.prog 112 := .of (by kernel_rfl)
def F90_t (k : Nat) : Tab := entT 112 (F112_p k) <| noTab
abbrev F90_E (k : Nat) : Env := env (F90_t k) noHint .own [] k
abbrev F90_sh : List AK := [.one (.l (.sl .ro (.int .u8)))]
noncomputable abbrev F90_a := arC F90_sh
def F90_r (r : L_u8) : A × List (List Leaf) := (.one (.s .own (.int .u8) r), [])
def F90_T {β : Type} (RET : L_u8 → Option β) (k : Nat) (v : L_u8) : Option β := cond ((v.length : Int) == 0) (RET []) (cond (decide ((([] : L_u8).length + v.length) * 1 ≤ 140737488355328)) ((F112 k ([] ++ v)).bind fun b1 => RET b1) none)
def F90 := F90_T (β := L_u8) some
theorem F90_ev {β : Type} (k : Nat) (v : L_u8) (K : KT β) : evalF (F90_E k) Tryz.f90 (F90_a v) K = (F90 k v).bind fun r => K (F90_r r) :=
 Eq.trans (b := F90_T (fun r => K (F90_r r)) k v) (by kernel_rfl) (by simp only [F90, F90_T, z1, z2, z3, z4, z5])
theorem F90_tOk (k : Nat) : TabFn Tryz.prog (F90_t k) := .ent (F112_q k) F112_f (.none)
noncomputable def F90_p (k : Nat) : List Arg → Option CR := cleC F90_sh (F90 k) F90_r
theorem F90_q (k : Nat) : ∀ xs cr, F90_p k xs = some cr → Contract Tryz.prog 90 xs cr := cleC_ok fun x => con_of (envOk (F90_tOk k) _ _ _ _) mixed Tryz.func90 rfl rfl (F90_ev k _ some)
theorem F90_f : FnOk Tryz.prog 90 := .of (by kernel_rfl)
def F64_t (k : Nat) : Tab := entT 90 (F90_p k) <| entT 91 (F91_p k) <| noTab
abbrev F64_E (k : Nat) : Env := env (F64_t k) noHint .own [] k
abbrev F64_R : Type := Int × L_u8 × Int × Int × L_rng
abbrev F64_sh : List AK := [.agg sh1]
noncomputable abbrev F64_a := arC F64_sh
def F64_r (r : F64_R) : A × List (List Leaf) := (.agg [vI r.1, .s .own (.int .u8) r.2.1, vI (Q2 r), vI (Q3 r), .s .own rng (R4 r)], [])
def F64 (k : Nat) (v0 : Int) (v1 : L_u8) (v2 v3 : Int) (v4 : L_rng) : Option (F64_R) := (F90 k v1).bind fun b1 => (F91 k v4).bind fun b2 => some (v0, b1, v2, v3, b2)
theorem F64_ev {β : Type} (k : Nat) (v0 : Int) (v1 : L_u8) (v2 v3 : Int) (v4 : L_rng) (K : KT β) : evalF (F64_E k) Tryz.f64 (F64_a v0 v1 v2 v3 v4) K = (F64 k v0 v1 v2 v3 v4).bind fun r => K (F64_r r) :=
 Eq.trans (b := (F90 k v1).bind fun b1 => (F91 k v4).bind fun b2 => K (.agg [vI v0, .s .own (.int .u8) b1, vI v2, vI v3, .s .own rng b2], [])) (by kernel_rfl) (by simp only [F64, F64_r, z1, z2, z3, z4, z5])
theorem F64_tOk (k : Nat) : TabFn Tryz.prog (F64_t k) := .ent (F90_q k) F90_f (.ent (F91_q k) F91_f (.none))
noncomputable def F64_p (k : Nat) : List Arg → Option CR := cleC F64_sh (F64 k) F64_r
theorem F64_q (k : Nat) : ∀ xs cr, F64_p k xs = some cr → Contract Tryz.prog 64 xs cr := cleC_ok fun x => con_of (envOk (F64_tOk k) _ _ _ _) mixed Tryz.func64 rfl rfl (F64_ev k _ _ _ _ _ some)
theorem F64_f : FnOk Tryz.prog 64 := .of (by kernel_rfl)
abbrev F114_E (k : Nat) : Env := env noTab noHint .own [] k
abbrev F114_sh : List AK := [.one (.l (.sl .own erl))]
noncomputable abbrev F114_a := arC F114_sh
def F114_r (r : L_erl) : A × List (List Leaf) := (.one (.s .own erl r), [])
def F114_T {β : Type} (RET : L_erl → Option β) (k : Nat) (v : L_erl) : Option β := cond (decide (0 ≤ (v.length : Int)) && decide ((v.length : Int) ≤ (v.length : Int))) (cond (decide ((v.length : Int) = (v.length : Int))) (RET ((v.take ((v.length : Int).toNat)).drop 0)) none) none
def F114 := F114_T (β := L_erl) some
theorem F114_ev {β : Type} (k : Nat) (v : L_erl) (K : KT β) : evalF (F114_E k) Tryz.f114 (F114_a v) K = (F114 k v).bind fun r => K (F114_r r) :=
 Eq.trans (b := F114_T (fun r => K (F114_r r)) k v) (by kernel_rfl) (by simp only [F114, F114_T, z1, z2, z3, z4, z5])
noncomputable def F114_p (k : Nat) : List Arg → Option CR := cleC F114_sh (F114 k) F114_r
theorem F114_q (k : Nat) : ∀ xs cr, F114_p k xs = some cr → Contract Tryz.prog 114 xs cr := cleC_ok fun x => con_of (envOk .none _ _ _ _) mixed Tryz.func114 rfl rfl (F114_ev k _ some)
theorem F114_f : FnOk Tryz.prog 114 := .of (by kernel_rfl)
def F92_t (k : Nat) : Tab := entT 114 (F114_p k) <| noTab
abbrev F92_E (k : Nat) : Env := env (F92_t k) noHint .own [] k
abbrev F92_sh : List AK := [.one (.l (.sl .ro erl))]
noncomputable abbrev F92_a := arC F92_sh
def F92_r (r : L_erl) : A × List (List Leaf) := (.one (.s .own erl r), [])
def F92_T {β : Type} (RET : L_erl → Option β) (k : Nat) (v : L_erl) : Option β := cond ((v.length : Int) == 0) (RET []) (cond (decide ((([] : L_erl).length + v.length) * 16 ≤ 140737488355328)) ((F114 k ([] ++ v)).bind fun b1 => RET b1) none)
def F92 := F92_T (β := L_erl) some
theorem F92_ev {β : Type} (k : Nat) (v : L_erl) (K : KT β) : evalF (F92_E k) Tryz.f92 (F92_a v) K = (F92 k v).bind fun r => K (F92_r r) :=
 Eq.trans (b := F92_T (fun r => K (F92_r r)) k v) (by kernel_rfl) (by simp only [F92, F92_T, z1, z2, z3, z4, z5])
theorem F92_tOk (k : Nat) : TabFn Tryz.prog (F92_t k) := .ent (F114_q k) F114_f (.none)
noncomputable def F92_p (k : Nat) : List Arg → Option CR := cleC F92_sh (F92 k) F92_r
theorem F92_q (k : Nat) : ∀ xs cr, F92_p k xs = some cr → Contract Tryz.prog 92 xs cr := cleC_ok fun x => con_of (envOk (F92_tOk k) _ _ _ _) mixed Tryz.func92 rfl rfl (F92_ev k _ some)
theorem F92_f : FnOk Tryz.prog 92 := .of (by kernel_rfl)
def F65_t (k : Nat) : Tab := entT 90 (F90_p k) <| entT 92 (F92_p k) <| noTab
abbrev F65_E (k : Nat) : Env := env (F65_t k) noHint .own [] k
abbrev F65_sh : List AK := [.agg sh2]
noncomputable abbrev F65_a := arC F65_sh
def F65_r (r : Int × Int × L_u8 × L_erl) : A × List (List Leaf) := (.agg [vI r.1, vI r.2.1, .s .own (.int .u8) (Q2 r), .s .own erl (R3 r)], [])
def F65 (k : Nat) (v0 v1 : Int) (v2 : L_u8) (v3 : L_erl) : Option (Int × Int × L_u8 × L_erl) := (F90 k v2).bind fun b1 => (F92 k v3).bind fun b2 => some (v0, v1, b1, b2)
theorem F65_ev {β : Type} (k : Nat) (v0 v1 : Int) (v2 : L_u8) (v3 : L_erl) (K : KT β) : evalF (F65_E k) Tryz.f65 (F65_a v0 v1 v2 v3) K = (F65 k v0 v1 v2 v3).bind fun r => K (F65_r r) :=
 Eq.trans (b := (F90 k v2).bind fun b1 => (F92 k v3).bind fun b2 => K (.agg [vI v0, vI v1, .s .own (.int .u8) b1, .s .own erl b2], [])) (by kernel_rfl) (by simp only [F65, F65_r, z1, z2, z3, z4, z5])
theorem F65_tOk (k : Nat) : TabFn Tryz.prog (F65_t k) := .ent (F90_q k) F90_f (.ent (F92_q k) F92_f (.none))
noncomputable def F65_p (k : Nat) : List Arg → Option CR := cleC F65_sh (F65 k) F65_r
theorem F65_q (k : Nat) : ∀ xs cr, F65_p k xs = some cr → Contract Tryz.prog 65 xs cr := cleC_ok fun x => con_of (envOk (F65_tOk k) _ _ _ _) mixed Tryz.func65 rfl rfl (F65_ev k _ _ _ _ some)
theorem F65_f : FnOk Tryz.prog 65 := .of (by kernel_rfl)
def F31_t (k : Nat) : Tab := entT 64 (F64_p k) <| entT 65 (F65_p k) <| noTab
abbrev F31_E (k : Nat) : Env := env (F31_t k) noHint .own [] k
abbrev F31_R : Type := Int × Int × Int × Int × Int × Int × Int × L_u8 × Int × Int × L_rng × Int × Int × L_u8 × L_erl × Bool × Bool × Bool × Int × Int × Int × Int × Int × Int
abbrev F31_sh : List AK := [.agg sh3]
noncomputable abbrev F31_a := arC F31_sh
def F31_r (r : F31_R) : A × List (List Leaf) := (.agg [vI r.1, vI r.2.1, vI (Q2 r), vI (Q3 r), vI (Q4 r), vI (Q5 r), vI (Q6 r), .s .own (.int .u8) (Q7 r), vI (Q8 r), vI (Q9 r), .s .own rng (Q10 r), vI (Q11 r), vI (Q12 r), .s .own (.int .u8) (Q13 r), .s .own erl (Q14 r), vB (Q15 r), vB (Q16 r), vB (Q17 r), vI (Q18 r), vI (Q19 r), vI (Q20 r), vI (Q21 r), vI (Q22 r), vI (R23 r)], [])
def F31_T {β : Type} (RET : F31_R → Option β) (k : Nat) (v0 v1 v2 v3 v4 v5 v6 : Int) (v7 : L_u8) (v8 v9 : Int) (v10 : L_rng) (v11 v12 : Int) (v13 : L_u8) (v14 : L_erl) (v15 v16 v17 : Bool) (v18 v19 v20 v21 v22 v23 : Int) : Option β := (F64 k v6 v7 v8 v9 v10).bind fun b1 => (F65 k v11 v12 v13 v14).bind fun b2 => RET (v0, v1, v2, v3, v4, v5, b1.1, b1.2.1, (Q2 b1), (Q3 b1), (R4 b1), b2.1, b2.2.1, (Q2 b2), (R3 b2), v15, v16, v17, v18, v19, v20, v21, v22, v23)
def F31 := F31_T (β := F31_R) some
theorem F31_ev {β : Type} (k : Nat) (v0 v1 v2 v3 v4 v5 v6 : Int) (v7 : L_u8) (v8 v9 : Int) (v10 : L_rng) (v11 v12 : Int) (v13 : L_u8) (v14 : L_erl) (v15 v16 v17 : Bool) (v18 v19 v20 v21 v22 v23 : Int) (K : KT β) : evalF (F31_E k) Tryz.f31 (F31_a v0 v1 v2 v3 v4 v5 v6 v7 v8 v9 v10 v11 v12 v13 v14 v15 v16 v17 v18 v19 v20 v21 v22 v23) K = (F31 k v0 v1 v2 v3 v4 v5 v6 v7 v8 v9 v10 v11 v12 v13 v14 v15 v16 v17 v18 v19 v20 v21 v22 v23).bind fun r => K (F31_r r) :=
 Eq.trans (b := F31_T (fun r => K (F31_r r)) k v0 v1 v2 v3 v4 v5 v6 v7 v8 v9 v10 v11 v12 v13 v14 v15 v16 v17 v18 v19 v20 v21 v22 v23) (by kernel_rfl) (by simp only [F31, F31_T, z1, z2, z3, z4, z5])
theorem F31_tOk (k : Nat) : TabFn Tryz.prog (F31_t k) := .ent (F64_q k) F64_f (.ent (F65_q k) F65_f (.none))
noncomputable def F31_p (k : Nat) : List Arg → Option CR := cleC F31_sh (F31 k) F31_r
theorem F31_q (k : Nat) : ∀ xs cr, F31_p k xs = some cr → Contract Tryz.prog 31 xs cr := cleC_ok fun x => con_of (envOk (F31_tOk k) _ _ _ _) mixed Tryz.func31 rfl rfl (F31_ev k _ _ _ _ _ _ _ _ _ _ _ _ _ _ _ _ _ _ _ _ _ _ _ _ some)
theorem F31_f : FnOk Tryz.prog 31 := .of (by kernel_rfl)
def F32_t (k : Nat) : Tab := entT 47 (F47_p k) <| noTab
abbrev F32_E (k : Nat) : Env := env (F32_t k) noHint .own [(false, 0), (false, 1), (false, 2), (false, 3), (false, 4), (false, 5), (false, 6), (false, 7), (false, 8), (false, 9), (false, 10), (false, 11), (false, 12), (false, 13), (false, 14), (false, 15), (false, 16), (false, 17), (false, 18), (false, 19), (false, 20), (false, 21), (false, 22), (false, 23)] k
abbrev F32_R : Type := Int × Int × Int × Int × Int × Int × Int × L_u8 × Int × Int × L_rng × Int × Int × L_u8 × L_erl × Bool × Bool × Bool × Int × Int × Int × Int × Int × Int
abbrev F32_sh : List AK := [.p sh5, .one (.l (.int .i64))]
noncomputable abbrev F32_a := arC F32_sh
def F32_r (r : F32_R) : A × List (List Leaf) := (.one (.v undef), [[vI r.1, vI r.2.1, vI (Q2 r), vI (Q3 r), vI (Q4 r), vI (Q5 r), vI (Q6 r), .s .own (.int .u8) (Q7 r), vI (Q8 r), vI (Q9 r), .s .own rng (Q10 r), vI (Q11 r), vI (Q12 r), .s .own (.int .u8) (Q13 r), .s .own erl (Q14 r), vB (Q15 r), vB (Q16 r), vB (Q17 r), vI (Q18 r), vI (Q19 r), vI (Q20 r), vI (Q21 r), vI (Q22 r), vI (R23 r)]])
def F32_T {β : Type} (RET : F32_R → Option β) (k : Nat) (v0 v1 v2 v3 v4 v5 v6 : Int) (v7 : L_u8) (v8 v9 : Int) (v10 : L_rng) (v11 v12 : Int) (v13 : L_u8) (v14 : L_erl) (v15 v16 v17 : Bool) (v18 v19 v20 v21 v22 v23 w : Int) : Option β := cond (v19 == 0) ((F47 k v0 v1 v2 v3 v4 v5 v6 v7 v8 v9 v10 v11 v12 v13 v14 v15 v16 v17 v18 v19 v20 v21 v22 v23).bind fun b1 => cond b1 (RET (v0, v1, v2, v3, v4, v5, v6, v7, v8, v9, v10, v11, v12, v13, v14, v15, v16, v17, v18, i64.wrap (w + v23), v20, v21, v22, v23)) (RET (v0, v1, v2, v3, v4, v5, v6, v7, v8, v9, v10, v11, v12, v13, v14, v15, v16, v17, v18, v19, v20, v21, v22, v23))) (RET (v0, v1, v2, v3, v4, v5, v6, v7, v8, v9, v10, v11, v12, v13, v14, v15, v16, v17, v18, v19, v20, v21, v22, v23))
def F32 := F32_T (β := F32_R) some
theorem F32_ev {β : Type} (k : Nat) (v0 v1 v2 v3 v4 v5 v6 : Int) (v7 : L_u8) (v8 v9 : Int) (v10 : L_rng) (v11 v12 : Int) (v13 : L_u8) (v14 : L_erl) (v15 v16 v17 : Bool) (v18 v19 v20 v21 v22 v23 w : Int) (K : KT β) : evalF (F32_E k) Tryz.f32 (F32_a v0 v1 v2 v3 v4 v5 v6 v7 v8 v9 v10 v11 v12 v13 v14 v15 v16 v17 v18 v19 v20 v21 v22 v23 w) K = (F32 k v0 v1 v2 v3 v4 v5 v6 v7 v8 v9 v10 v11 v12 v13 v14 v15 v16 v17 v18 v19 v20 v21 v22 v23 w).bind fun r => K (F32_r r) :=
 Eq.trans (b := F32_T (fun r => K (F32_r r)) k v0 v1 v2 v3 v4 v5 v6 v7 v8 v9 v10 v11 v12 v13 v14 v15 v16 v17 v18 v19 v20 v21 v22 v23 w) (by kernel_rfl) (by simp only [F32, F32_T, z1, z2, z3, z4, z5])
theorem F32_tOk (k : Nat) : TabFn Tryz.prog (F32_t k) := .ent (F47_q k) F47_f (.none)
noncomputable def F32_p (k : Nat) : List Arg → Option CR := cleC F32_sh (F32 k) F32_r
theorem F32_q (k : Nat) : ∀ xs cr, F32_p k xs = some cr → Contract Tryz.prog 32 xs cr := cleC_ok fun x => con_of (envOk (F32_tOk k) _ _ _ _) mixed Tryz.func32 rfl rfl (F32_ev k _ _ _ _ _ _ _ _ _ _ _ _ _ _ _ _ _ _ _ _ _ _ _ _ _ some)
theorem F32_f : FnOk Tryz.prog 32 := .of (by kernel_rfl)
abbrev F85_E (k : Nat) : Env := env noTab noHint .own [] k
abbrev F85_sh : List AK := [.one (.l (.int .i64))]
noncomputable abbrev F85_a := arC F85_sh
def F85_r (r : Int) : A × List (List Leaf) := (.one (vI r), [])
def F85 (k : Nat) (v : Int) : Option (Int) := some ((i64.wrap ((v.tmod 65536) + 65536)).tmod 65536)
theorem F85_ev {β : Type} (k : Nat) (v : Int) (K : KT β) : evalF (F85_E k) Tryz.f85 (F85_a v) K = (F85 k v).bind fun r => K (F85_r r) :=
 Eq.trans (b := K (.one (vI ((i64.wrap ((v.tmod 65536) + 65536)).tmod 65536)), [])) (by kernel_rfl) (by simp only [F85, F85_r, z1, z2, z3, z4, z5])
noncomputable def F85_p (k : Nat) : List Arg → Option CR := cleC F85_sh (F85 k) F85_r
theorem F85_q (k : Nat) : ∀ xs cr, F85_p k xs = some cr → Contract Tryz.prog 85 xs cr := cleC_ok fun x => con_of (envOk .none _ _ _ _) mixed Tryz.func85 rfl rfl (F85_ev k _ some)
theorem F85_f : FnOk Tryz.prog 85 := .of (by kernel_rfl)
abbrev F93_E (k : Nat) : Env := env noTab noHint .own [] k
abbrev F93_sh : List AK := [.agg sh3]
noncomputable abbrev F93_a := arC F93_sh
def F93_r (r : Int) : A × List (List Leaf) := (.one (vI r), [])
def F93 (k : Nat) (v0 v1 v2 v3 v4 v5 v6 : Int) (v7 : L_u8) (v8 v9 : Int) (v10 : L_rng) (v11 v12 : Int) (v13 : L_u8) (v14 : L_erl) (v15 v16 v17 : Bool) (v18 v19 v20 v21 v22 v23 : Int) : Option (Int) := cond (v18 == v11) (some (i64.wrap (v11 + 1))) (some v11)
theorem F93_ev {β : Type} (k : Nat) (v0 v1 v2 v3 v4 v5 v6 : Int) (v7 : L_u8) (v8 v9 : Int) (v10 : L_rng) (v11 v12 : Int) (v13 : L_u8) (v14 : L_erl) (v15 v16 v17 : Bool) (v18 v19 v20 v21 v22 v23 : Int) (K : KT β) : evalF (F93_E k) Tryz.f93 (F93_a v0 v1 v2 v3 v4 v5 v6 v7 v8 v9 v10 v11 v12 v13 v14 v15 v16 v17 v18 v19 v20 v21 v22 v23) K = (F93 k v0 v1 v2 v3 v4 v5 v6 v7 v8 v9 v10 v11 v12 v13 v14 v15 v16 v17 v18 v19 v20 v21 v22 v23).bind fun r => K (F93_r r) :=
 Eq.trans (b := cond (v18 == v11) (K (.one (vI (i64.wrap (v11 + 1))), [])) (K (.one (vI v11), []))) (by kernel_rfl) (by simp only [F93, F93_r, z1, z2, z3, z4, z5])
noncomputable def F93_p (k : Nat) : List Arg → Option CR := cleC F93_sh (F93 k) F93_r
theorem F93_q (k : Nat) : ∀ xs cr, F93_p k xs = some cr → Contract Tryz.prog 93 xs cr := cleC_ok fun x => con_of (envOk .none _ _ _ _) mixed Tryz.func93 rfl rfl (F93_ev k _ _ _ _ _ _ _ _ _ _ _ _ _ _ _ _ _ _ _ _ _ _ _ _ some)
theorem F93_f : FnOk Tryz.prog 93 := .of (by kernel_rfl)
def F94_h : Nat → Hint
 | 0 => ⟨(3, .own .own rng []) :: (pl 8 3 []), []⟩
 | _ => ⟨[], []⟩
def F94_t (k : Nat) : Tab := entT 91 (F91_p k) <| noTab
abbrev F94_E (k : Nat) : Env := env (F94_t k) F94_h .own [] k
abbrev F94_sh : List AK := [.agg sh2]
noncomputable abbrev F94_a := arC F94_sh
def F94_r (r : L_rng) : A × List (List Leaf) := (.one (.s .own rng r), [])
def F94_s0 (v0 v1 : Int) (v2 : L_u8) (v3 : L_erl) (x10_0 : Int) (m3900_0 : L_rng) : St := ⟨dz 3 ((.one (.a (.cell 3900) 0 0 none)) :: dz 4 ((.one (.s .ro erl v3)) :: (.one (vI (v3.length : Int))) :: (.one (vI x10_0)) :: dz 43 [])), [eM 3900 (.s .own rng m3900_0)]⟩
noncomputable abbrev F94_l0_g {β : Type} (k : Nat) (v0 v1 : Int) (v2 : L_u8) (v3 : L_erl) (K : KT β) (n : Nat) (x10_0 : Int) (m3900_0 : L_rng) : Option β := loopG (F94_E k) Tryz.f94 [1, 1, 0, 1, 0] 0 (kontAt (F94_E k) [1, 1, 0, 1, 0] (bodyOf Tryz.f94) 0 (endC (F94_E k) Tryz.f94 (F94_a v0 v1 v2 v3) K)) n (F94_s0 v0 v1 v2 v3 x10_0 m3900_0)
def F94_l0_j1 {β : Type} (k : Nat) (v0 v1 : Int) (v2 : L_u8) (v3 : L_erl) (NX : Int → L_rng → Option β) (RET : L_rng → Option β) (m3900_0 : L_rng) (x10_0 : Int) : Option β := cond (decide ((m3900_0.length + [((atI v3 x10_0).1, i64.wrap ((atI v3 x10_0).1 + 1))].length) * 16 ≤ 140737488355328)) (NX (i64.wrap (x10_0 + 1)) (m3900_0 ++ [((atI v3 x10_0).1, i64.wrap ((atI v3 x10_0).1 + 1))])) none
def F94_l0_T {β : Type} (NX : Int → L_rng → Option β) (RET : L_rng → Option β) (k : Nat) (v0 v1 : Int) (v2 : L_u8) (v3 : L_erl) (x10_0 : Int) (m3900_0 : L_rng) : Option β := cond (decide (x10_0 < (v3.length : Int))) (cond (decide (0 ≤ x10_0)) (cond (decide (x10_0 < (v3.length : Int))) (cond (decide ((m3900_0.length : Int) > 0)) (cond (decide (0 ≤ (i64.wrap ((m3900_0.length : Int) - 1)))) (cond (decide ((i64.wrap ((m3900_0.length : Int) - 1)) < (m3900_0.length : Int))) (cond ((atI m3900_0 (i64.wrap ((m3900_0.length : Int) - 1))).2 == (atI v3 x10_0).1) (cond (decide (0 ≤ (i64.wrap ((m3900_0.length : Int) - 1)))) (cond (decide ((i64.wrap ((m3900_0.length : Int) - 1)) < (m3900_0.length : Int))) (cond (decide (0 ≤ (i64.wrap ((m3900_0.length : Int) - 1)))) (cond (decide ((i64.wrap ((m3900_0.length : Int) - 1)) < (m3900_0.length : Int))) (NX (i64.wrap (x10_0 + 1)) (m3900_0.set ((i64.wrap ((m3900_0.length : Int) - 1)).toNat) ((atI m3900_0 (i64.wrap ((m3900_0.length : Int) - 1))).1, i64.wrap ((atI m3900_0 (i64.wrap ((m3900_0.length : Int) - 1))).2 + 1)))) none) none) none) none) (F94_l0_j1 k v0 v1 v2 v3 NX RET m3900_0 x10_0)) none) none) (F94_l0_j1 k v0 v1 v2 v3 NX RET m3900_0 x10_0)) none) none) (cond (decide (0 ≤ (if 2 < (m3900_0.length : Int) then 2 else (m3900_0.length : Int))) && decide ((if 2 < (m3900_0.length : Int) then 2 else (m3900_0.length : Int)) ≤ (m3900_0.length : Int))) ((F91 k ((m3900_0.take ((if 2 < (m3900_0.length : Int) then 2 else (m3900_0.length : Int)).toNat)).drop 0)).bind fun b1 => RET b1) none)
def F94_l0 (k : Nat) (v0 v1 : Int) (v2 : L_u8) (v3 : L_erl) : Nat → Int → L_rng → Option (L_rng)
 | 0, _, _ => none
 | n + 1, x10_0, m3900_0 => F94_l0_T (F94_l0 k v0 v1 v2 v3 n) some k v0 v1 v2 v3 x10_0 m3900_0
theorem F94_l0_lp {β : Type} (k : Nat) (v0 v1 : Int) (v2 : L_u8) (v3 : L_erl) (K : KT β) (n : Nat) : ∀ (x10_0 : Int) (m3900_0 : L_rng), F94_l0_g k v0 v1 v2 v3 K n x10_0 m3900_0 =
  (F94_l0 k v0 v1 v2 v3 n x10_0 m3900_0).bind fun r => K (F94_r r) := by
 induction n with
 | zero => intros; rfl
 | succ n ih =>
  intro x10_0 m3900_0
  refine Eq.trans (b := F94_l0_T (F94_l0_g k v0 v1 v2 v3 K n) (fun r => K (F94_r r)) k v0 v1 v2 v3 x10_0 m3900_0) (by kernel_rfl) ?_
  rw [F94_l0]
  simp only [F94_l0_T, F94_l0_j1, z1, z2, z3, z4, z5, ih]
def F94_T {β : Type} (LP0 : Int → L_rng → Option β) (k : Nat) (v0 v1 : Int) (v2 : L_u8) (v3 : L_erl) : Option β := LP0 0 []
def F94 (k : Nat) (v0 v1 : Int) (v2 : L_u8) (v3 : L_erl) : Option (L_rng) := F94_T (F94_l0 k v0 v1 v2 v3 k) k v0 v1 v2 v3
theorem F94_ev {β : Type} (k : Nat) (v0 v1 : Int) (v2 : L_u8) (v3 : L_erl) (K : KT β) : evalF (F94_E k) Tryz.f94 (F94_a v0 v1 v2 v3) K = (F94 k v0 v1 v2 v3).bind fun r => K (F94_r r) :=
 Eq.trans (b := F94_T (F94_l0_g k v0 v1 v2 v3 K k) k v0 v1 v2 v3) (by kernel_rfl) (by simp only [F94, F94_T, z1, z2, z3, z4, z5, F94_l0_lp])
theorem F94_tOk (k : Nat) : TabFn Tryz.prog (F94_t k) := .ent (F91_q k) F91_f (.none)
noncomputable def F94_p (k : Nat) : List Arg → Option CR := cleC F94_sh (F94 k) F94_r
theorem F94_q (k : Nat) : ∀ xs cr, F94_p k xs = some cr → Contract Tryz.prog 94 xs cr := cleC_ok fun x => con_of (envOk (F94_tOk k) _ _ _ _) mixed Tryz.func94 rfl rfl (F94_ev k _ _ _ _ some)
theorem F94_f : FnOk Tryz.prog 94 := .of (by kernel_rfl)
abbrev F90_2_E (k : Nat) : Env := env noTab noHint .own [] k
abbrev F90_2_sh : List AK := [.one (.l (.nil))]
noncomputable abbrev F90_2_a := arC F90_2_sh
def F90_2_r (r : L_u8) : A × List (List Leaf) := (.one (.s .own (.int .u8) r), [])
def F90_2 (k : Nat) : Option (L_u8) := some []
theorem F90_2_ev {β : Type} (k : Nat) (K : KT β) : evalF (F90_2_E k) Tryz.f90 (F90_2_a) K = (F90_2 k).bind fun r => K (F90_2_r r) :=
 Eq.trans (b := K (.one (.s .own (.int .u8) []), [])) (by kernel_rfl) (by simp only [F90_2, F90_2_r, z1, z2, z3, z4, z5])
noncomputable def F90_2_p (k : Nat) : List Arg → Option CR := cleC F90_2_sh (F90_2 k) F90_2_r
theorem F90_2_q (k : Nat) : ∀ xs cr, F90_2_p k xs = some cr → Contract Tryz.prog 90 xs cr := cleC_ok fun x => con_of (envOk .none _ _ _ _) mixed Tryz.func90 rfl rfl (F90_2_ev k some)
def F95_t (k : Nat) : Tab := entT 91 (F91_p k) <| entT 90 (F90_2_p k) <| noTab
abbrev F95_E (k : Nat) : Env := env (F95_t k) noHint .own [] k
abbrev F95_R : Type := Int × Int × Int × Int × Int × Bool × Bool × Bool × Bool × L_rng × L_u8
abbrev F95_sh : List AK := [.agg sh6]
noncomputable abbrev F95_a := arC F95_sh
def F95_r (r : F95_R) : A × List (List Leaf) := (.agg [vI r.1, vI r.2.1, vI (Q2 r), vI (Q3 r), vI (Q4 r), vB (Q5 r), vB (Q6 r), vB (Q7 r), vB (Q8 r), .s .own rng (Q9 r), .s .own (.int .u8) (R10 r)], [])
def F95 (k : Nat) (v0 v1 v2 v3 v4 : Int) (v5 v6 v7 v8 : Bool) (v9 : L_rng) : Option (F95_R) := (F91 k v9).bind fun b1 => (F90_2 k).bind fun b2 => some (v0, v1, v2, v3, v4, v5, v6, v7, v8, b1, b2)
theorem F95_ev {β : Type} (k : Nat) (v0 v1 v2 v3 v4 : Int) (v5 v6 v7 v8 : Bool) (v9 : L_rng) (K : KT β) : evalF (F95_E k) Tryz.f95 (F95_a v0 v1 v2 v3 v4 v5 v6 v7 v8 v9) K = (F95 k v0 v1 v2 v3 v4 v5 v6 v7 v8 v9).bind fun r => K (F95_r r) :=
 Eq.trans (b := (F91 k v9).bind fun b1 => (F90_2 k).bind fun b2 => K (.agg [vI v0, vI v1, vI v2, vI v3, vI v4, vB v5, vB v6, vB v7, vB v8, .s .own rng b1, .s .own (.int .u8) b2], [])) (by kernel_rfl) (by simp only [F95, F95_r, z1, z2, z3, z4, z5])
theorem F95_tOk (k : Nat) : TabFn Tryz.prog (F95_t k) := .ent (F91_q k) F91_f (.ent (F90_2_q k) F90_f (.none))
noncomputable def F95_p (k : Nat) : List Arg → Option CR := cleC F95_sh (F95 k) F95_r
theorem F95_q (k : Nat) : ∀ xs cr, F95_p k xs = some cr → Contract Tryz.prog 95 xs cr := cleC_ok fun x => con_of (envOk (F95_tOk k) _ _ _ _) mixed Tryz.func95 rfl rfl (F95_ev k _ _ _ _ _ _ _ _ _ _ some)
theorem F95_f : FnOk Tryz.prog 95 := .of (by kernel_rfl)
def F66_h : Nat → Hint
 | 0 => ⟨pl 6 2 (pl 26 3 []), pl 6000 11 (pl 7000 9 ((7009, .own .own rng []) :: (pl 7010 1 (pl 26000 1 []))))⟩
 | _ => ⟨[], []⟩
def F66_t (k : Nat) : Tab := entT 85 (F85_p k) <| entT 93 (F93_p k) <| entT 76 (F76_p k) <| entT 94 (F94_p k) <| entT 95 (F95_p k) <| noTab
abbrev F66_E (k : Nat) : Env := env (F66_t k) F66_h .own [] k
abbrev F66_R : Type := Int × Int × Int × Int × Int × Bool × Bool × Bool × Bool × L_rng × L_u8
abbrev F66_sh : List AK := [.agg sh3, .one (.l (.int .i64)), .one (.l (.nil))]
noncomputable abbrev F66_a := arC F66_sh
def F66_r (r : F66_R) : A × List (List Leaf) := (.agg [vI r.1, vI r.2.1, vI (Q2 r), vI (Q3 r), vI (Q4 r), vB (Q5 r), vB (Q6 r), vB (Q7 r), vB (Q8 r), .s .own rng (Q9 r), .s .own (.int .u8) (R10 r)], [])
def F66_s0 (v0 v1 v2 v3 v4 v5 v6 : Int) (v7 : L_u8) (v8 v9 : Int) (v10 : L_rng) (v11 v12 : Int) (v13 : L_u8) (v14 : L_erl) (v15 v16 v17 : Bool) (v18 v19 v20 v21 v22 v23 w : Int) (x27_0 x28_0 m7002_0 m7003_0 m7004_0 : Int) (m7009_0 m26000_0 : L_rng) : St := ⟨dz 6 ((.one (.ptr (.cell 6000) 11 0)) :: (.one (.ptr (.cell 7000) 11 0)) :: dz 18 ((.one (.a (.cell 26000) 0 0 none)) :: (.one (vI x27_0)) :: (.one (vI x28_0)) :: dz 18 [])), [iM 6000 0, iM 6001 0, iM 6002 0, iM 6003 0, iM 6004 0, eM 6005 (vB false), eM 6006 (vB false), eM 6007 (vB false), eM 6008 (vB false), eM 6009 (.s .own rng []), eM 6010 (.s .own (.int .u8) []), iM 7000 v2, iM 7001 v4, iM 7002 m7002_0, iM 7003 m7003_0, iM 7004 m7004_0, eM 7005 (vB false), eM 7006 (vB true), eM 7007 (vB false), eM 7008 (vB false), eM 7009 (.s .own rng m7009_0), eM 7010 (.v (.slice none 0 0)), eM 26000 (.s .own rng m26000_0)]⟩
noncomputable abbrev F66_l0_g {β : Type} (k : Nat) (v0 v1 v2 v3 v4 v5 v6 : Int) (v7 : L_u8) (v8 v9 : Int) (v10 : L_rng) (v11 v12 : Int) (v13 : L_u8) (v14 : L_erl) (v15 v16 v17 : Bool) (v18 v19 v20 v21 v22 v23 w : Int) (K : KT β) (n : Nat) (x27_0 x28_0 m7002_0 m7003_0 m7004_0 : Int) (m7009_0 m26000_0 : L_rng) : Option β := loopG (F66_E k) Tryz.f66 [1, 1, 0, 1, 0] 0 (kontAt (F66_E k) [1, 1, 0, 1, 0] (bodyOf Tryz.f66) 0 (endC (F66_E k) Tryz.f66 (F66_a v0 v1 v2 v3 v4 v5 v6 v7 v8 v9 v10 v11 v12 v13 v14 v15 v16 v17 v18 v19 v20 v21 v22 v23 w) K)) n (F66_s0 v0 v1 v2 v3 v4 v5 v6 v7 v8 v9 v10 v11 v12 v13 v14 v15 v16 v17 v18 v19 v20 v21 v22 v23 w x27_0 x28_0 m7002_0 m7003_0 m7004_0 m7009_0 m26000_0)
def F66_l0_T {β : Type} (NX : Int → Int → Int → Int → Int → L_rng → L_rng → Option β) (RET : F66_R → Option β) (k : Nat) (v0 v1 v2 v3 v4 v5 v6 : Int) (v7 : L_u8) (v8 v9 : Int) (v10 : L_rng) (v11 v12 : Int) (v13 : L_u8) (v14 : L_erl) (v15 v16 v17 : Bool) (v18 v19 v20 v21 v22 v23 w : Int) (x27_0 x28_0 m7002_0 m7003_0 m7004_0 : Int) (m7009_0 m26000_0 : L_rng) : Option β := cond (decide (x28_0 < x27_0)) (cond (decide (0 ≤ x28_0)) (cond (decide (x28_0 < (m26000_0.length : Int))) ((F85 k (atI m26000_0 x28_0).1).bind fun b6 => (F85 k (atI m26000_0 x28_0).2).bind fun b7 => cond (decide ((m7009_0.length + [(b6, b7)].length) * 16 ≤ 140737488355328)) (NX x27_0 (i64.wrap (x28_0 + 1)) m7002_0 m7003_0 m7004_0 (m7009_0 ++ [(b6, b7)]) m26000_0) none) none) none) ((F95 k v2 v4 m7002_0 m7003_0 m7004_0 false true false false m7009_0).bind fun b8 => RET (b8.1, b8.2.1, (Q2 b8), (Q3 b8), (Q4 b8), (Q5 b8), (Q6 b8), (Q7 b8), (Q8 b8), (Q9 b8), (R10 b8)))
def F66_l0 (k : Nat) (v0 v1 v2 v3 v4 v5 v6 : Int) (v7 : L_u8) (v8 v9 : Int) (v10 : L_rng) (v11 v12 : Int) (v13 : L_u8) (v14 : L_erl) (v15 v16 v17 : Bool) (v18 v19 v20 v21 v22 v23 w : Int) : Nat → Int → Int → Int → Int → Int → L_rng → L_rng → Option (F66_R)
 | 0, _, _, _, _, _, _, _ => none
 | n + 1, x27_0, x28_0, m7002_0, m7003_0, m7004_0, m7009_0, m26000_0 => F66_l0_T (F66_l0 k v0 v1 v2 v3 v4 v5 v6 v7 v8 v9 v10 v11 v12 v13 v14 v15 v16 v17 v18 v19 v20 v21 v22 v23 w n) some k v0 v1 v2 v3 v4 v5 v6 v7 v8 v9 v10 v11 v12 v13 v14 v15 v16 v17 v18 v19 v20 v21 v22 v23 w x27_0 x28_0 m7002_0 m7003_0 m7004_0 m7009_0 m26000_0
theorem F66_l0_lp {β : Type} (k : Nat) (v0 v1 v2 v3 v4 v5 v6 : Int) (v7 : L_u8) (v8 v9 : Int) (v10 : L_rng) (v11 v12 : Int) (v13 : L_u8) (v14 : L_erl) (v15 v16 v17 : Bool) (v18 v19 v20 v21 v22 v23 w : Int) (K : KT β) (n : Nat) : ∀ (x27_0 x28_0 m7002_0 m7003_0 m7004_0 : Int) (m7009_0 m26000_0 : L_rng), F66_l0_g k v0 v1 v2 v3 v4 v5 v6 v7 v8 v9 v10 v11 v12 v13 v14 v15 v16 v17 v18 v19 v20 v21 v22 v23 w K n x27_0 x28_0 m7002_0 m7003_0 m7004_0 m7009_0 m26000_0 =
  (F66_l0 k v0 v1 v2 v3 v4 v5 v6 v7 v8 v9 v10 v11 v12 v13 v14 v15 v16 v17 v18 v19 v20 v21 v22 v23 w n x27_0 x28_0 m7002_0 m7003_0 m7004_0 m7009_0 m26000_0).bind fun r => K (F66_r r) := by
 induction n with
 | zero => intros; rfl
 | succ n ih =>
  intro x27_0 x28_0 m7002_0 m7003_0 m7004_0 m7009_0 m26000_0
  refine Eq.trans (b := F66_l0_T (F66_l0_g k v0 v1 v2 v3 v4 v5 v6 v7 v8 v9 v10 v11 v12 v13 v14 v15 v16 v17 v18 v19 v20 v21 v22 v23 w K n) (fun r => K (F66_r r)) k v0 v1 v2 v3 v4 v5 v6 v7 v8 v9 v10 v11 v12 v13 v14 v15 v16 v17 v18 v19 v20 v21 v22 v23 w x27_0 x28_0 m7002_0 m7003_0 m7004_0 m7009_0 m26000_0) (by kernel_rfl) ?_
  rw [F66_l0]
  simp only [F66_l0_T, z1, z2, z3, z4, z5, ih]
def F66_T {β : Type} (LP0 : Int → Int → Int → Int → Int → L_rng → L_rng → Option β) (k : Nat) (v0 v1 v2 v3 v4 v5 v6 : Int) (v7 : L_u8) (v8 v9 : Int) (v10 : L_rng) (v11 v12 : Int) (v13 : L_u8) (v14 : L_erl) (v15 v16 v17 : Bool) (v18 v19 v20 v21 v22 v23 w : Int) : Option β := (F85 k w).bind fun b1 => (F93 k v0 v1 v2 v3 v4 v5 v6 v7 v8 v9 v10 v11 v12 v13 v14 v15 v16 v17 v18 v19 v20 v21 v22 v23).bind fun b2 => (F85 k b2).bind fun b3 => (F76 k v11 v12 v13 v14).bind fun b4 => (F94 k v11 v12 v13 v14).bind fun b5 => LP0 (b5.length : Int) 0 b1 b3 b4 [] b5
def F66 (k : Nat) (v0 v1 v2 v3 v4 v5 v6 : Int) (v7 : L_u8) (v8 v9 : Int) (v10 : L_rng) (v11 v12 : Int) (v13 : L_u8) (v14 : L_erl) (v15 v16 v17 : Bool) (v18 v19 v20 v21 v22 v23 w : Int) : Option (F66_R) := F66_T (F66_l0 k v0 v1 v2 v3 v4 v5 v6 v7 v8 v9 v10 v11 v12 v13 v14 v15 v16 v17 v18 v19 v20 v21 v22 v23 w k) k v0 v1 v2 v3 v4 v5 v6 v7 v8 v9 v10 v11 v12 v13 v14 v15 v16 v17 v18 v19 v20 v21 v22 v23 w
theorem F66_ev {β : Type} (k : Nat) (v0 v1 v2 v3 v4 v5 v6 : Int) (v7 : L_u8) (v8 v9 : Int) (v10 : L_rng) (v11 v12 : Int) (v13 : L_u8) (v14 : L_erl) (v15 v16 v17 : Bool) (v18 v19 v20 v21 v22 v23 w : Int) (K : KT β) : evalF (F66_E k) Tryz.f66 (F66_a v0 v1 v2 v3 v4 v5 v6 v7 v8 v9 v10 v11 v12 v13 v14 v15 v16 v17 v18 v19 v20 v21 v22 v23 w) K = (F66 k v0 v1 v2 v3 v4 v5 v6 v7 v8 v9 v10 v11 v12 v13 v14 v15 v16 v17 v18 v19 v20 v21 v22 v23 w).bind fun r => K (F66_r r) :=
 Eq.trans (b := F66_T (F66_l0_g k v0 v1 v2 v3 v4 v5 v6 v7 v8 v9 v10 v11 v12 v13 v14 v15 v16 v17 v18 v19 v20 v21 v22 v23 w K k) k v0 v1 v2 v3 v4 v5 v6 v7 v8 v9 v10 v11 v12 v13 v14 v15 v16 v17 v18 v19 v20 v21 v22 v23 w) (by kernel_rfl) (by simp only [F66, F66_T, z1, z2, z3, z4, z5, F66_l0_lp])
theorem F66_tOk (k : Nat) : TabFn Tryz.prog (F66_t k) := .ent (F85_q k) F85_f (.ent (F93_q k) F93_f (.ent (F76_q k) F76_f (.ent (F94_q k) F94_f (.ent (F95_q k) F95_f (.none)))))
noncomputable def F66_p (k : Nat) : List Arg → Option CR := cleC F66_sh (F66 k) F66_r
theorem F66_q (k : Nat) : ∀ xs cr, F66_p k xs = some cr → Contract Tryz.prog 66 xs cr := cleC_ok fun x => con_of (envOk (F66_tOk k) _ _ _ _) mixed Tryz.func66 rfl rfl (F66_ev k _ _ _ _ _ _ _ _ _ _ _ _ _ _ _ _ _ _ _ _ _ _ _ _ _ some)
theorem F66_f : FnOk Tryz.prog 66 := .of (by kernel_rfl)
abbrev F33_R : Type := Int × Int × Int × Int × Int × Bool × Bool × Bool × Bool × L_rng × L_u8
def F33_T {β : Type} (RET : F33_R → Option β) (k : Nat) (v0 v1 v2 v3 v4 v5 v6 : Int) (v7 : L_u8) (v8 v9 : Int) (v10 : L_rng) (v11 v12 : Int) (v13 : L_u8) (v14 : L_erl) (v15 v16 v17 : Bool) (v18 v19 v20 v21 v22 v23 : Int) : Option β := cond (v0 == 2) (RET (v2, v4, v5, 0, 0, true, false, false, false, [], [])) ((F66 k v0 v1 v2 v3 v4 v5 v6 v7 v8 v9 v10 v11 v12 v13 v14 v15 v16 v17 v18 v19 v20 v21 v22 v23 v5).bind fun b1 => RET (b1.1, b1.2.1, (Q2 b1), (Q3 b1), (Q4 b1), true, (Q6 b1), (Q7 b1), (Q8 b1), (Q9 b1), (R10 b1)))
def F33 := F33_T (β := F33_R) some
abbrev F19_E (k : Nat) : Env := env noTab noHint .own [] k
abbrev F19_sh : List AK := [.one (.l (.sl .ro (.int .u8))), .one (.l (.sl .ro (.int .u8)))]
noncomputable abbrev F19_a := arC F19_sh
def F19_r (r : Bool) : A × List (List Leaf) := (.one (vB r), [])
def F19 (k : Nat) (v w : L_u8) : Option (Bool) := some ((strOf v).toList == (strOf w).toList)
theorem F19_ev {β : Type} (k : Nat) (v w : L_u8) (K : KT β) : evalF (F19_E k) Tryz.f19 (F19_a v w) K = (F19 k v w).bind fun r => K (F19_r r) :=
 Eq.trans (b := K (.one (vB ((strOf v).toList == (strOf w).toList)), [])) (by kernel_rfl) (by simp only [F19, F19_r, z1, z2, z3, z4, z5])
noncomputable def F19_p (k : Nat) : List Arg → Option CR := cleC F19_sh (F19 k) F19_r
theorem F19_q (k : Nat) : ∀ xs cr, F19_p k xs = some cr → Contract Tryz.prog 19 xs cr := cleC_ok fun x => con_of (envOk .none _ _ _ _) mixed Tryz.func19 rfl rfl (F19_ev k _ _ some)
theorem F19_f : FnOk Tryz.prog 19 := .of (by kernel_rfl)
def F73_h : Nat → Hint
 | 0 => ⟨pl 0 2 (pl 5 1 []), []⟩
 | _ => ⟨[], []⟩
abbrev F73_E (k : Nat) : Env := env noTab F73_h .own [] k
abbrev F73_sh : List AK := [.one (.l (.sl .ro rng)), .one (.l (.sl .ro rng))]
noncomputable abbrev F73_a := arC F73_sh
def F73_r (r : Bool) : A × List (List Leaf) := (.one (vB r), [])
def F73_s0 (v w : L_rng) (x5_0 : Int) : St := ⟨(.one (.s .ro rng v)) :: (.one (.s .ro rng w)) :: dz 3 ((.one (vI x5_0)) :: dz 20 []), []⟩
noncomputable abbrev F73_l0_g {β : Type} (k : Nat) (v w : L_rng) (K : KT β) (n : Nat) (x5_0 : Int) : Option β := loopG (F73_E k) Tryz.f73 [1, 1, 0, 1, 0] 0 (kontAt (F73_E k) [1, 1, 0, 1, 0] (bodyOf Tryz.f73) 0 (endC (F73_E k) Tryz.f73 (F73_a v w) K)) n (F73_s0 v w x5_0)
def F73_l0_T {β : Type} (NX : Int → Option β) (RET : Bool → Option β) (k : Nat) (v w : L_rng) (x5_0 : Int) : Option β := cond (decide (x5_0 < (v.length : Int))) (cond (decide (0 ≤ x5_0)) (cond (decide (x5_0 < (v.length : Int))) (cond (decide (0 ≤ x5_0)) (cond (decide (x5_0 < (w.length : Int))) (cond (!(eqD rng (atI v x5_0) (atI w x5_0))) (RET false) (NX (i64.wrap (x5_0 + 1)))) none) none) none) none) (RET true)
def F73_l0 (k : Nat) (v w : L_rng) : Nat → Int → Option (Bool)
 | 0, _ => none
 | n + 1, x5_0 => F73_l0_T (F73_l0 k v w n) some k v w x5_0
theorem F73_l0_lp {β : Type} (k : Nat) (v w : L_rng) (K : KT β) (n : Nat) : ∀ (x5_0 : Int), F73_l0_g k v w K n x5_0 =
  (F73_l0 k v w n x5_0).bind fun r => K (F73_r r) := by
 induction n with
 | zero => intros; rfl
 | succ n ih =>
  intro x5_0
  refine Eq.trans (b := F73_l0_T (F73_l0_g k v w K n) (fun r => K (F73_r r)) k v w x5_0) (by kernel_rfl) ?_
  rw [F73_l0]
  simp only [F73_l0_T, z1, z2, z3, z4, z5, ih]
def F73_T {β : Type} (LP0 : Int → Option β) (RET : Bool → Option β) (k : Nat) (v w : L_rng) : Option β := cond ((v.length : Int) != (w.length : Int)) (RET false) (LP0 0)
def F73 (k : Nat) (v w : L_rng) : Option (Bool) := F73_T (F73_l0 k v w k) some k v w
theorem F73_ev {β : Type} (k : Nat) (v w : L_rng) (K : KT β) : evalF (F73_E k) Tryz.f73 (F73_a v w) K = (F73 k v w).bind fun r => K (F73_r r) :=
 Eq.trans (b := F73_T (F73_l0_g k v w K k) (fun r => K (F73_r r)) k v w) (by kernel_rfl) (by simp only [F73, F73_T, z1, z2, z3, z4, z5, F73_l0_lp])
noncomputable def F73_p (k : Nat) : List Arg → Option CR := cleC F73_sh (F73 k) F73_r
theorem F73_q (k : Nat) : ∀ xs cr, F73_p k xs = some cr → Contract Tryz.prog 73 xs cr := cleC_ok fun x => con_of (envOk .none _ _ _ _) mixed Tryz.func73 rfl rfl (F73_ev k _ _ some)
theorem F73_f : FnOk Tryz.prog 73 := .of (by kernel_rfl)
def F39_t (k : Nat) : Tab := entT 19 (F19_p k) <| entT 73 (F73_p k) <| noTab
abbrev F39_E (k : Nat) : Env := env (F39_t k) noHint .own [] k
abbrev F39_sh : List AK := [.agg sh1, .agg sh1]
noncomputable abbrev F39_a := arC F39_sh
def F39_r (r : Bool) : A × List (List Leaf) := (.one (vB r), [])
def F39_T {β : Type} (RET : Bool → Option β) (k : Nat) (v0 : Int) (v1 : L_u8) (v2 v3 : Int) (v4 : L_rng) (w0 : Int) (w1 : L_u8) (w2 w3 : Int) (w4 : L_rng) : Option β := cond (v0 == w0) (cond (v2 == w2) (cond (v3 == w3) ((F19 k v1 w1).bind fun b1 => cond b1 ((F73 k v4 w4).bind fun b2 => RET b2) (RET false)) (RET false)) (RET false)) (RET false)
def F39 := F39_T (β := Bool) some
theorem F39_ev {β : Type} (k : Nat) (v0 : Int) (v1 : L_u8) (v2 v3 : Int) (v4 : L_rng) (w0 : Int) (w1 : L_u8) (w2 w3 : Int) (w4 : L_rng) (K : KT β) : evalF (F39_E k) Tryz.f39 (F39_a v0 v1 v2 v3 v4 w0 w1 w2 w3 w4) K = (F39 k v0 v1 v2 v3 v4 w0 w1 w2 w3 w4).bind fun r => K (F39_r r) :=
 Eq.trans (b := F39_T (fun r => K (F39_r r)) k v0 v1 v2 v3 v4 w0 w1 w2 w3 w4) (by kernel_rfl) (by simp only [F39, F39_T, z1, z2, z3, z4, z5])
theorem F39_tOk (k : Nat) : TabFn Tryz.prog (F39_t k) := .ent (F19_q k) F19_f (.ent (F73_q k) F73_f (.none))
noncomputable def F39_p (k : Nat) : List Arg → Option CR := cleC F39_sh (F39 k) F39_r
theorem F39_q (k : Nat) : ∀ xs cr, F39_p k xs = some cr → Contract Tryz.prog 39 xs cr := cleC_ok fun x => con_of (envOk (F39_tOk k) _ _ _ _) mixed Tryz.func39 rfl rfl (F39_ev k _ _ _ _ _ _ _ _ _ _ some)
theorem F39_f : FnOk Tryz.prog 39 := .of (by kernel_rfl)
def F40_h : Nat → Hint
 | 0 => ⟨pl 2 2 (pl 5 1 []), pl 2000 4 (pl 3000 4 [])⟩
 | _ => ⟨[], []⟩
def F40_t (k : Nat) : Tab := entT 19 (F19_p k) <| noTab
abbrev F40_E (k : Nat) : Env := env (F40_t k) F40_h .own [] k
abbrev F40_sh : List AK := [.agg sh2, .agg sh2]
noncomputable abbrev F40_a := arC F40_sh
def F40_r (r : Bool) : A × List (List Leaf) := (.one (vB r), [])
def F40_s0 (v0 v1 : Int) (v2 : L_u8) (v3 : L_erl) (w0 w1 : Int) (w2 : L_u8) (w3 : L_erl) (x5_0 : Int) : St := ⟨(.one .d) :: (.one .d) :: (.one (.ptr (.cell 2000) 4 0)) :: (.one (.ptr (.cell 3000) 4 0)) :: (.one .d) :: (.one (vI x5_0)) :: dz 47 [], [iM 2000 v0, iM 2001 v1, eM 2002 (.s .ro (.int .u8) v2), eM 2003 (.s .ro erl v3), iM 3000 w0, iM 3001 w1, eM 3002 (.s .ro (.int .u8) w2), eM 3003 (.s .ro erl w3)]⟩
noncomputable abbrev F40_l0_g {β : Type} (k : Nat) (v0 v1 : Int) (v2 : L_u8) (v3 : L_erl) (w0 w1 : Int) (w2 : L_u8) (w3 : L_erl) (K : KT β) (n : Nat) (x5_0 : Int) : Option β := loopG (F40_E k) Tryz.f40 [1, 1, 0, 1, 0] 0 (kontAt (F40_E k) [1, 1, 0, 1, 0] (bodyOf Tryz.f40) 0 (endC (F40_E k) Tryz.f40 (F40_a v0 v1 v2 v3 w0 w1 w2 w3) K)) n (F40_s0 v0 v1 v2 v3 w0 w1 w2 w3 x5_0)
def F40_l0_T {β : Type} (NX : Int → Option β) (RET : Bool → Option β) (k : Nat) (v0 v1 : Int) (v2 : L_u8) (v3 : L_erl) (w0 w1 : Int) (w2 : L_u8) (w3 : L_erl) (x5_0 : Int) : Option β := cond (decide (x5_0 < (v3.length : Int))) (cond (decide (0 ≤ x5_0)) (cond (decide (x5_0 < (v3.length : Int))) (cond (decide (0 ≤ x5_0)) (cond (decide (x5_0 < (w3.length : Int))) (cond (!(eqD erl (atI v3 x5_0) (atI w3 x5_0))) (RET false) (NX (i64.wrap (x5_0 + 1)))) none) none) none) none) (RET true)
def F40_l0 (k : Nat) (v0 v1 : Int) (v2 : L_u8) (v3 : L_erl) (w0 w1 : Int) (w2 : L_u8) (w3 : L_erl) : Nat → Int → Option (Bool)
 | 0, _ => none
 | n + 1, x5_0 => F40_l0_T (F40_l0 k v0 v1 v2 v3 w0 w1 w2 w3 n) some k v0 v1 v2 v3 w0 w1 w2 w3 x5_0
theorem F40_l0_lp {β : Type} (k : Nat) (v0 v1 : Int) (v2 : L_u8) (v3 : L_erl) (w0 w1 : Int) (w2 : L_u8) (w3 : L_erl) (K : KT β) (n : Nat) : ∀ (x5_0 : Int), F40_l0_g k v0 v1 v2 v3 w0 w1 w2 w3 K n x5_0 =
  (F40_l0 k v0 v1 v2 v3 w0 w1 w2 w3 n x5_0).bind fun r => K (F40_r r) := by
 induction n with
 | zero => intros; rfl
 | succ n ih =>
  intro x5_0
  refine Eq.trans (b := F40_l0_T (F40_l0_g k v0 v1 v2 v3 w0 w1 w2 w3 K n) (fun r => K (F40_r r)) k v0 v1 v2 v3 w0 w1 w2 w3 x5_0) (by kernel_rfl) ?_
  rw [F40_l0]
  simp only [F40_l0_T, z1, z2, z3, z4, z5, ih]
def F40_T {β : Type} (LP0 : Int → Option β) (RET : Bool → Option β) (k : Nat) (v0 v1 : Int) (v2 : L_u8) (v3 : L_erl) (w0 w1 : Int) (w2 : L_u8) (w3 : L_erl) : Option β := cond (v0 != w0) (RET false) (cond (v1 != w1) (RET false) ((F19 k v2 w2).bind fun b1 => cond (!b1) (RET false) (cond ((v3.length : Int) != (w3.length : Int)) (RET false) (LP0 0))))
def F40 (k : Nat) (v0 v1 : Int) (v2 : L_u8) (v3 : L_erl) (w0 w1 : Int) (w2 : L_u8) (w3 : L_erl) : Option (Bool) := F40_T (F40_l0 k v0 v1 v2 v3 w0 w1 w2 w3 k) some k v0 v1 v2 v3 w0 w1 w2 w3
theorem F40_ev {β : Type} (k : Nat) (v0 v1 : Int) (v2 : L_u8) (v3 : L_erl) (w0 w1 : Int) (w2 : L_u8) (w3 : L_erl) (K : KT β) : evalF (F40_E k) Tryz.f40 (F40_a v0 v1 v2 v3 w0 w1 w2 w3) K = (F40 k v0 v1 v2 v3 w0 w1 w2 w3).bind fun r => K (F40_r r) :=
 Eq.trans (b := F40_T (F40_l0_g k v0 v1 v2 v3 w0 w1 w2 w3 K k) (fun r => K (F40_r r)) k v0 v1 v2 v3 w0 w1 w2 w3) (by kernel_rfl) (by simp only [F40, F40_T, z1, z2, z3, z4, z5, F40_l0_lp])
theorem F40_tOk (k : Nat) : TabFn Tryz.prog (F40_t k) := .ent (F19_q k) F19_f (.none)
noncomputable def F40_p (k : Nat) : List Arg → Option CR := cleC F40_sh (F40 k) F40_r
theorem F40_q (k : Nat) : ∀ xs cr, F40_p k xs = some cr → Contract Tryz.prog 40 xs cr := cleC_ok fun x => con_of (envOk (F40_tOk k) _ _ _ _) mixed Tryz.func40 rfl rfl (F40_ev k _ _ _ _ _ _ _ _ some)
theorem F40_f : FnOk Tryz.prog 40 := .of (by kernel_rfl)
def F9_t (k : Nat) : Tab := entT 39 (F39_p k) <| entT 40 (F40_p k) <| noTab
abbrev F9_E (k : Nat) : Env := env (F9_t k) noHint .own [] k
abbrev F9_sh : List AK := [.agg sh3, .agg sh3]
noncomputable abbrev F9_a := arC F9_sh
def F9_r (r : Bool) : A × List (List Leaf) := (.one (vB r), [])
def F9_T {β : Type} (RET : Bool → Option β) (k : Nat) (v0 v1 v2 v3 v4 v5 v6 : Int) (v7 : L_u8) (v8 v9 : Int) (v10 : L_rng) (v11 v12 : Int) (v13 : L_u8) (v14 : L_erl) (v15 v16 v17 : Bool) (v18 v19 v20 v21 v22 v23 w0 w1 w2 w3 w4 w5 w6 : Int) (w7 : L_u8) (w8 w9 : Int) (w10 : L_rng) (w11 w12 : Int) (w13 : L_u8) (w14 : L_erl) (w15 w16 w17 : Bool) (w18 w19 w20 w21 w22 w23 : Int) : Option β := (F39 k v6 v7 v8 v9 v10 w6 w7 w8 w9 w10).bind fun b1 => cond (!b1) (RET false) ((F40 k v11 v12 v13 v14 w11 w12 w13 w14).bind fun b2 => cond (!b2) (RET false) (cond (!(eqD clk (v21, v22, v23) (w21, w22, w23))) (RET false) (cond (v0 != w0) (RET false) (cond (v1 != w1) (RET false) (cond (v2 != w2) (RET false) (cond (v3 != w3) (RET false) (cond (v4 != w4) (RET false) (cond (v5 != w5) (RET false) (cond (v15 == w15) (cond (v16 == w16) (cond (v17 == w17) (cond (v18 == w18) (cond (v19 == w19) (RET (v20 == w20)) (RET false)) (RET false)) (RET false)) (RET false)) (RET false))))))))))
def F9 := F9_T (β := Bool) some
theorem F9_ev {β : Type} (k : Nat) (v0 v1 v2 v3 v4 v5 v6 : Int) (v7 : L_u8) (v8 v9 : Int) (v10 : L_rng) (v11 v12 : Int) (v13 : L_u8) (v14 : L_erl) (v15 v16 v17 : Bool) (v18 v19 v20 v21 v22 v23 w0 w1 w2 w3 w4 w5 w6 : Int) (w7 : L_u8) (w8 w9 : Int) (w10 : L_rng) (w11 w12 : Int) (w13 : L_u8) (w14 : L_erl) (w15 w16 w17 : Bool) (w18 w19 w20 w21 w22 w23 : Int) (K : KT β) : evalF (F9_E k) Tryz.f9 (F9_a v0 v1 v2 v3 v4 v5 v6 v7 v8 v9 v10 v11 v12 v13 v14 v15 v16 v17 v18 v19 v20 v21 v22 v23 w0 w1 w2 w3 w4 w5 w6 w7 w8 w9 w10 w11 w12 w13 w14 w15 w16 w17 w18 w19 w20 w21 w22 w23) K = (F9 k v0 v1 v2 v3 v4 v5 v6 v7 v8 v9 v10 v11 v12 v13 v14 v15 v16 v17 v18 v19 v20 v21 v22 v23 w0 w1 w2 w3 w4 w5 w6 w7 w8 w9 w10 w11 w12 w13 w14 w15 w16 w17 w18 w19 w20 w21 w22 w23).bind fun r => K (F9_r r) :=
 Eq.trans (b := F9_T (fun r => K (F9_r r)) k v0 v1 v2 v3 v4 v5 v6 v7 v8 v9 v10 v11 v12 v13 v14 v15 v16 v17 v18 v19 v20 v21 v22 v23 w0 w1 w2 w3 w4 w5 w6 w7 w8 w9 w10 w11 w12 w13 w14 w15 w16 w17 w18 w19 w20 w21 w22 w23) (by kernel_rfl) (by simp only [F9, F9_T, z1, z2, z3, z4, z5])
theorem F9_tOk (k : Nat) : TabFn Tryz.prog (F9_t k) := .ent (F39_q k) F39_f (.ent (F40_q k) F40_f (.none))
noncomputable def F9_p (k : Nat) : List Arg → Option CR := cleC F9_sh (F9 k) F9_r
theorem F9_q (k : Nat) : ∀ xs cr, F9_p k xs = some cr → Contract Tryz.prog 9 xs cr := cleC_ok fun x => con_of (envOk (F9_tOk k) _ _ _ _) mixed Tryz.func9 rfl rfl (F9_ev k _ _ _ _ _ _ _ _ _ _ _ _ _ _ _ _ _ _ _ _ _ _ _ _ _ _ _ _ _ _ _ _ _ _ _ _ _ _ _ _ _ _ _ _ _ _ _ _ some)
theorem F9_f : FnOk Tryz.prog 9 := .of (by kernel_rfl)
def F41_t (k : Nat) : Tab := entT 73 (F73_p k) <| entT 19 (F19_p k) <| noTab
abbrev F41_E (k : Nat) : Env := env (F41_t k) noHint .own [] k
abbrev F41_sh : List AK := [.agg sh4, .agg sh4]
noncomputable abbrev F41_a := arC F41_sh
def F41_r (r : Bool) : A × List (List Leaf) := (.one (vB r), [])
def F41_T {β : Type} (RET : Bool → Option β) (k : Nat) (v0 v1 v2 v3 v4 : Int) (v5 v6 v7 v8 : Bool) (v9 : L_rng) (v10 : L_u8) (w0 w1 w2 w3 w4 : Int) (w5 w6 w7 w8 : Bool) (w9 : L_rng) (w10 : L_u8) : Option β := cond (v0 == w0) (cond (v1 == w1) (cond (v2 == w2) (cond (v3 == w3) (cond (v4 == w4) (cond (v5 == w5) (cond (v6 == w6) (cond (v7 == w7) (cond (v8 == w8) ((F73 k v9 w9).bind fun b1 => cond b1 ((F19 k v10 w10).bind fun b2 => RET b2) (RET false)) (RET false)) (RET false)) (RET false)) (RET false)) (RET false)) (RET false)) (RET false)) (RET false)) (RET false)
def F41 := F41_T (β := Bool) some
theorem F41_ev {β : Type} (k : Nat) (v0 v1 v2 v3 v4 : Int) (v5 v6 v7 v8 : Bool) (v9 : L_rng) (v10 : L_u8) (w0 w1 w2 w3 w4 : Int) (w5 w6 w7 w8 : Bool) (w9 : L_rng) (w10 : L_u8) (K : KT β) : evalF (F41_E k) Tryz.f41 (F41_a v0 v1 v2 v3 v4 v5 v6 v7 v8 v9 v10 w0 w1 w2 w3 w4 w5 w6 w7 w8 w9 w10) K = (F41 k v0 v1 v2 v3 v4 v5 v6 v7 v8 v9 v10 w0 w1 w2 w3 w4 w5 w6 w7 w8 w9 w10).bind fun r => K (F41_r r) :=
 Eq.trans (b := F41_T (fun r => K (F41_r r)) k v0 v1 v2 v3 v4 v5 v6 v7 v8 v9 v10 w0 w1 w2 w3 w4 w5 w6 w7 w8 w9 w10) (by kernel_rfl) (by simp only [F41, F41_T, z1, z2, z3, z4, z5])
theorem F41_tOk (k : Nat) : TabFn Tryz.prog (F41_t k) := .ent (F73_q k) F73_f (.ent (F19_q k) F19_f (.none))
noncomputable def F41_p (k : Nat) : List Arg → Option CR := cleC F41_sh (F41 k) F41_r
theorem F41_q (k : Nat) : ∀ xs cr, F41_p k xs = some cr → Contract Tryz.prog 41 xs cr := cleC_ok fun x => con_of (envOk (F41_tOk k) _ _ _ _) mixed Tryz.func41 rfl rfl (F41_ev k _ _ _ _ _ _ _ _ _ _ _ _ _ _ _ _ _ _ _ _ _ _ some)
theorem F41_f : FnOk Tryz.prog 41 := .of (by kernel_rfl)
def F10_h : Nat → Hint
 | 0 => ⟨pl 0 2 (pl 5 1 []), []⟩
 | _ => ⟨[], []⟩
def F10_t (k : Nat) : Tab := entT 41 (F41_p k) <| noTab
abbrev F10_E (k : Nat) : Env := env (F10_t k) F10_h .own [] k
abbrev F10_sh : List AK := [.one (.l (.sl .ro seg)), .one (.l (.sl .ro seg))]
noncomputable abbrev F10_a := arC F10_sh
def F10_r (r : Bool) : A × List (List Leaf) := (.one (vB r), [])
def F10_s0 (v w : L_seg) (x5_0 : Int) : St := ⟨(.one (.s .ro seg v)) :: (.one (.s .ro seg w)) :: dz 3 ((.one (vI x5_0)) :: dz 21 []), []⟩
noncomputable abbrev F10_l0_g {β : Type} (k : Nat) (v w : L_seg) (K : KT β) (n : Nat) (x5_0 : Int) : Option β := loopG (F10_E k) Tryz.f10 [1, 1, 0, 1, 0] 0 (kontAt (F10_E k) [1, 1, 0, 1, 0] (bodyOf Tryz.f10) 0 (endC (F10_E k) Tryz.f10 (F10_a v w) K)) n (F10_s0 v w x5_0)
def F10_l0_T {β : Type} (NX : Int → Option β) (RET : Bool → Option β) (k : Nat) (v w : L_seg) (x5_0 : Int) : Option β := cond (decide (x5_0 < (v.length : Int))) (cond (decide (0 ≤ x5_0)) (cond (decide (x5_0 < (v.length : Int))) (cond (decide (0 ≤ x5_0)) (cond (decide (x5_0 < (w.length : Int))) ((F41 k (atI v x5_0).1 (atI v x5_0).2.1 (Q2 (atI v x5_0)) (Q3 (atI v x5_0)) (Q4 (atI v x5_0)) (Q5 (atI v x5_0)) (Q6 (atI v x5_0)) (Q7 (atI v x5_0)) (Q8 (atI v x5_0)) (Q9 (atI v x5_0)) (R10 (atI v x5_0)) (atI w x5_0).1 (atI w x5_0).2.1 (Q2 (atI w x5_0)) (Q3 (atI w x5_0)) (Q4 (atI w x5_0)) (Q5 (atI w x5_0)) (Q6 (atI w x5_0)) (Q7 (atI w x5_0)) (Q8 (atI w x5_0)) (Q9 (atI w x5_0)) (R10 (atI w x5_0))).bind fun b1 => cond (!b1) (RET false) (NX (i64.wrap (x5_0 + 1)))) none) none) none) none) (RET true)
def F10_l0 (k : Nat) (v w : L_seg) : Nat → Int → Option (Bool)
 | 0, _ => none
 | n + 1, x5_0 => F10_l0_T (F10_l0 k v w n) some k v w x5_0
theorem F10_l0_lp {β : Type} (k : Nat) (v w : L_seg) (K : KT β) (n : Nat) : ∀ (x5_0 : Int), F10_l0_g k v w K n x5_0 =
  (F10_l0 k v w n x5_0).bind fun r => K (F10_r r) := by
 induction n with
 | zero => intros; rfl
 | succ n ih =>
  intro x5_0
  refine Eq.trans (b := F10_l0_T (F10_l0_g k v w K n) (fun r => K (F10_r r)) k v w x5_0) (by kernel_rfl) ?_
  rw [F10_l0]
  simp only [F10_l0_T, z1, z2, z3, z4, z5, ih]
def F10_T {β : Type} (LP0 : Int → Option β) (RET : Bool → Option β) (k : Nat) (v w : L_seg) : Option β := cond ((v.length : Int) != (w.length : Int)) (RET false) (LP0 0)
def F10 (k : Nat) (v w : L_seg) : Option (Bool) := F10_T (F10_l0 k v w k) some k v w
theorem F10_ev {β : Type} (k : Nat) (v w : L_seg) (K : KT β) : evalF (F10_E k) Tryz.f10 (F10_a v w) K = (F10 k v w).bind fun r => K (F10_r r) :=
 Eq.trans (b := F10_T (F10_l0_g k v w K k) (fun r => K (F10_r r)) k v w) (by kernel_rfl) (by simp only [F10, F10_T, z1, z2, z3, z4, z5, F10_l0_lp])
theorem F10_tOk (k : Nat) : TabFn Tryz.prog (F10_t k) := .ent (F41_q k) F41_f (.none)
noncomputable def F10_p (k : Nat) : List Arg → Option CR := cleC F10_sh (F10 k) F10_r
theorem F10_q (k : Nat) : ∀ xs cr, F10_p k xs = some cr → Contract Tryz.prog 10 xs cr := cleC_ok fun x => con_of (envOk (F10_tOk k) _ _ _ _) mixed Tryz.func10 rfl rfl (F10_ev k _ _ some)
theorem F10_f : FnOk Tryz.prog 10 := .of (by kernel_rfl)
def F77_h : Nat → Hint
 | 0 => ⟨pl 0 1 (pl 5 2 []), pl 8000 1 []⟩
 | _ => ⟨[], []⟩
abbrev F77_E (k : Nat) : Env := env noTab F77_h .own [] k
abbrev F77_sh : List AK := [.one (.l (.int .i64)), .one (.l (.int .i64))]
noncomputable abbrev F77_a := arC F77_sh
def F77_r (r : L_u8) : A × List (List Leaf) := (.one (.s .own (.int .u8) r), [])
def F77_s0 (v w : Int) (x0_0 x6_0 : Int) (m8000_0 : L_u8) : St := ⟨(.one (vI x0_0)) :: dz 4 ((.one (.a (.cell 8000) 0 0 none)) :: (.one (vI x6_0)) :: dz 16 []), [eM 8000 (.s .own (.int .u8) m8000_0)]⟩
noncomputable abbrev F77_l0_g {β : Type} (k : Nat) (v w : Int) (K : KT β) (n : Nat) (x0_0 x6_0 : Int) (m8000_0 : L_u8) : Option β := loopG (F77_E k) Tryz.f77 [1, 1, 0, 1, 0] 0 (kontAt (F77_E k) [1, 1, 0, 1, 0] (bodyOf Tryz.f77) 0 (endC (F77_E k) Tryz.f77 (F77_a v w) K)) n (F77_s0 v w x0_0 x6_0 m8000_0)
def F77_l0_T {β : Type} (NX : Int → Int → L_u8 → Option β) (RET : L_u8 → Option β) (k : Nat) (v w : Int) (x0_0 x6_0 : Int) (m8000_0 : L_u8) : Option β := cond (decide (x6_0 ≥ 0)) (cond (decide (0 ≤ x6_0)) (cond (decide (x6_0 < (m8000_0.length : Int))) (NX (x0_0.fdiv (2 ^ (8))) (i64.wrap (x6_0 - 1)) (m8000_0.set x6_0.toNat (u8.wrap x0_0))) none) none) (RET m8000_0)
def F77_l0 (k : Nat) (v w : Int) : Nat → Int → Int → L_u8 → Option (L_u8)
 | 0, _, _, _ => none
 | n + 1, x0_0, x6_0, m8000_0 => F77_l0_T (F77_l0 k v w n) some k v w x0_0 x6_0 m8000_0
theorem F77_l0_lp {β : Type} (k : Nat) (v w : Int) (K : KT β) (n : Nat) : ∀ (x0_0 x6_0 : Int) (m8000_0 : L_u8), F77_l0_g k v w K n x0_0 x6_0 m8000_0 =
  (F77_l0 k v w n x0_0 x6_0 m8000_0).bind fun r => K (F77_r r) := by
 induction n with
 | zero => intros; rfl
 | succ n ih =>
  intro x0_0 x6_0 m8000_0
  refine Eq.trans (b := F77_l0_T (F77_l0_g k v w K n) (fun r => K (F77_r r)) k v w x0_0 x6_0 m8000_0) (by kernel_rfl) ?_
  rw [F77_l0]
  simp only [F77_l0_T, z1, z2, z3, z4, z5, ih]
def F77_T {β : Type} (LP0 : Int → Int → L_u8 → Option β) (k : Nat) (v w : Int) : Option β := cond (decide (0 ≤ w) && decide (w = w) && decide (w * (1 : Nat) ≤ 140737488355328)) (LP0 v (i64.wrap (w - 1)) (List.replicate w.toNat (dflt (.int .u8)))) none
def F77 (k : Nat) (v w : Int) : Option (L_u8) := F77_T (F77_l0 k v w k) k v w
theorem F77_ev {β : Type} (k : Nat) (v w : Int) (K : KT β) : evalF (F77_E k) Tryz.f77 (F77_a v w) K = (F77 k v w).bind fun r => K (F77_r r) :=
 Eq.trans (b := F77_T (F77_l0_g k v w K k) k v w) (by kernel_rfl) (by simp only [F77, F77_T, z1, z2, z3, z4, z5, F77_l0_lp])
noncomputable def F77_p (k : Nat) : List Arg → Option CR := cleC F77_sh (F77 k) F77_r
theorem F77_q (k : Nat) : ∀ xs cr, F77_p k xs = some cr → Contract Tryz.prog 77 xs cr := cleC_ok fun x => con_of (envOk .none _ _ _ _) mixed Tryz.func77 rfl rfl (F77_ev k _ _ some)
theorem F77_f : FnOk Tryz.prog 77 := .of (by kernel_rfl)
def F48_t (k : Nat) : Tab := entT 42 (F42_p k) <| entT 77 (F77_p k) <| noTab
abbrev F48_E (k : Nat) : Env := env (F48_t k) noHint .own [] k
abbrev F48_sh : List AK := [.one (.l (.int .i64)), .one (.l (.int .i64))]
noncomputable abbrev F48_a := arC F48_sh
def F48_r (r : L_u8) : A × List (List Leaf) := (.one (.s .own (.int .u8) r), [])
def F48_T {β : Type} (RET : L_u8 → Option β) (k : Nat) (v w : Int) : Option β := (F42 k w 1 4).bind fun b1 => cond (!b1) (RET []) (cond (decide ((i64.wrap (8 * w)) < 0)) none ((F42 k v 0 (i64.wrap ((i64.wrap (1 * 2 ^ (min (i64.wrap (8 * w)).toNat 64))) - 1))).bind fun b2 => cond (!b2) (RET []) ((F77 k v w).bind fun b3 => RET b3)))
def F48 := F48_T (β := L_u8) some
theorem F48_ev {β : Type} (k : Nat) (v w : Int) (K : KT β) : evalF (F48_E k) Tryz.f48 (F48_a v w) K = (F48 k v w).bind fun r => K (F48_r r) :=
 Eq.trans (b := F48_T (fun r => K (F48_r r)) k v w) (by kernel_rfl) (by simp only [F48, F48_T, z1, z2, z3, z4, z5])
theorem F48_tOk (k : Nat) : TabFn Tryz.prog (F48_t k) := .ent (F42_q k) F42_f (.ent (F77_q k) F77_f (.none))
noncomputable def F48_p (k : Nat) : List Arg → Option CR := cleC F48_sh (F48 k) F48_r
theorem F48_q (k : Nat) : ∀ xs cr, F48_p k xs = some cr → Contract Tryz.prog 48 xs cr := cleC_ok fun x => con_of (envOk (F48_tOk k) _ _ _ _) mixed Tryz.func48 rfl rfl (F48_ev k _ _ some)
theorem F48_f : FnOk Tryz.prog 48 := .of (by kernel_rfl)
def F12_t (k : Nat) : Tab := entT 48 (F48_p k) <| noTab
abbrev F12_E (k : Nat) : Env := env (F12_t k) noHint .own [] k
abbrev F12_sh : List AK := []
noncomputable abbrev F12_a := arC F12_sh
def F12_r (r : Bool) : A × List (List Leaf) := (.one (vB r), [])
def F12_T {β : Type} (RET : Bool → Option β) (k : Nat) : Option β := (F48 k 5 1).bind fun b1 => cond ((b1.length : Int) == 1) ((F48 k 256 1).bind fun b2 => RET ((b2.length : Int) == 0)) (RET false)
def F12 := F12_T (β := Bool) some
theorem F12_ev {β : Type} (k : Nat) (K : KT β) : evalF (F12_E k) Tryz.f12 (F12_a) K = (F12 k).bind fun r => K (F12_r r) :=
 Eq.trans (b := F12_T (fun r => K (F12_r r)) k) (by kernel_rfl) (by simp only [F12, F12_T, z1, z2, z3, z4, z5])
theorem F12_tOk (k : Nat) : TabFn Tryz.prog (F12_t k) := .ent (F48_q k) F48_f (.none)
noncomputable def F12_p (k : Nat) : List Arg → Option CR := cleC F12_sh (F12 k) F12_r
theorem F12_q (k : Nat) : ∀ xs cr, F12_p k xs = some cr → Contract Tryz.prog 12 xs cr := cleC_ok fun x => con_of (envOk (F12_tOk k) _ _ _ _) mixed Tryz.func12 rfl rfl (F12_ev k some)
theorem F12_f : FnOk Tryz.prog 12 := .of (by kernel_rfl)
def F49_T {β : Type} (RET : (Int × Int × Int) → Option β) (k : Nat) (v0 v1 v2 : Int) : Option β := (F45 k v0 v1 v2).bind fun b1 => cond (!b1) (RET (0, 0, 0)) (RET (v0, v1, (if (i64.wrap (2 * v2)) < 200 then i64.wrap (2 * v2) else 200)))
def F49 := F49_T (β := Int × Int × Int) some
def F78_T {β : Type} (RET : L_u8 → Option β) (k : Nat) (v0 : Int) (v1 : L_u8) (v2 v3 : Int) (v4 : L_rng) (w : Int) : Option β := cond (decide ((v4.length : Int) > 0)) (cond (decide (0 < (v4.length : Int))) (cond (decide (0 ≤ (if (i64.wrap ((atI v4 0).1 - v0)) < (if v2 < w then v2 else w) then i64.wrap ((atI v4 0).1 - v0) else (if v2 < w then v2 else w))) && decide ((if (i64.wrap ((atI v4 0).1 - v0)) < (if v2 < w then v2 else w) then i64.wrap ((atI v4 0).1 - v0) else (if v2 < w then v2 else w)) ≤ (v1.length : Int))) ((F90 k (v1.take ((if (i64.wrap ((atI v4 0).1 - v0)) < (if v2 < w then v2 else w) then i64.wrap ((atI v4 0).1 - v0) else (if v2 < w then v2 else w)).toNat))).bind fun b1 => RET b1) none) none) (cond (decide (0 ≤ (if v2 < w then v2 else w)) && decide ((if v2 < w then v2 else w) ≤ (v1.length : Int))) ((F90 k (v1.take ((if v2 < w then v2 else w).toNat))).bind fun b2 => RET b2) none)
def F78 := F78_T (β := L_u8) some
def F95_2_t (k : Nat) : Tab := entT 91 (F91_p k) <| entT 90 (F90_p k) <| noTab
abbrev F95_2_E (k : Nat) : Env := env (F95_2_t k) noHint .own [] k
abbrev F95_2_R : Type := Int × Int × Int × Int × Int × Bool × Bool × Bool × Bool × L_rng × L_u8
abbrev F95_2_sh : List AK := [.agg sh4]
noncomputable abbrev F95_2_a := arC F95_2_sh
def F95_2_r (r : F95_2_R) : A × List (List Leaf) := (.agg [vI r.1, vI r.2.1, vI (Q2 r), vI (Q3 r), vI (Q4 r), vB (Q5 r), vB (Q6 r), vB (Q7 r), vB (Q8 r), .s .own rng (Q9 r), .s .own (.int .u8) (R10 r)], [])
def F95_2_T {β : Type} (RET : F95_2_R → Option β) (k : Nat) (v0 v1 v2 v3 v4 : Int) (v5 v6 v7 v8 : Bool) (v9 : L_rng) (v10 : L_u8) : Option β := (F91 k v9).bind fun b1 => (F90 k v10).bind fun b2 => RET (v0, v1, v2, v3, v4, v5, v6, v7, v8, b1, b2)
def F95_2 := F95_2_T (β := F95_2_R) some
theorem F95_2_ev {β : Type} (k : Nat) (v0 v1 v2 v3 v4 : Int) (v5 v6 v7 v8 : Bool) (v9 : L_rng) (v10 : L_u8) (K : KT β) : evalF (F95_2_E k) Tryz.f95 (F95_2_a v0 v1 v2 v3 v4 v5 v6 v7 v8 v9 v10) K = (F95_2 k v0 v1 v2 v3 v4 v5 v6 v7 v8 v9 v10).bind fun r => K (F95_2_r r) :=
 Eq.trans (b := F95_2_T (fun r => K (F95_2_r r)) k v0 v1 v2 v3 v4 v5 v6 v7 v8 v9 v10) (by kernel_rfl) (by simp only [F95_2, F95_2_T, z1, z2, z3, z4, z5])
theorem F95_2_tOk (k : Nat) : TabFn Tryz.prog (F95_2_t k) := .ent (F91_q k) F91_f (.ent (F90_q k) F90_f (.none))
noncomputable def F95_2_p (k : Nat) : List Arg → Option CR := cleC F95_2_sh (F95_2 k) F95_2_r
theorem F95_2_q (k : Nat) : ∀ xs cr, F95_2_p k xs = some cr → Contract Tryz.prog 95 xs cr := cleC_ok fun x => con_of (envOk (F95_2_tOk k) _ _ _ _) mixed Tryz.func95 rfl rfl (F95_2_ev k _ _ _ _ _ _ _ _ _ _ _ some)
def F66_2_h : Nat → Hint
 | 0 => ⟨pl 6 2 (pl 26 3 []), pl 6000 11 (pl 7000 9 ((7009, .own .own rng []) :: (pl 7010 1 (pl 26000 1 []))))⟩
 | _ => ⟨[], []⟩
def F66_2_t (k : Nat) : Tab := entT 85 (F85_p k) <| entT 93 (F93_p k) <| entT 76 (F76_p k) <| entT 94 (F94_p k) <| entT 95 (F95_2_p k) <| noTab
abbrev F66_2_E (k : Nat) : Env := env (F66_2_t k) F66_2_h .own [] k
abbrev F66_2_R : Type := Int × Int × Int × Int × Int × Bool × Bool × Bool × Bool × L_rng × L_u8
abbrev F66_2_sh : List AK := [.agg sh3, .one (.l (.int .i64)), .one (.l (.sl .ro (.int .u8)))]
noncomputable abbrev F66_2_a := arC F66_2_sh
def F66_2_r (r : F66_2_R) : A × List (List Leaf) := (.agg [vI r.1, vI r.2.1, vI (Q2 r), vI (Q3 r), vI (Q4 r), vB (Q5 r), vB (Q6 r), vB (Q7 r), vB (Q8 r), .s .own rng (Q9 r), .s .own (.int .u8) (R10 r)], [])
def F66_2_s0 (v0 v1 v2 v3 v4 v5 v6 : Int) (v7 : L_u8) (v8 v9 : Int) (v10 : L_rng) (v11 v12 : Int) (v13 : L_u8) (v14 : L_erl) (v15 v16 v17 : Bool) (v18 v19 v20 v21 v22 v23 w : Int) (p : L_u8) (x27_0 x28_0 m7002_0 m7003_0 m7004_0 : Int) (m7009_0 m26000_0 : L_rng) : St := ⟨dz 6 ((.one (.ptr (.cell 6000) 11 0)) :: (.one (.ptr (.cell 7000) 11 0)) :: dz 18 ((.one (.a (.cell 26000) 0 0 none)) :: (.one (vI x27_0)) :: (.one (vI x28_0)) :: dz 18 [])), [iM 6000 0, iM 6001 0, iM 6002 0, iM 6003 0, iM 6004 0, eM 6005 (vB false), eM 6006 (vB false), eM 6007 (vB false), eM 6008 (vB false), eM 6009 (.s .own rng []), eM 6010 (.s .own (.int .u8) []), iM 7000 v2, iM 7001 v4, iM 7002 m7002_0, iM 7003 m7003_0, iM 7004 m7004_0, eM 7005 (vB false), eM 7006 (vB true), eM 7007 (vB false), eM 7008 (vB false), eM 7009 (.s .own rng m7009_0), eM 7010 (.s .ro (.int .u8) p), eM 26000 (.s .own rng m26000_0)]⟩
noncomputable abbrev F66_2_l0_g {β : Type} (k : Nat) (v0 v1 v2 v3 v4 v5 v6 : Int) (v7 : L_u8) (v8 v9 : Int) (v10 : L_rng) (v11 v12 : Int) (v13 : L_u8) (v14 : L_erl) (v15 v16 v17 : Bool) (v18 v19 v20 v21 v22 v23 w : Int) (p : L_u8) (K : KT β) (n : Nat) (x27_0 x28_0 m7002_0 m7003_0 m7004_0 : Int) (m7009_0 m26000_0 : L_rng) : Option β := loopG (F66_2_E k) Tryz.f66 [1, 1, 0, 1, 0] 0 (kontAt (F66_2_E k) [1, 1, 0, 1, 0] (bodyOf Tryz.f66) 0 (endC (F66_2_E k) Tryz.f66 (F66_2_a v0 v1 v2 v3 v4 v5 v6 v7 v8 v9 v10 v11 v12 v13 v14 v15 v16 v17 v18 v19 v20 v21 v22 v23 w p) K)) n (F66_2_s0 v0 v1 v2 v3 v4 v5 v6 v7 v8 v9 v10 v11 v12 v13 v14 v15 v16 v17 v18 v19 v20 v21 v22 v23 w p x27_0 x28_0 m7002_0 m7003_0 m7004_0 m7009_0 m26000_0)
def F66_2_l0_T {β : Type} (NX : Int → Int → Int → Int → Int → L_rng → L_rng → Option β) (RET : F66_2_R → Option β) (k : Nat) (v0 v1 v2 v3 v4 v5 v6 : Int) (v7 : L_u8) (v8 v9 : Int) (v10 : L_rng) (v11 v12 : Int) (v13 : L_u8) (v14 : L_erl) (v15 v16 v17 : Bool) (v18 v19 v20 v21 v22 v23 w : Int) (p : L_u8) (x27_0 x28_0 m7002_0 m7003_0 m7004_0 : Int) (m7009_0 m26000_0 : L_rng) : Option β := cond (decide (x28_0 < x27_0)) (cond (decide (0 ≤ x28_0)) (cond (decide (x28_0 < (m26000_0.length : Int))) ((F85 k (atI m26000_0 x28_0).1).bind fun b6 => (F85 k (atI m26000_0 x28_0).2).bind fun b7 => cond (decide ((m7009_0.length + [(b6, b7)].length) * 16 ≤ 140737488355328)) (NX x27_0 (i64.wrap (x28_0 + 1)) m7002_0 m7003_0 m7004_0 (m7009_0 ++ [(b6, b7)]) m26000_0) none) none) none) ((F95_2 k v2 v4 m7002_0 m7003_0 m7004_0 false true false false m7009_0 p).bind fun b8 => RET (b8.1, b8.2.1, (Q2 b8), (Q3 b8), (Q4 b8), (Q5 b8), (Q6 b8), (Q7 b8), (Q8 b8), (Q9 b8), (R10 b8)))
def F66_2_l0 (k : Nat) (v0 v1 v2 v3 v4 v5 v6 : Int) (v7 : L_u8) (v8 v9 : Int) (v10 : L_rng) (v11 v12 : Int) (v13 : L_u8) (v14 : L_erl) (v15 v16 v17 : Bool) (v18 v19 v20 v21 v22 v23 w : Int) (p : L_u8) : Nat → Int → Int → Int → Int → Int → L_rng → L_rng → Option (F66_2_R)
 | 0, _, _, _, _, _, _, _ => none
 | n + 1, x27_0, x28_0, m7002_0, m7003_0, m7004_0, m7009_0, m26000_0 => F66_2_l0_T (F66_2_l0 k v0 v1 v2 v3 v4 v5 v6 v7 v8 v9 v10 v11 v12 v13 v14 v15 v16 v17 v18 v19 v20 v21 v22 v23 w p n) some k v0 v1 v2 v3 v4 v5 v6 v7 v8 v9 v10 v11 v12 v13 v14 v15 v16 v17 v18 v19 v20 v21 v22 v23 w p x27_0 x28_0 m7002_0 m7003_0 m7004_0 m7009_0 m26000_0
theorem F66_2_l0_lp {β : Type} (k : Nat) (v0 v1 v2 v3 v4 v5 v6 : Int) (v7 : L_u8) (v8 v9 : Int) (v10 : L_rng) (v11 v12 : Int) (v13 : L_u8) (v14 : L_erl) (v15 v16 v17 : Bool) (v18 v19 v20 v21 v22 v23 w : Int) (p : L_u8) (K : KT β) (n : Nat) : ∀ (x27_0 x28_0 m7002_0 m7003_0 m7004_0 : Int) (m7009_0 m26000_0 : L_rng), F66_2_l0_g k v0 v1 v2 v3 v4 v5 v6 v7 v8 v9 v10 v11 v12 v13 v14 v15 v16 v17 v18 v19 v20 v21 v22 v23 w p K n x27_0 x28_0 m7002_0 m7003_0 m7004_0 m7009_0 m26000_0 =
  (F66_2_l0 k v0 v1 v2 v3 v4 v5 v6 v7 v8 v9 v10 v11 v12 v13 v14 v15 v16 v17 v18 v19 v20 v21 v22 v23 w p n x27_0 x28_0 m7002_0 m7003_0 m7004_0 m7009_0 m26000_0).bind fun r => K (F66_2_r r) := by
 induction n with
 | zero => intros; rfl
 | succ n ih =>
  intro x27_0 x28_0 m7002_0 m7003_0 m7004_0 m7009_0 m26000_0
  refine Eq.trans (b := F66_2_l0_T (F66_2_l0_g k v0 v1 v2 v3 v4 v5 v6 v7 v8 v9 v10 v11 v12 v13 v14 v15 v16 v17 v18 v19 v20 v21 v22 v23 w p K n) (fun r => K (F66_2_r r)) k v0 v1 v2 v3 v4 v5 v6 v7 v8 v9 v10 v11 v12 v13 v14 v15 v16 v17 v18 v19 v20 v21 v22 v23 w p x27_0 x28_0 m7002_0 m7003_0 m7004_0 m7009_0 m26000_0) (by kernel_rfl) ?_
  rw [F66_2_l0]
  simp only [F66_2_l0_T, z1, z2, z3, z4, z5, ih]
def F66_2_T {β : Type} (LP0 : Int → Int → Int → Int → Int → L_rng → L_rng → Option β) (k : Nat) (v0 v1 v2 v3 v4 v5 v6 : Int) (v7 : L_u8) (v8 v9 : Int) (v10 : L_rng) (v11 v12 : Int) (v13 : L_u8) (v14 : L_erl) (v15 v16 v17 : Bool) (v18 v19 v20 v21 v22 v23 w : Int) (p : L_u8) : Option β := (F85 k w).bind fun b1 => (F93 k v0 v1 v2 v3 v4 v5 v6 v7 v8 v9 v10 v11 v12 v13 v14 v15 v16 v17 v18 v19 v20 v21 v22 v23).bind fun b2 => (F85 k b2).bind fun b3 => (F76 k v11 v12 v13 v14).bind fun b4 => (F94 k v11 v12 v13 v14).bind fun b5 => LP0 (b5.length : Int) 0 b1 b3 b4 [] b5
def F66_2 (k : Nat) (v0 v1 v2 v3 v4 v5 v6 : Int) (v7 : L_u8) (v8 v9 : Int) (v10 : L_rng) (v11 v12 : Int) (v13 : L_u8) (v14 : L_erl) (v15 v16 v17 : Bool) (v18 v19 v20 v21 v22 v23 w : Int) (p : L_u8) : Option (F66_2_R) := F66_2_T (F66_2_l0 k v0 v1 v2 v3 v4 v5 v6 v7 v8 v9 v10 v11 v12 v13 v14 v15 v16 v17 v18 v19 v20 v21 v22 v23 w p k) k v0 v1 v2 v3 v4 v5 v6 v7 v8 v9 v10 v11 v12 v13 v14 v15 v16 v17 v18 v19 v20 v21 v22 v23 w p
theorem F66_2_ev {β : Type} (k : Nat) (v0 v1 v2 v3 v4 v5 v6 : Int) (v7 : L_u8) (v8 v9 : Int) (v10 : L_rng) (v11 v12 : Int) (v13 : L_u8) (v14 : L_erl) (v15 v16 v17 : Bool) (v18 v19 v20 v21 v22 v23 w : Int) (p : L_u8) (K : KT β) : evalF (F66_2_E k) Tryz.f66 (F66_2_a v0 v1 v2 v3 v4 v5 v6 v7 v8 v9 v10 v11 v12 v13 v14 v15 v16 v17 v18 v19 v20 v21 v22 v23 w p) K = (F66_2 k v0 v1 v2 v3 v4 v5 v6 v7 v8 v9 v10 v11 v12 v13 v14 v15 v16 v17 v18 v19 v20 v21 v22 v23 w p).bind fun r => K (F66_2_r r) :=
 Eq.trans (b := F66_2_T (F66_2_l0_g k v0 v1 v2 v3 v4 v5 v6 v7 v8 v9 v10 v11 v12 v13 v14 v15 v16 v17 v18 v19 v20 v21 v22 v23 w p K k) k v0 v1 v2 v3 v4 v5 v6 v7 v8 v9 v10 v11 v12 v13 v14 v15 v16 v17 v18 v19 v20 v21 v22 v23 w p) (by kernel_rfl) (by simp only [F66_2, F66_2_T, z1, z2, z3, z4, z5, F66_2_l0_lp])
theorem F66_2_tOk (k : Nat) : TabFn Tryz.prog (F66_2_t k) := .ent (F85_q k) F85_f (.ent (F93_q k) F93_f (.ent (F76_q k) F76_f (.ent (F94_q k) F94_f (.ent (F95_2_q k) F95_f (.none)))))
noncomputable def F66_2_p (k : Nat) : List Arg → Option CR := cleC F66_2_sh (F66_2 k) F66_2_r
theorem F66_2_q (k : Nat) : ∀ xs cr, F66_2_p k xs = some cr → Contract Tryz.prog 66 xs cr := cleC_ok fun x => con_of (envOk (F66_2_tOk k) _ _ _ _) mixed Tryz.func66 rfl rfl (F66_2_ev k _ _ _ _ _ _ _ _ _ _ _ _ _ _ _ _ _ _ _ _ _ _ _ _ _ _ some)
def F59_t (k : Nat) : Tab := entT 66 (F66_p k) <| noTab
abbrev F59_E (k : Nat) : Env := env (F59_t k) noHint .own [] k
abbrev F59_R : Type := Int × Int × Int × Int × Int × Bool × Bool × Bool × Bool × L_rng × L_u8
abbrev F59_sh : List AK := [.agg sh3]
noncomputable abbrev F59_a := arC F59_sh
def F59_r (r : F59_R) : A × List (List Leaf) := (.agg [vI r.1, vI r.2.1, vI (Q2 r), vI (Q3 r), vI (Q4 r), vB (Q5 r), vB (Q6 r), vB (Q7 r), vB (Q8 r), .s .own rng (Q9 r), .s .own (.int .u8) (R10 r)], [])
def F59_T {β : Type} (RET : F59_R → Option β) (k : Nat) (v0 v1 v2 v3 v4 v5 v6 : Int) (v7 : L_u8) (v8 v9 : Int) (v10 : L_rng) (v11 v12 : Int) (v13 : L_u8) (v14 : L_erl) (v15 v16 v17 : Bool) (v18 v19 v20 v21 v22 v23 : Int) : Option β := (F66 k v0 v1 v2 v3 v4 v5 v6 v7 v8 v9 v10 v11 v12 v13 v14 v15 v16 v17 v18 v19 v20 v21 v22 v23 (i64.wrap (v6 + (v7.length : Int)))).bind fun b1 => RET (b1.1, b1.2.1, (Q2 b1), (Q3 b1), (Q4 b1), (Q5 b1), (Q6 b1), true, (Q8 b1), (Q9 b1), (R10 b1))
def F59 := F59_T (β := F59_R) some
theorem F59_ev {β : Type} (k : Nat) (v0 v1 v2 v3 v4 v5 v6 : Int) (v7 : L_u8) (v8 v9 : Int) (v10 : L_rng) (v11 v12 : Int) (v13 : L_u8) (v14 : L_erl) (v15 v16 v17 : Bool) (v18 v19 v20 v21 v22 v23 : Int) (K : KT β) : evalF (F59_E k) Tryz.f59 (F59_a v0 v1 v2 v3 v4 v5 v6 v7 v8 v9 v10 v11 v12 v13 v14 v15 v16 v17 v18 v19 v20 v21 v22 v23) K = (F59 k v0 v1 v2 v3 v4 v5 v6 v7 v8 v9 v10 v11 v12 v13 v14 v15 v16 v17 v18 v19 v20 v21 v22 v23).bind fun r => K (F59_r r) :=
 Eq.trans (b := F59_T (fun r => K (F59_r r)) k v0 v1 v2 v3 v4 v5 v6 v7 v8 v9 v10 v11 v12 v13 v14 v15 v16 v17 v18 v19 v20 v21 v22 v23) (by kernel_rfl) (by simp only [F59, F59_T, z1, z2, z3, z4, z5])
theorem F59_tOk (k : Nat) : TabFn Tryz.prog (F59_t k) := .ent (F66_q k) F66_f (.none)
noncomputable def F59_p (k : Nat) : List Arg → Option CR := cleC F59_sh (F59 k) F59_r
theorem F59_q (k : Nat) : ∀ xs cr, F59_p k xs = some cr → Contract Tryz.prog 59 xs cr := cleC_ok fun x => con_of (envOk (F59_tOk k) _ _ _ _) mixed Tryz.func59 rfl rfl (F59_ev k _ _ _ _ _ _ _ _ _ _ _ _ _ _ _ _ _ _ _ _ _ _ _ _ some)
theorem F59_f : FnOk Tryz.prog 59 := .of (by kernel_rfl)
abbrev F50_R : Type := Int × Int × Int × Int × Int × Bool × Bool × Bool × Bool × L_rng × L_u8
def F50_T {β : Type} (RET : F50_R → Option β) (k : Nat) (v0 v1 v2 v3 v4 v5 v6 : Int) (v7 : L_u8) (v8 v9 : Int) (v10 : L_rng) (v11 v12 : Int) (v13 : L_u8) (v14 : L_erl) (v15 v16 v17 : Bool) (v18 v19 v20 v21 v22 v23 : Int) : Option β := cond (v0 != 4) ((F33 k v0 v1 v2 v3 v4 v5 v6 v7 v8 v9 v10 v11 v12 v13 v14 v15 v16 v17 v18 v19 v20 v21 v22 v23).bind fun b1 => RET (b1.1, b1.2.1, (Q2 b1), (Q3 b1), (Q4 b1), (Q5 b1), (Q6 b1), (Q7 b1), (Q8 b1), (Q9 b1), (R10 b1))) ((F78 k v6 v7 v8 v9 v10 12).bind fun b2 => cond (decide ((b2.length : Int) > 0)) ((F66_2 k v0 v1 v2 v3 v4 v5 v6 v7 v8 v9 v10 v11 v12 v13 v14 v15 v16 v17 v18 v19 v20 v21 v22 v23 v6 b2).bind fun b3 => RET (b3.1, b3.2.1, (Q2 b3), (Q3 b3), (Q4 b3), (Q5 b3), (Q6 b3), (Q7 b3), (Q8 b3), (Q9 b3), (R10 b3))) (cond v16 ((F59 k v0 v1 v2 v3 v4 v5 v6 v7 v8 v9 v10 v11 v12 v13 v14 v15 v16 v17 v18 v19 v20 v21 v22 v23).bind fun b4 => RET (b4.1, b4.2.1, (Q2 b4), (Q3 b4), (Q4 b4), (Q5 b4), (Q6 b4), (Q7 b4), (Q8 b4), (Q9 b4), (R10 b4))) ((F66 k v0 v1 v2 v3 v4 v5 v6 v7 v8 v9 v10 v11 v12 v13 v14 v15 v16 v17 v18 v19 v20 v21 v22 v23 (i64.wrap (v6 - 1))).bind fun b5 => RET (b5.1, b5.2.1, (Q2 b5), (Q3 b5), (Q4 b5), (Q5 b5), (Q6 b5), (Q7 b5), (Q8 b5), (Q9 b5), (R10 b5)))))
def F50 := F50_T (β := F50_R) some
abbrev F13_R : Type := Int × Int × Int × Int × Int × Int × Int × L_u8 × Int × Int × L_rng × Int × Int × L_u8 × L_erl × Bool × Bool × Bool × Int × Int × Int × Int × Int × Int × L_seg
def F13_T {β : Type} (RET : F13_R → Option β) (k : Nat) (v0 v1 v2 v3 v4 v5 v6 : Int) (v7 : L_u8) (v8 v9 : Int) (v10 : L_rng) (v11 v12 : Int) (v13 : L_u8) (v14 : L_erl) (v15 v16 v17 : Bool) (v18 v19 v20 v21 v22 v23 w : Int) : Option β := (F28 k v0 v1 v2 v3 v4 v5 v6 v7 v8 v9 v10 v11 v12 v13 v14 v15 v16 v17 v18 v19 v20 v21 v22 v23 w).bind fun b1 => cond (!b1) (RET (0, 0, 0, 0, 0, 0, 0, [], 0, 0, [], 0, 0, [], [], false, false, false, 0, 0, 0, 0, 0, 0, [])) ((F31 k v0 v1 v2 v3 v4 v5 v6 v7 v8 v9 v10 v11 v12 v13 v14 v15 v16 v17 v18 v19 v20 v21 v22 v23).bind fun b2 => cond (v19 == 0) (RET (b2.1, b2.2.1, (Q2 b2), (Q3 b2), (Q4 b2), (Q5 b2), (Q6 b2), (Q7 b2), (Q8 b2), (Q9 b2), (Q10 b2), (Q11 b2), (Q12 b2), (Q13 b2), (Q14 b2), (Q15 b2), (Q16 b2), (Q17 b2), (Q18 b2), (Q19 b2), (Q20 b2), (Q21 b2), (Q22 b2), (R23 b2), [])) (cond (decide (v19 > w)) (RET (b2.1, b2.2.1, (Q2 b2), (Q3 b2), (Q4 b2), (Q5 b2), (Q6 b2), (Q7 b2), (Q8 b2), (Q9 b2), (Q10 b2), (Q11 b2), (Q12 b2), (Q13 b2), (Q14 b2), (Q15 b2), (Q16 b2), (Q17 b2), (Q18 b2), (Q19 b2), (Q20 b2), (Q21 b2), (Q22 b2), (R23 b2), [])) (cond (decide (v20 ≥ 8)) (RET (5, b2.2.1, (Q2 b2), (Q3 b2), (Q4 b2), (Q5 b2), (Q6 b2), (Q7 b2), (Q8 b2), (Q9 b2), (Q10 b2), (Q11 b2), (Q12 b2), (Q13 b2), (Q14 b2), (Q15 b2), (Q16 b2), (Q17 b2), (Q18 b2), 0, (Q20 b2), (Q21 b2), (Q22 b2), (R23 b2), [])) ((F49 k v21 v22 v23).bind fun b3 => (F50 k b2.1 b2.2.1 (Q2 b2) (Q3 b2) (Q4 b2) (Q5 b2) (Q6 b2) (Q7 b2) (Q8 b2) (Q9 b2) (Q10 b2) (Q11 b2) (Q12 b2) (Q13 b2) (Q14 b2) (Q15 b2) (Q16 b2) (Q17 b2) (Q18 b2) (i64.wrap (w + b3.2.2)) (i64.wrap ((Q20 b2) + 1)) b3.1 b3.2.1 b3.2.2).bind fun b4 => RET (b2.1, b2.2.1, (Q2 b2), (Q3 b2), (Q4 b2), (Q5 b2), (Q6 b2), (Q7 b2), (Q8 b2), (Q9 b2), (Q10 b2), (Q11 b2), (Q12 b2), (Q13 b2), (Q14 b2), (Q15 b2), (Q16 b2), (Q17 b2), (Q18 b2), i64.wrap (w + b3.2.2), i64.wrap ((Q20 b2) + 1), b3.1, b3.2.1, b3.2.2, [b4])))))
def F13 := F13_T (β := F13_R) some
def F80_t (k : Nat) : Tab := entT 29 (F29_p k) <| noTab
abbrev F80_E (k : Nat) : Env := env (F80_t k) noHint .own [] k
abbrev F80_sh : List AK := [.agg [.l (.int .i64), .l (.int .i64)]]
noncomputable abbrev F80_a := arC F80_sh
def F80_r (r : Bool) : A × List (List Leaf) := (.one (vB r), [])
def F80 (k : Nat) (v0 v1 : Int) : Option (Bool) := (F29 k v0).bind fun b1 => cond (!b1) (some true) ((F29 k v1).bind fun b2 => some (!b2))
theorem F80_ev {β : Type} (k : Nat) (v0 v1 : Int) (K : KT β) : evalF (F80_E k) Tryz.f80 (F80_a v0 v1) K = (F80 k v0 v1).bind fun r => K (F80_r r) :=
 Eq.trans (b := (F29 k v0).bind fun b1 => cond (!b1) (K (.one (vB true), [])) ((F29 k v1).bind fun b2 => K (.one (vB (!b2)), []))) (by kernel_rfl) (by simp only [F80, F80_r, z1, z2, z3, z4, z5])
theorem F80_tOk (k : Nat) : TabFn Tryz.prog (F80_t k) := .ent (F29_q k) F29_f (.none)
noncomputable def F80_p (k : Nat) : List Arg → Option CR := cleC F80_sh (F80 k) F80_r
theorem F80_q (k : Nat) : ∀ xs cr, F80_p k xs = some cr → Contract Tryz.prog 80 xs cr := cleC_ok fun x => con_of (envOk (F80_tOk k) _ _ _ _) mixed Tryz.func80 rfl rfl (F80_ev k _ _ some)
theorem F80_f : FnOk Tryz.prog 80 := .of (by kernel_rfl)
def F100_h : Nat → Hint
 | 0 => ⟨pl 0 2 (pl 7 2 []), []⟩
 | _ => ⟨[], []⟩
def F100_t (k : Nat) : Tab := entT 80 (F80_p k) <| noTab
abbrev F100_E (k : Nat) : Env := env (F100_t k) F100_h .own [] k
abbrev F100_sh : List AK := [.one (.l (.sl .ro rng)), .one (.fn 80)]
noncomputable abbrev F100_a := arC F100_sh
def F100_r (r : Int) : A × List (List Leaf) := (.one (vI r), [])
def F100_s0 (v : L_rng) (x8_0 : Int) : St := ⟨(.one (.s .ro rng v)) :: (.one (.fn 80 [])) :: dz 5 ((.one (vI (v.length : Int))) :: (.one (vI x8_0)) :: dz 10 []), []⟩
noncomputable abbrev F100_l0_g {β : Type} (k : Nat) (v : L_rng) (K : KT β) (n : Nat) (x8_0 : Int) : Option β := loopG (F100_E k) Tryz.f100 [1, 0, 1, 0] 0 (kontAt (F100_E k) [1, 0, 1, 0] (bodyOf Tryz.f100) 0 (endC (F100_E k) Tryz.f100 (F100_a v) K)) n (F100_s0 v x8_0)
def F100_l0_T {β : Type} (NX : Int → Option β) (RET : Int → Option β) (k : Nat) (v : L_rng) (x8_0 : Int) : Option β := cond (decide (x8_0 < (v.length : Int))) (cond (decide (0 ≤ x8_0)) (cond (decide (x8_0 < (v.length : Int))) ((F80 k (atI v x8_0).1 (atI v x8_0).2).bind fun b1 => cond b1 (RET x8_0) (NX (i64.wrap (x8_0 + 1)))) none) none) (RET (-1))
def F100_l0 (k : Nat) (v : L_rng) : Nat → Int → Option (Int)
 | 0, _ => none
 | n + 1, x8_0 => F100_l0_T (F100_l0 k v n) some k v x8_0
theorem F100_l0_lp {β : Type} (k : Nat) (v : L_rng) (K : KT β) (n : Nat) : ∀ (x8_0 : Int), F100_l0_g k v K n x8_0 =
  (F100_l0 k v n x8_0).bind fun r => K (F100_r r) := by
 induction n with
 | zero => intros; rfl
 | succ n ih =>
  intro x8_0
  refine Eq.trans (b := F100_l0_T (F100_l0_g k v K n) (fun r => K (F100_r r)) k v x8_0) (by kernel_rfl) ?_
  rw [F100_l0]
  simp only [F100_l0_T, z1, z2, z3, z4, z5, ih]
def F100_T {β : Type} (LP0 : Int → Option β) (k : Nat) (v : L_rng) : Option β := LP0 0
def F100 (k : Nat) (v : L_rng) : Option (Int) := F100_T (F100_l0 k v k) k v
theorem F100_ev {β : Type} (k : Nat) (v : L_rng) (K : KT β) : evalF (F100_E k) Tryz.f100 (F100_a v) K = (F100 k v).bind fun r => K (F100_r r) :=
 Eq.trans (b := F100_T (F100_l0_g k v K k) k v) (by kernel_rfl) (by simp only [F100, F100_T, z1, z2, z3, z4, z5, F100_l0_lp])
theorem F100_tOk (k : Nat) : TabFn Tryz.prog (F100_t k) := .ent (F80_q k) F80_f (.none)
noncomputable def F100_p (k : Nat) : List Arg → Option CR := cleC F100_sh (F100 k) F100_r
theorem F100_q (k : Nat) : ∀ xs cr, F100_p k xs = some cr → Contract Tryz.prog 100 xs cr := cleC_ok fun x => con_of (envOk (F100_tOk k) _ _ _ _) mixed Tryz.func100 rfl rfl (F100_ev k _ some)
theorem F100_f : FnOk Tryz.prog 100 := .of (by kernel_rfl)
def F79_t (k : Nat) : Tab := entT 100 (F100_p k) <| noTab
abbrev F79_E (k : Nat) : Env := env (F79_t k) noHint .own [] k
abbrev F79_sh : List AK := [.one (.l (.sl .ro rng)), .one (.fn 80)]
noncomputable abbrev F79_a := arC F79_sh
def F79_r (r : Bool) : A × List (List Leaf) := (.one (vB r), [])
def F79 (k : Nat) (v : L_rng) : Option (Bool) := (F100 k v).bind fun b1 => some (decide (b1 ≥ 0))
theorem F79_ev {β : Type} (k : Nat) (v : L_rng) (K : KT β) : evalF (F79_E k) Tryz.f79 (F79_a v) K = (F79 k v).bind fun r => K (F79_r r) :=
 Eq.trans (b := (F100 k v).bind fun b1 => K (.one (vB (decide (b1 ≥ 0))), [])) (by kernel_rfl) (by simp only [F79, F79_r, z1, z2, z3, z4, z5])
theorem F79_tOk (k : Nat) : TabFn Tryz.prog (F79_t k) := .ent (F100_q k) F100_f (.none)
noncomputable def F79_p (k : Nat) : List Arg → Option CR := cleC F79_sh (F79 k) F79_r
theorem F79_q (k : Nat) : ∀ xs cr, F79_p k xs = some cr → Contract Tryz.prog 79 xs cr := cleC_ok fun x => con_of (envOk (F79_tOk k) _ _ _ _) mixed Tryz.func79 rfl rfl (F79_ev k _ some)
theorem F79_f : FnOk Tryz.prog 79 := .of (by kernel_rfl)
def F51_t (k : Nat) : Tab := entT 30 (F30_p k) <| entT 29 (F29_p k) <| entT 42 (F42_p k) <| entT 79 (F79_p k) <| noTab
abbrev F51_E (k : Nat) : Env := env (F51_t k) noHint .own [] k
abbrev F51_sh : List AK := [.agg sh4]
noncomputable abbrev F51_a := arC F51_sh
def F51_r (r : Bool) : A × List (List Leaf) := (.one (vB r), [])
def F51_T {β : Type} (RET : Bool → Option β) (k : Nat) (v0 v1 v2 v3 v4 : Int) (v5 v6 v7 v8 : Bool) (v9 : L_rng) (v10 : L_u8) : Option β := (F30 k v0).bind fun b1 => cond (!b1) (RET false) ((F30 k v1).bind fun b2 => cond (!b2) (RET false) ((F29 k v2).bind fun b3 => cond (!b3) (RET false) ((F29 k v3).bind fun b4 => cond (!b4) (RET false) ((F42 k v4 0 255).bind fun b5 => cond (!b5) (RET false) (cond (decide ((v9.length : Int) > 2)) (RET false) (cond (decide ((v10.length : Int) > 12)) (RET false) ((F79 k v9).bind fun b6 => cond b6 (RET false) (cond (!v6) (cond (v3 != 0) (RET false) (cond (v4 != 0) (RET false) (cond (decide ((v9.length : Int) > 0)) (RET false) (cond (!v8) (RET true) (cond (!v5) (cond (!v7) (RET ((v10.length : Int) == 0)) (RET false)) (RET false)))))) (cond (!v8) (RET true) (cond (!v5) (cond (!v7) (RET ((v10.length : Int) == 0)) (RET false)) (RET false)))))))))))
def F51 := F51_T (β := Bool) some
theorem F51_ev {β : Type} (k : Nat) (v0 v1 v2 v3 v4 : Int) (v5 v6 v7 v8 : Bool) (v9 : L_rng) (v10 : L_u8) (K : KT β) : evalF (F51_E k) Tryz.f51 (F51_a v0 v1 v2 v3 v4 v5 v6 v7 v8 v9 v10) K = (F51 k v0 v1 v2 v3 v4 v5 v6 v7 v8 v9 v10).bind fun r => K (F51_r r) :=
 Eq.trans (b := F51_T (fun r => K (F51_r r)) k v0 v1 v2 v3 v4 v5 v6 v7 v8 v9 v10) (by kernel_rfl) (by simp only [F51, F51_T, z1, z2, z3, z4, z5])
theorem F51_tOk (k : Nat) : TabFn Tryz.prog (F51_t k) := .ent (F30_q k) F30_f (.ent (F29_q k) F29_f (.ent (F42_q k) F42_f (.ent (F79_q k) F79_f (.none))))
noncomputable def F51_p (k : Nat) : List Arg → Option CR := cleC F51_sh (F51 k) F51_r
theorem F51_q (k : Nat) : ∀ xs cr, F51_p k xs = some cr → Contract Tryz.prog 51 xs cr := cleC_ok fun x => con_of (envOk (F51_tOk k) _ _ _ _) mixed Tryz.func51 rfl rfl (F51_ev k _ _ _ _ _ _ _ _ _ _ _ some)
theorem F51_f : FnOk Tryz.prog 51 := .of (by kernel_rfl)
def F14_h : Nat → Hint
 | 0 => ⟨pl 0 1 (pl 3 1 []), []⟩
 | _ => ⟨[], []⟩
def F14_t (k : Nat) : Tab := entT 51 (F51_p k) <| noTab
abbrev F14_E (k : Nat) : Env := env (F14_t k) F14_h .own [] k
abbrev F14_sh : List AK := [.one (.l (.sl .ro seg))]
noncomputable abbrev F14_a := arC F14_sh
def F14_r (r : Bool) : A × List (List Leaf) := (.one (vB r), [])
def F14_s0 (v : L_seg) (x3_0 : Int) : St := ⟨(.one (.s .ro seg v)) :: (.one .d) :: (.one .d) :: (.one (vI x3_0)) :: dz 12 [], []⟩
noncomputable abbrev F14_l0_g {β : Type} (k : Nat) (v : L_seg) (K : KT β) (n : Nat) (x3_0 : Int) : Option β := loopG (F14_E k) Tryz.f14 [1, 0, 1, 0] 0 (kontAt (F14_E k) [1, 0, 1, 0] (bodyOf Tryz.f14) 0 (endC (F14_E k) Tryz.f14 (F14_a v) K)) n (F14_s0 v x3_0)
def F14_l0_T {β : Type} (NX : Int → Option β) (RET : Bool → Option β) (k : Nat) (v : L_seg) (x3_0 : Int) : Option β := cond (decide (x3_0 < (v.length : Int))) (cond (decide (0 ≤ x3_0)) (cond (decide (x3_0 < (v.length : Int))) ((F51 k (atI v x3_0).1 (atI v x3_0).2.1 (Q2 (atI v x3_0)) (Q3 (atI v x3_0)) (Q4 (atI v x3_0)) (Q5 (atI v x3_0)) (Q6 (atI v x3_0)) (Q7 (atI v x3_0)) (Q8 (atI v x3_0)) (Q9 (atI v x3_0)) (R10 (atI v x3_0))).bind fun b1 => cond (!b1) (RET false) (NX (i64.wrap (x3_0 + 1)))) none) none) (RET true)
def F14_l0 (k : Nat) (v : L_seg) : Nat → Int → Option (Bool)
 | 0, _ => none
 | n + 1, x3_0 => F14_l0_T (F14_l0 k v n) some k v x3_0
theorem F14_l0_lp {β : Type} (k : Nat) (v : L_seg) (K : KT β) (n : Nat) : ∀ (x3_0 : Int), F14_l0_g k v K n x3_0 =
  (F14_l0 k v n x3_0).bind fun r => K (F14_r r) := by
 induction n with
 | zero => intros; rfl
 | succ n ih =>
  intro x3_0
  refine Eq.trans (b := F14_l0_T (F14_l0_g k v K n) (fun r => K (F14_r r)) k v x3_0) (by kernel_rfl) ?_
  rw [F14_l0]
  simp only [F14_l0_T, z1, z2, z3, z4, z5, ih]
def F14_T {β : Type} (LP0 : Int → Option β) (k : Nat) (v : L_seg) : Option β := LP0 0
def F14 (k : Nat) (v : L_seg) : Option (Bool) := F14_T (F14_l0 k v k) k v
theorem F14_ev {β : Type} (k : Nat) (v : L_seg) (K : KT β) : evalF (F14_E k) Tryz.f14 (F14_a v) K = (F14 k v).bind fun r => K (F14_r r) :=
 Eq.trans (b := F14_T (F14_l0_g k v K k) k v) (by kernel_rfl) (by simp only [F14, F14_T, z1, z2, z3, z4, z5, F14_l0_lp])
theorem F14_tOk (k : Nat) : TabFn Tryz.prog (F14_t k) := .ent (F51_q k) F51_f (.none)
noncomputable def F14_p (k : Nat) : List Arg → Option CR := cleC F14_sh (F14 k) F14_r
theorem F14_q (k : Nat) : ∀ xs cr, F14_p k xs = some cr → Contract Tryz.prog 14 xs cr := cleC_ok fun x => con_of (envOk (F14_tOk k) _ _ _ _) mixed Tryz.func14 rfl rfl (F14_ev k _ some)
theorem F14_f : FnOk Tryz.prog 14 := .of (by kernel_rfl)
abbrev F101_E (k : Nat) : Env := env noTab noHint .own [] k
abbrev F101_sh : List AK := [.one (.l (.nil)), .one (.l (.int .i64))]
noncomputable abbrev F101_a := arC F101_sh
def F101_r (r : L_u8) : A × List (List Leaf) := (.one (.s .own (.int .u8) r), [])
def F101_T {β : Type} (RET : L_u8 → Option β) (k : Nat) (w : Int) : Option β := cond (decide (w < 0)) none (cond (decide ((i64.wrap (w - 0)) > 0)) (cond (decide (0 ≤ 0) && decide (0 ≤ ((0 : Nat) : Int))) (cond (decide (0 < (i64.wrap (w - 0))) && decide ((i64.wrap (w - 0)) * (1 : Nat) ≤ 140737488355328)) (cond (decide (0 ≤ 0) && decide (0 ≤ ((List.replicate ((i64.wrap (w - 0)).toNat) (dflt (.int .u8))).length : Int))) (RET (((List.replicate ((i64.wrap (w - 0)).toNat) (dflt (.int .u8))).take 0).drop 0)) none) none) none) (RET []))
def F101 := F101_T (β := L_u8) some
theorem F101_ev {β : Type} (k : Nat) (w : Int) (K : KT β) : evalF (F101_E k) Tryz.f101 (F101_a w) K = (F101 k w).bind fun r => K (F101_r r) :=
 Eq.trans (b := F101_T (fun r => K (F101_r r)) k w) (by kernel_rfl) (by simp only [F101, F101_T, z1, z2, z3, z4, z5])
noncomputable def F101_p (k : Nat) : List Arg → Option CR := cleC F101_sh (F101 k) F101_r
theorem F101_q (k : Nat) : ∀ xs cr, F101_p k xs = some cr → Contract Tryz.prog 101 xs cr := cleC_ok fun x => con_of (envOk .none _ _ _ _) mixed Tryz.func101 rfl rfl (F101_ev k _ some)
theorem F101_f : FnOk Tryz.prog 101 := .of (by kernel_rfl)
def F81_h : Nat → Hint
 | 0 => ⟨pl 0 1 (pl 3 1 (pl 9 3 [])), []⟩
 | 2 => ⟨(6, .own .own (.int .u8) []) :: (pl 25 3 []), []⟩
 | _ => ⟨[], []⟩
def F81_t (k : Nat) : Tab := entT 101 (F101_p k) <| noTab
abbrev F81_E (k : Nat) : Env := env (F81_t k) F81_h .own [] k
abbrev F81_sh : List AK := [.one (.l (.sl .ro (.sl (.int .u8))))]
noncomputable abbrev F81_a := arC F81_sh
def F81_r (r : L_u8) : A × List (List Leaf) := (.one (.s .own (.int .u8) r), [])
def F81_s2 (v : L_sl4) (x27_2 : Int) (m6900_2 : L_u8) : St := ⟨dz 6 ((.one (.a (.cell 6900) 0 0 none)) :: dz 18 ((.one (.s .ro (.sl (.int .u8)) v)) :: (.one (vI (v.length : Int))) :: (.one (vI x27_2)) :: dz 8 [])), [eM 6900 (.s .own (.int .u8) m6900_2)]⟩
noncomputable abbrev F81_l2_g {β : Type} (k : Nat) (v : L_sl4) (K : KT β) (n : Nat) (x27_2 : Int) (m6900_2 : L_u8) : Option β := loopG (F81_E k) Tryz.f81 [1, 1, 1, 1, 0, 1, 0] 2 (kontAt (F81_E k) [1, 1, 1, 1, 0, 1, 0] (bodyOf Tryz.f81) 0 (endC (F81_E k) Tryz.f81 (F81_a v) K)) n (F81_s2 v x27_2 m6900_2)
def F81_l2_T {β : Type} (NX : Int → L_u8 → Option β) (RET : L_u8 → Option β) (k : Nat) (v : L_sl4) (x27_2 : Int) (m6900_2 : L_u8) : Option β := cond (decide (x27_2 < (v.length : Int))) (cond (decide (0 ≤ x27_2)) (cond (decide (x27_2 < (v.length : Int))) (cond (decide ((m6900_2.length + (atI v x27_2).length) * 1 ≤ 140737488355328)) (NX (i64.wrap (x27_2 + 1)) (m6900_2 ++ (atI v x27_2))) none) none) none) (RET m6900_2)
def F81_l2 (k : Nat) (v : L_sl4) : Nat → Int → L_u8 → Option (L_u8)
 | 0, _, _ => none
 | n + 1, x27_2, m6900_2 => F81_l2_T (F81_l2 k v n) some k v x27_2 m6900_2
theorem F81_l2_lp {β : Type} (k : Nat) (v : L_sl4) (K : KT β) (n : Nat) : ∀ (x27_2 : Int) (m6900_2 : L_u8), F81_l2_g k v K n x27_2 m6900_2 =
  (F81_l2 k v n x27_2 m6900_2).bind fun r => K (F81_r r) := by
 induction n with
 | zero => intros; rfl
 | succ n ih =>
  intro x27_2 m6900_2
  refine Eq.trans (b := F81_l2_T (F81_l2_g k v K n) (fun r => K (F81_r r)) k v x27_2 m6900_2) (by kernel_rfl) ?_
  rw [F81_l2]
  simp only [F81_l2_T, z1, z2, z3, z4, z5, ih]
def F81_s0 (v : L_sl4) (x3_0 x11_0 : Int) : St := ⟨(.one (.s .ro (.sl (.int .u8)) v)) :: (.one .d) :: (.one .d) :: (.one (vI x3_0)) :: dz 5 ((.one (.s .ro (.sl (.int .u8)) v)) :: (.one (vI (v.length : Int))) :: (.one (vI x11_0)) :: dz 24 []), []⟩
noncomputable abbrev F81_l0_g {β : Type} (k : Nat) (v : L_sl4) (K : KT β) (n : Nat) (x3_0 x11_0 : Int) : Option β := loopG (F81_E k) Tryz.f81 [1, 1, 0, 1, 0] 0 (kontAt (F81_E k) [1, 1, 0, 1, 0] (bodyOf Tryz.f81) 0 (endC (F81_E k) Tryz.f81 (F81_a v) K)) n (F81_s0 v x3_0 x11_0)
def F81_l0_T {β : Type} (NX : Int → Int → Option β) (LP2 : Int → L_u8 → Option β) (k : Nat) (v : L_sl4) (x3_0 x11_0 : Int) : Option β := cond (decide (x11_0 < (v.length : Int))) (cond (decide (0 ≤ x11_0)) (cond (decide (x11_0 < (v.length : Int))) (cond (decide ((i64.wrap (x3_0 + ((atI v x11_0).length : Int))) < 0)) none (NX (i64.wrap (x3_0 + ((atI v x11_0).length : Int))) (i64.wrap (x11_0 + 1)))) none) none) ((F101 k x3_0).bind fun b1 => LP2 0 b1)
def F81_l0 (k : Nat) (v : L_sl4) : Nat → Int → Int → Option (L_u8)
 | 0, _, _ => none
 | n + 1, x3_0, x11_0 => F81_l0_T (F81_l0 k v n) (F81_l2 k v k) k v x3_0 x11_0
theorem F81_l0_lp {β : Type} (k : Nat) (v : L_sl4) (K : KT β) (n : Nat) : ∀ (x3_0 x11_0 : Int), F81_l0_g k v K n x3_0 x11_0 =
  (F81_l0 k v n x3_0 x11_0).bind fun r => K (F81_r r) := by
 induction n with
 | zero => intros; rfl
 | succ n ih =>
  intro x3_0 x11_0
  refine Eq.trans (b := F81_l0_T (F81_l0_g k v K n) (F81_l2_g k v K k) k v x3_0 x11_0) (by kernel_rfl) ?_
  rw [F81_l0]
  simp only [F81_l0_T, z1, z2, z3, z4, z5, F81_l2_lp, ih]
def F81_T {β : Type} (LP0 : Int → Int → Option β) (k : Nat) (v : L_sl4) : Option β := LP0 0 0
def F81 (k : Nat) (v : L_sl4) : Option (L_u8) := F81_T (F81_l0 k v k) k v
theorem F81_ev {β : Type} (k : Nat) (v : L_sl4) (K : KT β) : evalF (F81_E k) Tryz.f81 (F81_a v) K = (F81 k v).bind fun r => K (F81_r r) :=
 Eq.trans (b := F81_T (F81_l0_g k v K k) k v) (by kernel_rfl) (by simp only [F81, F81_T, z1, z2, z3, z4, z5, F81_l0_lp])
theorem F81_tOk (k : Nat) : TabFn Tryz.prog (F81_t k) := .ent (F101_q k) F101_f (.none)
noncomputable def F81_p (k : Nat) : List Arg → Option CR := cleC F81_sh (F81 k) F81_r
theorem F81_q (k : Nat) : ∀ xs cr, F81_p k xs = some cr → Contract Tryz.prog 81 xs cr := cleC_ok fun x => con_of (envOk (F81_tOk k) _ _ _ _) mixed Tryz.func81 rfl rfl (F81_ev k _ some)
theorem F81_f : FnOk Tryz.prog 81 := .of (by kernel_rfl)
def F53_t (k : Nat) : Tab := entT 43 (F43_p k) <| entT 81 (F81_p k) <| entT 64 (F64_p k) <| noTab
abbrev F53_E (k : Nat) : Env := env (F53_t k) noHint .own [] k
abbrev F53_R : Type := Int × L_u8 × Int × Int × L_rng × Int
abbrev F53_sh : List AK := [.agg sh1, .one (.l (.sl .ro (.int .u8)))]
noncomputable abbrev F53_a := arC F53_sh
def F53_r (r : F53_R) : A × List (List Leaf) := (.tup [(true, [vI r.1, .s .own (.int .u8) r.2.1, vI (Q2 r), vI (Q3 r), .s .own rng (Q4 r)]), (false, [vI (R5 r)])], [])
def F53_T {β : Type} (RET : F53_R → Option β) (k : Nat) (v0 : Int) (v1 : L_u8) (v2 v3 : Int) (v4 : L_rng) (w : L_u8) : Option β := (F43 k v0 v1 v2 v3 v4).bind fun b1 => cond (!b1) (RET (0, [], 0, 0, [], 0)) (cond (decide (0 ≤ (if (i64.wrap (32 - (v1.length : Int))) < (w.length : Int) then i64.wrap (32 - (v1.length : Int)) else (w.length : Int))) && decide ((if (i64.wrap (32 - (v1.length : Int))) < (w.length : Int) then i64.wrap (32 - (v1.length : Int)) else (w.length : Int)) ≤ (w.length : Int))) ((F81 k [v1, w.take ((if (i64.wrap (32 - (v1.length : Int))) < (w.length : Int) then i64.wrap (32 - (v1.length : Int)) else (w.length : Int)).toNat)]).bind fun b2 => (F64 k v0 b2 v2 v3 v4).bind fun b3 => RET (b3.1, b3.2.1, (Q2 b3), (Q3 b3), (R4 b3), (if (i64.wrap (32 - (v1.length : Int))) < (w.length : Int) then i64.wrap (32 - (v1.length : Int)) else (w.length : Int)))) none)
def F53 := F53_T (β := F53_R) some
theorem F53_ev {β : Type} (k : Nat) (v0 : Int) (v1 : L_u8) (v2 v3 : Int) (v4 : L_rng) (w : L_u8) (K : KT β) : evalF (F53_E k) Tryz.f53 (F53_a v0 v1 v2 v3 v4 w) K = (F53 k v0 v1 v2 v3 v4 w).bind fun r => K (F53_r r) :=
 Eq.trans (b := F53_T (fun r => K (F53_r r)) k v0 v1 v2 v3 v4 w) (by kernel_rfl) (by simp only [F53, F53_T, z1, z2, z3, z4, z5])
theorem F53_tOk (k : Nat) : TabFn Tryz.prog (F53_t k) := .ent (F43_q k) F43_f (.ent (F81_q k) F81_f (.ent (F64_q k) F64_f (.none)))
noncomputable def F53_p (k : Nat) : List Arg → Option CR := cleC F53_sh (F53 k) F53_r
theorem F53_q (k : Nat) : ∀ xs cr, F53_p k xs = some cr → Contract Tryz.prog 53 xs cr := cleC_ok fun x => con_of (envOk (F53_tOk k) _ _ _ _) mixed Tryz.func53 rfl rfl (F53_ev k _ _ _ _ _ _ some)
theorem F53_f : FnOk Tryz.prog 53 := .of (by kernel_rfl)
def F82_t (k : Nat) : Tab := entT 90 (F90_p k) <| noTab
abbrev F82_E (k : Nat) : Env := env (F82_t k) noHint .own [(false, 0), (false, 1), (false, 2), (false, 3), (false, 4), (false, 5), (false, 6), (false, 7), (false, 8), (false, 9), (false, 10), (false, 11), (false, 12), (false, 13), (false, 14), (false, 15), (false, 16), (false, 17)] k
abbrev F82_R : Type := Int × L_u8 × Int × L_u8 × Int × Int × L_rng × Int × Int × L_u8 × L_erl × Bool × Bool × Bool × Int × Int × Int × Int × Int × Int
abbrev F82_sh : List AK := [.p sh7, .one (.l (.int .i64))]
noncomputable abbrev F82_a := arC F82_sh
def F82_r (r : F82_R) : A × List (List Leaf) := (.tup [(false, [vI r.1]), (false, [.s .own (.int .u8) r.2.1])], [[vI (Q2 r), .s .own (.int .u8) (Q3 r), vI (Q4 r), vI (Q5 r), .s .own rng (Q6 r), vI (Q7 r), vI (Q8 r), .s .own (.int .u8) (Q9 r), .s .own erl (Q10 r), vB (Q11 r), vB (Q12 r), vB (Q13 r), vI (Q14 r), vI (Q15 r), vI (Q16 r), vI (Q17 r), vI (Q18 r), vI (R19 r)]])
def F82_T {β : Type} (RET : F82_R → Option β) (k : Nat) (v0 : Int) (v1 : L_u8) (v2 v3 : Int) (v4 : L_rng) (v5 v6 : Int) (v7 : L_u8) (v8 : L_erl) (v9 v10 v11 : Bool) (v12 v13 v14 v15 v16 v17 w : Int) : Option β := cond (decide ((if (i64.wrap (v3 - v2)) < (if (i64.wrap ((v1.length : Int) - v2)) < w then i64.wrap ((v1.length : Int) - v2) else w) then i64.wrap (v3 - v2) else (if (i64.wrap ((v1.length : Int) - v2)) < w then i64.wrap ((v1.length : Int) - v2) else w)) ≤ 0)) (RET (i64.wrap (v0 + v2), [], v0, v1, v2, v3, v4, v5, v6, v7, v8, v9, v10, v11, v12, v13, v14, v15, v16, v17)) (cond (decide (0 ≤ (i64.wrap (v2 + (if (i64.wrap (v3 - v2)) < (if (i64.wrap ((v1.length : Int) - v2)) < w then i64.wrap ((v1.length : Int) - v2) else w) then i64.wrap (v3 - v2) else (if (i64.wrap ((v1.length : Int) - v2)) < w then i64.wrap ((v1.length : Int) - v2) else w))))) && decide ((i64.wrap (v2 + (if (i64.wrap (v3 - v2)) < (if (i64.wrap ((v1.length : Int) - v2)) < w then i64.wrap ((v1.length : Int) - v2) else w) then i64.wrap (v3 - v2) else (if (i64.wrap ((v1.length : Int) - v2)) < w then i64.wrap ((v1.length : Int) - v2) else w)))) ≤ (v1.length : Int))) (cond (decide (0 ≤ v2) && decide (v2 ≤ (i64.wrap (v2 + (if (i64.wrap (v3 - v2)) < (if (i64.wrap ((v1.length : Int) - v2)) < w then i64.wrap ((v1.length : Int) - v2) else w) then i64.wrap (v3 - v2) else (if (i64.wrap ((v1.length : Int) - v2)) < w then i64.wrap ((v1.length : Int) - v2) else w)))))) ((F90 k ((v1.take ((i64.wrap (v2 + (if (i64.wrap (v3 - v2)) < (if (i64.wrap ((v1.length : Int) - v2)) < w then i64.wrap ((v1.length : Int) - v2) else w) then i64.wrap (v3 - v2) else (if (i64.wrap ((v1.length : Int) - v2)) < w then i64.wrap ((v1.length : Int) - v2) else w)))).toNat)).drop v2.toNat)).bind fun b1 => RET (i64.wrap (v0 + v2), b1, v0, v1, i64.wrap (v2 + (if (i64.wrap (v3 - v2)) < (if (i64.wrap ((v1.length : Int) - v2)) < w then i64.wrap ((v1.length : Int) - v2) else w) then i64.wrap (v3 - v2) else (if (i64.wrap ((v1.length : Int) - v2)) < w then i64.wrap ((v1.length : Int) - v2) else w))), v3, v4, v5, v6, v7, v8, v9, v10, v11, v12, v13, v14, v15, v16, v17)) none) none)
def F82 := F82_T (β := F82_R) some
theorem F82_ev {β : Type} (k : Nat) (v0 : Int) (v1 : L_u8) (v2 v3 : Int) (v4 : L_rng) (v5 v6 : Int) (v7 : L_u8) (v8 : L_erl) (v9 v10 v11 : Bool) (v12 v13 v14 v15 v16 v17 w : Int) (K : KT β) : evalF (F82_E k) Tryz.f82 (F82_a v0 v1 v2 v3 v4 v5 v6 v7 v8 v9 v10 v11 v12 v13 v14 v15 v16 v17 w) K = (F82 k v0 v1 v2 v3 v4 v5 v6 v7 v8 v9 v10 v11 v12 v13 v14 v15 v16 v17 w).bind fun r => K (F82_r r) :=
 Eq.trans (b := F82_T (fun r => K (F82_r r)) k v0 v1 v2 v3 v4 v5 v6 v7 v8 v9 v10 v11 v12 v13 v14 v15 v16 v17 w) (by kernel_rfl) (by simp only [F82, F82_T, z1, z2, z3, z4, z5])
theorem F82_tOk (k : Nat) : TabFn Tryz.prog (F82_t k) := .ent (F90_q k) F90_f (.none)
noncomputable def F82_p (k : Nat) : List Arg → Option CR := cleC F82_sh (F82 k) F82_r
theorem F82_q (k : Nat) : ∀ xs cr, F82_p k xs = some cr → Contract Tryz.prog 82 xs cr := cleC_ok fun x => con_of (envOk (F82_tOk k) _ _ _ _) mixed Tryz.func82 rfl rfl (F82_ev k _ _ _ _ _ _ _ _ _ _ _ _ _ _ _ _ _ _ _ some)
theorem F82_f : FnOk Tryz.prog 82 := .of (by kernel_rfl)
def F54_h : Nat → Hint
 | 0 => ⟨pl 0 1 ((3, .own .own seg []) :: []), pl 0 24 []⟩
 | _ => ⟨[], []⟩
def F54_t (k : Nat) : Tab := entT 82 (F82_p k) <| entT 66 (F66_2_p k) <| noTab
abbrev F54_E (k : Nat) : Env := env (F54_t k) F54_h .own [(false, 0), (false, 1), (false, 2), (false, 3), (false, 4), (false, 5), (false, 6), (false, 7), (false, 8), (false, 9), (false, 10), (false, 11), (false, 12), (false, 13), (false, 14), (false, 15), (false, 16), (false, 17), (false, 18), (false, 19), (false, 20), (false, 21), (false, 22), (false, 23)] k
abbrev F54_R : Type := L_seg × Int × Int × Int × Int × Int × Int × Int × L_u8 × Int × Int × L_rng × Int × Int × L_u8 × L_erl × Bool × Bool × Bool × Int × Int × Int × Int × Int × Int
abbrev F54_sh : List AK := [.p sh5]
noncomputable abbrev F54_a := arC F54_sh
def F54_r (r : F54_R) : A × List (List Leaf) := (.one (.s .own seg r.1), [[vI r.2.1, vI (Q2 r), vI (Q3 r), vI (Q4 r), vI (Q5 r), vI (Q6 r), vI (Q7 r), .s .own (.int .u8) (Q8 r), vI (Q9 r), vI (Q10 r), .s .own rng (Q11 r), vI (Q12 r), vI (Q13 r), .s .own (.int .u8) (Q14 r), .s .own erl (Q15 r), vB (Q16 r), vB (Q17 r), vB (Q18 r), vI (Q19 r), vI (Q20 r), vI (Q21 r), vI (Q22 r), vI (Q23 r), vI (R24 r)]])
def F54_s0 (v0 v1 v2 v3 v4 v5 v6 : Int) (v7 : L_u8) (v8 v9 : Int) (v10 : L_rng) (v11 v12 : Int) (v13 : L_u8) (v14 : L_erl) (v15 v16 v17 : Bool) (v18 v19 v20 v21 v22 v23 : Int) (m6_0 : Int) (m7_0 : L_u8) (m8_0 m9_0 : Int) (m10_0 : L_rng) (m11_0 m12_0 : Int) (m13_0 : L_u8) (m14_0 : L_erl) (m15_0 m16_0 m17_0 : Bool) (m18_0 m19_0 m20_0 m21_0 m22_0 m23_0 : Int) (m3900_0 : L_seg) : St := ⟨(.one (.ptr (.cell 0) 24 0)) :: (.one .d) :: (.one .d) :: (.one (.a (.cell 3900) 0 0 none)) :: dz 27 [], [iM 0 v0, iM 1 v1, iM 2 v2, iM 3 v3, iM 4 v4, iM 5 v5, iM 6 m6_0, eM 7 (.s .own (.int .u8) m7_0), iM 8 m8_0, iM 9 m9_0, eM 10 (.s .own rng m10_0), iM 11 m11_0, iM 12 m12_0, eM 13 (.s .own (.int .u8) m13_0), eM 14 (.s .own erl m14_0), eM 15 (vB m15_0), eM 16 (vB m16_0), eM 17 (vB m17_0), iM 18 m18_0, iM 19 m19_0, iM 20 m20_0, iM 21 m21_0, iM 22 m22_0, iM 23 m23_0, eM 3900 (.s .own seg m3900_0)]⟩
noncomputable abbrev F54_l0_g {β : Type} (k : Nat) (v0 v1 v2 v3 v4 v5 v6 : Int) (v7 : L_u8) (v8 v9 : Int) (v10 : L_rng) (v11 v12 : Int) (v13 : L_u8) (v14 : L_erl) (v15 v16 v17 : Bool) (v18 v19 v20 v21 v22 v23 : Int) (K : KT β) (n : Nat) (m6_0 : Int) (m7_0 : L_u8) (m8_0 m9_0 : Int) (m10_0 : L_rng) (m11_0 m12_0 : Int) (m13_0 : L_u8) (m14_0 : L_erl) (m15_0 m16_0 m17_0 : Bool) (m18_0 m19_0 m20_0 m21_0 m22_0 m23_0 : Int) (m3900_0 : L_seg) : Option β := loopG (F54_E k) Tryz.f54 [1, 1, 0, 0] 0 (kontAt (F54_E k) [1, 1, 0, 0] (bodyOf Tryz.f54) 0 (endC (F54_E k) Tryz.f54 (F54_a v0 v1 v2 v3 v4 v5 v6 v7 v8 v9 v10 v11 v12 v13 v14 v15 v16 v17 v18 v19 v20 v21 v22 v23) K)) n (F54_s0 v0 v1 v2 v3 v4 v5 v6 v7 v8 v9 v10 v11 v12 v13 v14 v15 v16 v17 v18 v19 v20 v21 v22 v23 m6_0 m7_0 m8_0 m9_0 m10_0 m11_0 m12_0 m13_0 m14_0 m15_0 m16_0 m17_0 m18_0 m19_0 m20_0 m21_0 m22_0 m23_0 m3900_0)
def F54_l0_T {β : Type} (NX : Int → L_u8 → Int → Int → L_rng → Int → Int → L_u8 → L_erl → Bool → Bool → Bool → Int → Int → Int → Int → Int → Int → L_seg → Option β) (RET : F54_R → Option β) (k : Nat) (v0 v1 v2 v3 v4 v5 v6 : Int) (v7 : L_u8) (v8 v9 : Int) (v10 : L_rng) (v11 v12 : Int) (v13 : L_u8) (v14 : L_erl) (v15 v16 v17 : Bool) (v18 v19 v20 v21 v22 v23 : Int) (m6_0 : Int) (m7_0 : L_u8) (m8_0 m9_0 : Int) (m10_0 : L_rng) (m11_0 m12_0 : Int) (m13_0 : L_u8) (m14_0 : L_erl) (m15_0 m16_0 m17_0 : Bool) (m18_0 m19_0 m20_0 m21_0 m22_0 m23_0 : Int) (m3900_0 : L_seg) : Option β := cond (v0 == 4) ((F82 k m6_0 m7_0 m8_0 m9_0 m10_0 m11_0 m12_0 m13_0 m14_0 m15_0 m16_0 m17_0 m18_0 m19_0 m20_0 m21_0 m22_0 m23_0 12).bind fun b1 => cond ((b1.2.1.length : Int) == 0) (RET (m3900_0, v0, v1, v2, v3, v4, v5, (Q2 b1), (Q3 b1), (Q4 b1), (Q5 b1), (Q6 b1), (Q7 b1), (Q8 b1), (Q9 b1), (Q10 b1), (Q11 b1), (Q12 b1), (Q13 b1), (Q14 b1), (Q15 b1), (Q16 b1), (Q17 b1), (Q18 b1), (R19 b1))) ((F66_2 k v0 v1 v2 v3 v4 v5 (Q2 b1) (Q3 b1) (Q4 b1) (Q5 b1) (Q6 b1) (Q7 b1) (Q8 b1) (Q9 b1) (Q10 b1) (Q11 b1) (Q12 b1) (Q13 b1) (Q14 b1) (Q15 b1) (Q16 b1) (Q17 b1) (Q18 b1) (R19 b1) b1.1 b1.2.1).bind fun b2 => cond (decide ((m3900_0.length + [b2].length) * 96 ≤ 140737488355328)) (NX (Q2 b1) (Q3 b1) (Q4 b1) (Q5 b1) (Q6 b1) (Q7 b1) (Q8 b1) (Q9 b1) (Q10 b1) (Q11 b1) (Q12 b1) (Q13 b1) (Q14 b1) (Q15 b1) (Q16 b1) (Q17 b1) (Q18 b1) (R19 b1) (m3900_0 ++ [b2])) none)) (RET (m3900_0, v0, v1, v2, v3, v4, v5, m6_0, m7_0, m8_0, m9_0, m10_0, m11_0, m12_0, m13_0, m14_0, m15_0, m16_0, m17_0, m18_0, m19_0, m20_0, m21_0, m22_0, m23_0))
def F54_l0 (k : Nat) (v0 v1 v2 v3 v4 v5 v6 : Int) (v7 : L_u8) (v8 v9 : Int) (v10 : L_rng) (v11 v12 : Int) (v13 : L_u8) (v14 : L_erl) (v15 v16 v17 : Bool) (v18 v19 v20 v21 v22 v23 : Int) : Nat → Int → L_u8 → Int → Int → L_rng → Int → Int → L_u8 → L_erl → Bool → Bool → Bool → Int → Int → Int → Int → Int → Int → L_seg → Option (F54_R)
 | 0, _, _, _, _, _, _, _, _, _, _, _, _, _, _, _, _, _, _, _ => none
 | n + 1, m6_0, m7_0, m8_0, m9_0, m10_0, m11_0, m12_0, m13_0, m14_0, m15_0, m16_0, m17_0, m18_0, m19_0, m20_0, m21_0, m22_0, m23_0, m3900_0 => F54_l0_T (F54_l0 k v0 v1 v2 v3 v4 v5 v6 v7 v8 v9 v10 v11 v12 v13 v14 v15 v16 v17 v18 v19 v20 v21 v22 v23 n) some k v0 v1 v2 v3 v4 v5 v6 v7 v8 v9 v10 v11 v12 v13 v14 v15 v16 v17 v18 v19 v20 v21 v22 v23 m6_0 m7_0 m8_0 m9_0 m10_0 m11_0 m12_0 m13_0 m14_0 m15_0 m16_0 m17_0 m18_0 m19_0 m20_0 m21_0 m22_0 m23_0 m3900_0
theorem F54_l0_lp {β : Type} (k : Nat) (v0 v1 v2 v3 v4 v5 v6 : Int) (v7 : L_u8) (v8 v9 : Int) (v10 : L_rng) (v11 v12 : Int) (v13 : L_u8) (v14 : L_erl) (v15 v16 v17 : Bool) (v18 v19 v20 v21 v22 v23 : Int) (K : KT β) (n : Nat) : ∀ (m6_0 : Int) (m7_0 : L_u8) (m8_0 m9_0 : Int) (m10_0 : L_rng) (m11_0 m12_0 : Int) (m13_0 : L_u8) (m14_0 : L_erl) (m15_0 m16_0 m17_0 : Bool) (m18_0 m19_0 m20_0 m21_0 m22_0 m23_0 : Int) (m3900_0 : L_seg), F54_l0_g k v0 v1 v2 v3 v4 v5 v6 v7 v8 v9 v10 v11 v12 v13 v14 v15 v16 v17 v18 v19 v20 v21 v22 v23 K n m6_0 m7_0 m8_0 m9_0 m10_0 m11_0 m12_0 m13_0 m14_0 m15_0 m16_0 m17_0 m18_0 m19_0 m20_0 m21_0 m22_0 m23_0 m3900_0 =
  (F54_l0 k v0 v1 v2 v3 v4 v5 v6 v7 v8 v9 v10 v11 v12 v13 v14 v15 v16 v17 v18 v19 v20 v21 v22 v23 n m6_0 m7_0 m8_0 m9_0 m10_0 m11_0 m12_0 m13_0 m14_0 m15_0 m16_0 m17_0 m18_0 m19_0 m20_0 m21_0 m22_0 m23_0 m3900_0).bind fun r => K (F54_r r) := by
 induction n with
 | zero => intros; rfl
 | succ n ih =>
  intro m6_0 m7_0 m8_0 m9_0 m10_0 m11_0 m12_0 m13_0 m14_0 m15_0 m16_0 m17_0 m18_0 m19_0 m20_0 m21_0 m22_0 m23_0 m3900_0
  refine Eq.trans (b := F54_l0_T (F54_l0_g k v0 v1 v2 v3 v4 v5 v6 v7 v8 v9 v10 v11 v12 v13 v14 v15 v16 v17 v18 v19 v20 v21 v22 v23 K n) (fun r => K (F54_r r)) k v0 v1 v2 v3 v4 v5 v6 v7 v8 v9 v10 v11 v12 v13 v14 v15 v16 v17 v18 v19 v20 v21 v22 v23 m6_0 m7_0 m8_0 m9_0 m10_0 m11_0 m12_0 m13_0 m14_0 m15_0 m16_0 m17_0 m18_0 m19_0 m20_0 m21_0 m22_0 m23_0 m3900_0) (by kernel_rfl) ?_
  rw [F54_l0]
  simp only [F54_l0_T, z1, z2, z3, z4, z5, ih]
def F54_T {β : Type} (LP0 : Int → L_u8 → Int → Int → L_rng → Int → Int → L_u8 → L_erl → Bool → Bool → Bool → Int → Int → Int → Int → Int → Int → L_seg → Option β) (k : Nat) (v0 v1 v2 v3 v4 v5 v6 : Int) (v7 : L_u8) (v8 v9 : Int) (v10 : L_rng) (v11 v12 : Int) (v13 : L_u8) (v14 : L_erl) (v15 v16 v17 : Bool) (v18 v19 v20 v21 v22 v23 : Int) : Option β := LP0 v6 v7 v8 v9 v10 v11 v12 v13 v14 v15 v16 v17 v18 v19 v20 v21 v22 v23 []
def F54 (k : Nat) (v0 v1 v2 v3 v4 v5 v6 : Int) (v7 : L_u8) (v8 v9 : Int) (v10 : L_rng) (v11 v12 : Int) (v13 : L_u8) (v14 : L_erl) (v15 v16 v17 : Bool) (v18 v19 v20 v21 v22 v23 : Int) : Option (F54_R) := F54_T (F54_l0 k v0 v1 v2 v3 v4 v5 v6 v7 v8 v9 v10 v11 v12 v13 v14 v15 v16 v17 v18 v19 v20 v21 v22 v23 k) k v0 v1 v2 v3 v4 v5 v6 v7 v8 v9 v10 v11 v12 v13 v14 v15 v16 v17 v18 v19 v20 v21 v22 v23
theorem F54_ev {β : Type} (k : Nat) (v0 v1 v2 v3 v4 v5 v6 : Int) (v7 : L_u8) (v8 v9 : Int) (v10 : L_rng) (v11 v12 : Int) (v13 : L_u8) (v14 : L_erl) (v15 v16 v17 : Bool) (v18 v19 v20 v21 v22 v23 : Int) (K : KT β) : evalF (F54_E k) Tryz.f54 (F54_a v0 v1 v2 v3 v4 v5 v6 v7 v8 v9 v10 v11 v12 v13 v14 v15 v16 v17 v18 v19 v20 v21 v22 v23) K = (F54 k v0 v1 v2 v3 v4 v5 v6 v7 v8 v9 v10 v11 v12 v13 v14 v15 v16 v17 v18 v19 v20 v21 v22 v23).bind fun r => K (F54_r r) :=
 Eq.trans (b := F54_T (F54_l0_g k v0 v1 v2 v3 v4 v5 v6 v7 v8 v9 v10 v11 v12 v13 v14 v15 v16 v17 v18 v19 v20 v21 v22 v23 K k) k v0 v1 v2 v3 v4 v5 v6 v7 v8 v9 v10 v11 v12 v13 v14 v15 v16 v17 v18 v19 v20 v21 v22 v23) (by kernel_rfl) (by simp only [F54, F54_T, z1, z2, z3, z4, z5, F54_l0_lp])
theorem F54_tOk (k : Nat) : TabFn Tryz.prog (F54_t k) := .ent (F82_q k) F82_f (.ent (F66_2_q k) F66_f (.none))
noncomputable def F54_p (k : Nat) : List Arg → Option CR := cleC F54_sh (F54 k) F54_r
theorem F54_q (k : Nat) : ∀ xs cr, F54_p k xs = some cr → Contract Tryz.prog 54 xs cr := cleC_ok fun x => con_of (envOk (F54_tOk k) _ _ _ _) mixed Tryz.func54 rfl rfl (F54_ev k _ _ _ _ _ _ _ _ _ _ _ _ _ _ _ _ _ _ _ _ _ _ _ _ some)
theorem F54_f : FnOk Tryz.prog 54 := .of (by kernel_rfl)
abbrev F83_E (k : Nat) : Env := env noTab noHint .own [] k
abbrev F83_sh : List AK := [.one (.l (.sl .sown seg))]
noncomputable abbrev F83_a := arC F83_sh
def F83_r (r : L_seg) : A × List (List Leaf) := (.one (.s .sown seg r), [])
def F83_T {β : Type} (RET : L_seg → Option β) (k : Nat) (v : L_seg) : Option β := cond (decide (0 ≤ (v.length : Int)) && decide ((v.length : Int) ≤ (v.length : Int))) (cond (decide ((v.length : Int) = (v.length : Int))) (RET ((v.take ((v.length : Int).toNat)).drop 0)) none) none
def F83 := F83_T (β := L_seg) some
theorem F83_ev {β : Type} (k : Nat) (v : L_seg) (K : KT β) : evalF (F83_E k) Tryz.f83 (F83_a v) K = (F83 k v).bind fun r => K (F83_r r) :=
 Eq.trans (b := F83_T (fun r => K (F83_r r)) k v) (by kernel_rfl) (by simp only [F83, F83_T, z1, z2, z3, z4, z5])
noncomputable def F83_p (k : Nat) : List Arg → Option CR := cleC F83_sh (F83 k) F83_r
theorem F83_q (k : Nat) : ∀ xs cr, F83_p k xs = some cr → Contract Tryz.prog 83 xs cr := cleC_ok fun x => con_of (envOk .none _ _ _ _) mixed Tryz.func83 rfl rfl (F83_ev k _ some)
theorem F83_f : FnOk Tryz.prog 83 := .of (by kernel_rfl)
def F55_t (k : Nat) : Tab := entT 83 (F83_p k) <| noTab
abbrev F55_E (k : Nat) : Env := env (F55_t k) noHint .ro [] k
abbrev F55_sh : List AK := [.one (.l (.sl .ro seg))]
noncomputable abbrev F55_a := arC F55_sh
def F55_r (r : L_seg) : A × List (List Leaf) := (.one (.s .ro seg r), [])
def F55_T {β : Type} (RET : L_seg → Option β) (k : Nat) (v : L_seg) : Option β := cond ((v.length : Int) == 0) (RET []) (cond (decide ((([] : L_seg).length + v.length) * 96 ≤ 140737488355328)) ((F83 k ([] ++ v)).bind fun b1 => RET b1) none)
def F55 := F55_T (β := L_seg) some
theorem F55_ev {β : Type} (k : Nat) (v : L_seg) (K : KT β) : evalF (F55_E k) Tryz.f55 (F55_a v) K = (F55 k v).bind fun r => K (F55_r r) :=
 Eq.trans (b := F55_T (fun r => K (F55_r r)) k v) (by kernel_rfl) (by simp only [F55, F55_T, z1, z2, z3, z4, z5])
theorem F55_tOk (k : Nat) : TabFn Tryz.prog (F55_t k) := .ent (F83_q k) F83_f (.none)
noncomputable def F55_p (k : Nat) : List Arg → Option CR := cleC F55_sh (F55 k) F55_r
theorem F55_q (k : Nat) : ∀ xs cr, F55_p k xs = some cr → Contract Tryz.prog 55 xs cr := cleC_ok fun x => con_of (envOk (F55_tOk k) _ _ _ _) mixed Tryz.func55 rfl rfl (F55_ev k _ some)
theorem F55_f : FnOk Tryz.prog 55 := .of (by kernel_rfl)
def F16_t (k : Nat) : Tab := entT 28 (F28_p k) <| entT 31 (F31_p k) <| entT 53 (F53_p k) <| entT 54 (F54_p k) <| entT 32 (F32_p k) <| entT 55 (F55_p k) <| noTab
abbrev F16_E (k : Nat) : Env := env (F16_t k) noHint .ro [] k
abbrev F16_R : Type := Int × Int × Int × Int × Int × Int × Int × L_u8 × Int × Int × L_rng × Int × Int × L_u8 × L_erl × Bool × Bool × Bool × Int × Int × Int × Int × Int × Int × Int × L_seg
abbrev F16_sh : List AK := [.agg sh3, .one (.l (.sl .ro (.int .u8))), .one (.l (.int .i64))]
noncomputable abbrev F16_a := arC F16_sh
def F16_r (r : F16_R) : A × List (List Leaf) := (.tup [(true, [vI r.1, vI r.2.1, vI (Q2 r), vI (Q3 r), vI (Q4 r), vI (Q5 r), vI (Q6 r), .s .ro (.int .u8) (Q7 r), vI (Q8 r), vI (Q9 r), .s .ro rng (Q10 r), vI (Q11 r), vI (Q12 r), .s .ro (.int .u8) (Q13 r), .s .ro erl (Q14 r), vB (Q15 r), vB (Q16 r), vB (Q17 r), vI (Q18 r), vI (Q19 r), vI (Q20 r), vI (Q21 r), vI (Q22 r), vI (Q23 r)]), (false, [vI (Q24 r)]), (false, [.s .ro seg (R24 r).2])], [])
def F16_j1 {β : Type} (k : Nat) (v0 v1 v2 v3 v4 v5 v6 : Int) (v7 : L_u8) (v8 v9 : Int) (v10 : L_rng) (v11 v12 : Int) (v13 : L_u8) (v14 : L_erl) (v15 v16 v17 : Bool) (v18 v19 v20 v21 v22 v23 : Int) (w : L_u8) (p : Int) (RET : F16_R → Option β) (b2 : F31_R) : Option β := cond (v0 != 4) (RET (b2.1, b2.2.1, (Q2 b2), (Q3 b2), (Q4 b2), (Q5 b2), (Q6 b2), (Q7 b2), (Q8 b2), (Q9 b2), (Q10 b2), (Q11 b2), (Q12 b2), (Q13 b2), (Q14 b2), (Q15 b2), (Q16 b2), (Q17 b2), (Q18 b2), (Q19 b2), (Q20 b2), (Q21 b2), (Q22 b2), (R23 b2), 0, [])) ((F54 k b2.1 b2.2.1 (Q2 b2) (Q3 b2) (Q4 b2) (Q5 b2) (Q6 b2) (Q7 b2) (Q8 b2) (Q9 b2) (Q10 b2) (Q11 b2) (Q12 b2) (Q13 b2) (Q14 b2) (Q15 b2) (Q16 b2) (Q17 b2) (Q18 b2) (Q19 b2) (Q20 b2) (Q21 b2) (Q22 b2) (R23 b2)).bind fun b7 => (F32 k b7.2.1 (Q2 b7) (Q3 b7) (Q4 b7) (Q5 b7) (Q6 b7) (Q7 b7) (Q8 b7) (Q9 b7) (Q10 b7) (Q11 b7) (Q12 b7) (Q13 b7) (Q14 b7) (Q15 b7) (Q16 b7) (Q17 b7) (Q18 b7) (Q19 b7) (Q20 b7) (Q21 b7) (Q22 b7) (Q23 b7) (R24 b7) p).bind fun b8 => (F55 k b7.1).bind fun b9 => RET (b8.1, b8.2.1, (Q2 b8), (Q3 b8), (Q4 b8), (Q5 b8), (Q6 b8), (Q7 b8), (Q8 b8), (Q9 b8), (Q10 b8), (Q11 b8), (Q12 b8), (Q13 b8), (Q14 b8), (Q15 b8), (Q16 b8), (Q17 b8), (Q18 b8), (Q19 b8), (Q20 b8), (Q21 b8), (Q22 b8), (R23 b8), 0, b9))
def F16_T {β : Type} (RET : F16_R → Option β) (k : Nat) (v0 v1 v2 v3 v4 v5 v6 : Int) (v7 : L_u8) (v8 v9 : Int) (v10 : L_rng) (v11 v12 : Int) (v13 : L_u8) (v14 : L_erl) (v15 v16 v17 : Bool) (v18 v19 v20 v21 v22 v23 : Int) (w : L_u8) (p : Int) : Option β := (F28 k v0 v1 v2 v3 v4 v5 v6 v7 v8 v9 v10 v11 v12 v13 v14 v15 v16 v17 v18 v19 v20 v21 v22 v23 p).bind fun b1 => cond (!b1) (RET (0, 0, 0, 0, 0, 0, 0, [], 0, 0, [], 0, 0, [], [], false, false, false, 0, 0, 0, 0, 0, 0, 0, [])) ((F31 k v0 v1 v2 v3 v4 v5 v6 v7 v8 v9 v10 v11 v12 v13 v14 v15 v16 v17 v18 v19 v20 v21 v22 v23).bind fun b2 => cond (!v15) (cond (v0 != 5) ((F53 k (Q6 b2) (Q7 b2) (Q8 b2) (Q9 b2) (Q10 b2) w).bind fun b3 => cond (v0 != 4) (RET (b2.1, b2.2.1, (Q2 b2), (Q3 b2), (Q4 b2), (Q5 b2), b3.1, b3.2.1, (Q2 b3), (Q3 b3), (Q4 b3), (Q11 b2), (Q12 b2), (Q13 b2), (Q14 b2), (Q15 b2), (Q16 b2), (Q17 b2), (Q18 b2), (Q19 b2), (Q20 b2), (Q21 b2), (Q22 b2), (R23 b2), (R5 b3), [])) ((F54 k b2.1 b2.2.1 (Q2 b2) (Q3 b2) (Q4 b2) (Q5 b2) b3.1 b3.2.1 (Q2 b3) (Q3 b3) (Q4 b3) (Q11 b2) (Q12 b2) (Q13 b2) (Q14 b2) (Q15 b2) (Q16 b2) (Q17 b2) (Q18 b2) (Q19 b2) (Q20 b2) (Q21 b2) (Q22 b2) (R23 b2)).bind fun b4 => (F32 k b4.2.1 (Q2 b4) (Q3 b4) (Q4 b4) (Q5 b4) (Q6 b4) (Q7 b4) (Q8 b4) (Q9 b4) (Q10 b4) (Q11 b4) (Q12 b4) (Q13 b4) (Q14 b4) (Q15 b4) (Q16 b4) (Q17 b4) (Q18 b4) (Q19 b4) (Q20 b4) (Q21 b4) (Q22 b4) (Q23 b4) (R24 b4) p).bind fun b5 => (F55 k b4.1).bind fun b6 => RET (b5.1, b5.2.1, (Q2 b5), (Q3 b5), (Q4 b5), (Q5 b5), (Q6 b5), (Q7 b5), (Q8 b5), (Q9 b5), (Q10 b5), (Q11 b5), (Q12 b5), (Q13 b5), (Q14 b5), (Q15 b5), (Q16 b5), (Q17 b5), (Q18 b5), (Q19 b5), (Q20 b5), (Q21 b5), (Q22 b5), (R23 b5), (R5 b3), b6))) (F16_j1 k v0 v1 v2 v3 v4 v5 v6 v7 v8 v9 v10 v11 v12 v13 v14 v15 v16 v17 v18 v19 v20 v21 v22 v23 w p RET b2)) (F16_j1 k v0 v1 v2 v3 v4 v5 v6 v7 v8 v9 v10 v11 v12 v13 v14 v15 v16 v17 v18 v19 v20 v21 v22 v23 w p RET b2))
def F16 := F16_T (β := F16_R) some
theorem F16_ev {β : Type} (k : Nat) (v0 v1 v2 v3 v4 v5 v6 : Int) (v7 : L_u8) (v8 v9 : Int) (v10 : L_rng) (v11 v12 : Int) (v13 : L_u8) (v14 : L_erl) (v15 v16 v17 : Bool) (v18 v19 v20 v21 v22 v23 : Int) (w : L_u8) (p : Int) (K : KT β) : evalF (F16_E k) Tryz.f16 (F16_a v0 v1 v2 v3 v4 v5 v6 v7 v8 v9 v10 v11 v12 v13 v14 v15 v16 v17 v18 v19 v20 v21 v22 v23 w p) K = (F16 k v0 v1 v2 v3 v4 v5 v6 v7 v8 v9 v10 v11 v12 v13 v14 v15 v16 v17 v18 v19 v20 v21 v22 v23 w p).bind fun r => K (F16_r r) :=
 Eq.trans (b := F16_T (fun r => K (F16_r r)) k v0 v1 v2 v3 v4 v5 v6 v7 v8 v9 v10 v11 v12 v13 v14 v15 v16 v17 v18 v19 v20 v21 v22 v23 w p) (by kernel_rfl) (by simp only [F16, F16_T, F16_j1, z1, z2, z3, z4, z5])
theorem F16_tOk (k : Nat) : TabFn Tryz.prog (F16_t k) := .ent (F28_q k) F28_f (.ent (F31_q k) F31_f (.ent (F53_q k) F53_f (.ent (F54_q k) F54_f (.ent (F32_q k) F32_f (.ent (F55_q k) F55_f (.none))))))
noncomputable def F16_p (k : Nat) : List Arg → Option CR := cleC F16_sh (F16 k) F16_r
theorem F16_q (k : Nat) : ∀ xs cr, F16_p k xs = some cr → Contract Tryz.prog 16 xs cr := cleC_ok fun x => con_of (envOk (F16_tOk k) _ _ _ _) mixed Tryz.func16 rfl rfl (F16_ev k _ _ _ _ _ _ _ _ _ _ _ _ _ _ _ _ _ _ _ _ _ _ _ _ _ _ some)
theorem F16_f : FnOk Tryz.prog 16 := .of (by kernel_rfl)
def F21_t (k : Nat) : Tab := entT 28 (F28_p k) <| entT 31 (F31_p k) <| entT 32 (F32_p k) <| entT 59 (F59_p k) <| noTab
abbrev F21_E (k : Nat) : Env := env (F21_t k) noHint .own [] k
abbrev F21_R : Type := Int × Int × Int × Int × Int × Int × Int × L_u8 × Int × Int × L_rng × Int × Int × L_u8 × L_erl × Bool × Bool × Bool × Int × Int × Int × Int × Int × Int × L_seg
abbrev F21_sh : List AK := [.agg sh3, .one (.l (.int .i64))]
noncomputable abbrev F21_a := arC F21_sh
def F21_r (r : F21_R) : A × List (List Leaf) := (.tup [(true, [vI r.1, vI r.2.1, vI (Q2 r), vI (Q3 r), vI (Q4 r), vI (Q5 r), vI (Q6 r), .s .own (.int .u8) (Q7 r), vI (Q8 r), vI (Q9 r), .s .own rng (Q10 r), vI (Q11 r), vI (Q12 r), .s .own (.int .u8) (Q13 r), .s .own erl (Q14 r), vB (Q15 r), vB (Q16 r), vB (Q17 r), vI (Q18 r), vI (Q19 r), vI (Q20 r), vI (Q21 r), vI (Q22 r), vI (Q23 r)]), (false, [.s .own seg (R24 r)])], [])
def F21_j1 {β : Type} (k : Nat) (v0 v1 v2 v3 v4 v5 v6 : Int) (v7 : L_u8) (v8 v9 : Int) (v10 : L_rng) (v11 v12 : Int) (v13 : L_u8) (v14 : L_erl) (v15 v16 v17 : Bool) (v18 v19 v20 v21 v22 v23 w : Int) (RET : F21_R → Option β) (b2 : F31_R) : Option β := (F32 k b2.1 b2.2.1 (Q2 b2) (Q3 b2) (Q4 b2) (Q5 b2) (Q6 b2) (Q7 b2) (Q8 b2) (Q9 b2) (Q10 b2) (Q11 b2) (Q12 b2) (Q13 b2) (Q14 b2) true (Q16 b2) (Q17 b2) (Q18 b2) (Q19 b2) (Q20 b2) (Q21 b2) (Q22 b2) (R23 b2) w).bind fun b3 => RET (b3.1, b3.2.1, (Q2 b3), (Q3 b3), (Q4 b3), (Q5 b3), (Q6 b3), (Q7 b3), (Q8 b3), (Q9 b3), (Q10 b3), (Q11 b3), (Q12 b3), (Q13 b3), (Q14 b3), (Q15 b3), (Q16 b3), (Q17 b3), (Q18 b3), (Q19 b3), (Q20 b3), (Q21 b3), (Q22 b3), (R23 b3), [])
def F21_T {β : Type} (RET : F21_R → Option β) (k : Nat) (v0 v1 v2 v3 v4 v5 v6 : Int) (v7 : L_u8) (v8 v9 : Int) (v10 : L_rng) (v11 v12 : Int) (v13 : L_u8) (v14 : L_erl) (v15 v16 v17 : Bool) (v18 v19 v20 v21 v22 v23 w : Int) : Option β := (F28 k v0 v1 v2 v3 v4 v5 v6 v7 v8 v9 v10 v11 v12 v13 v14 v15 v16 v17 v18 v19 v20 v21 v22 v23 w).bind fun b1 => cond (!b1) (RET (0, 0, 0, 0, 0, 0, 0, [], 0, 0, [], 0, 0, [], [], false, false, false, 0, 0, 0, 0, 0, 0, [])) ((F31 k v0 v1 v2 v3 v4 v5 v6 v7 v8 v9 v10 v11 v12 v13 v14 v15 v16 v17 v18 v19 v20 v21 v22 v23).bind fun b2 => cond (v0 != 4) (F21_j1 k v0 v1 v2 v3 v4 v5 v6 v7 v8 v9 v10 v11 v12 v13 v14 v15 v16 v17 v18 v19 v20 v21 v22 v23 w RET b2) (cond v16 (F21_j1 k v0 v1 v2 v3 v4 v5 v6 v7 v8 v9 v10 v11 v12 v13 v14 v15 v16 v17 v18 v19 v20 v21 v22 v23 w RET b2) (cond (v8 != (v7.length : Int)) (F21_j1 k v0 v1 v2 v3 v4 v5 v6 v7 v8 v9 v10 v11 v12 v13 v14 v15 v16 v17 v18 v19 v20 v21 v22 v23 w RET b2) ((F32 k b2.1 b2.2.1 (Q2 b2) (Q3 b2) (Q4 b2) (Q5 b2) (Q6 b2) (Q7 b2) (Q8 b2) (Q9 b2) (Q10 b2) (Q11 b2) (Q12 b2) (Q13 b2) (Q14 b2) true true (Q17 b2) (Q18 b2) (Q19 b2) (Q20 b2) (Q21 b2) (Q22 b2) (R23 b2) w).bind fun b6 => (F59 k b6.1 b6.2.1 (Q2 b6) (Q3 b6) (Q4 b6) (Q5 b6) (Q6 b6) (Q7 b6) (Q8 b6) (Q9 b6) (Q10 b6) (Q11 b6) (Q12 b6) (Q13 b6) (Q14 b6) (Q15 b6) (Q16 b6) (Q17 b6) (Q18 b6) (Q19 b6) (Q20 b6) (Q21 b6) (Q22 b6) (R23 b6)).bind fun b7 => RET (b6.1, b6.2.1, (Q2 b6), (Q3 b6), (Q4 b6), (Q5 b6), (Q6 b6), (Q7 b6), (Q8 b6), (Q9 b6), (Q10 b6), (Q11 b6), (Q12 b6), (Q13 b6), (Q14 b6), (Q15 b6), (Q16 b6), (Q17 b6), (Q18 b6), (Q19 b6), (Q20 b6), (Q21 b6), (Q22 b6), (R23 b6), [b7])))))
def F21 := F21_T (β := F21_R) some
theorem F21_ev {β : Type} (k : Nat) (v0 v1 v2 v3 v4 v5 v6 : Int) (v7 : L_u8) (v8 v9 : Int) (v10 : L_rng) (v11 v12 : Int) (v13 : L_u8) (v14 : L_erl) (v15 v16 v17 : Bool) (v18 v19 v20 v21 v22 v23 w : Int) (K : KT β) : evalF (F21_E k) Tryz.f21 (F21_a v0 v1 v2 v3 v4 v5 v6 v7 v8 v9 v10 v11 v12 v13 v14 v15 v16 v17 v18 v19 v20 v21 v22 v23 w) K = (F21 k v0 v1 v2 v3 v4 v5 v6 v7 v8 v9 v10 v11 v12 v13 v14 v15 v16 v17 v18 v19 v20 v21 v22 v23 w).bind fun r => K (F21_r r) :=
 Eq.trans (b := F21_T (fun r => K (F21_r r)) k v0 v1 v2 v3 v4 v5 v6 v7 v8 v9 v10 v11 v12 v13 v14 v15 v16 v17 v18 v19 v20 v21 v22 v23 w) (by kernel_rfl) (by simp only [F21, F21_T, F21_j1, z1, z2, z3, z4, z5])
theorem F21_tOk (k : Nat) : TabFn Tryz.prog (F21_t k) := .ent (F28_q k) F28_f (.ent (F31_q k) F31_f (.ent (F32_q k) F32_f (.ent (F59_q k) F59_f (.none))))
noncomputable def F21_p (k : Nat) : List Arg → Option CR := cleC F21_sh (F21 k) F21_r
theorem F21_q (k : Nat) : ∀ xs cr, F21_p k xs = some cr → Contract Tryz.prog 21 xs cr := cleC_ok fun x => con_of (envOk (F21_tOk k) _ _ _ _) mixed Tryz.func21 rfl rfl (F21_ev k _ _ _ _ _ _ _ _ _ _ _ _ _ _ _ _ _ _ _ _ _ _ _ _ _ some)
theorem F21_f : FnOk Tryz.prog 21 := .of (by kernel_rfl)
end
end Go.Proofs.YtgbmdojleednhaaGreat.Gn
end

section
set_option linter.unusedVariables false
set_option linter.unusedSimpArgs false
namespace Go.Proofs.YtgbmdojleednhaaGreat.Gn
open Go.Rf IntKind
noncomputable section
def F62_h : Nat → Hint
 | 0 => ⟨pl 0 1 (pl 2 2 (pl 6 2 ((8, .own .sown seg []) :: (9, .own .sown seg []) :: (pl 11 1 [])))), pl 0 2 (pl 2000 24 (pl 3000 24 (pl 6000 7 ((6007, .ro (.int .u8)) :: (pl 6008 2 ((6010, .ro rng) :: (pl 6011 2 ((6013, .ro (.int .u8)) :: (6014, .ro erl) :: (pl 6015 9 (pl 7000 7 ((7007, .ro (.int .u8)) :: (pl 7008 2 ((7010, .ro rng) :: (pl 7011 2 ((7013, .ro (.int .u8)) :: (7014, .ro erl) :: (pl 7015 9 (pl 33007 1 (pl 33010 1 (pl 33013 2 [])))))))))))))))))))⟩
 | _ => ⟨[], []⟩
def F62_t (k : Nat) : Tab := entT 26 (F26_p k) <| entT 24 (F24_p k) <| entT 86 (F86_p k) <| entT 8 (F8_p k) <| entT 52 (F52_p k) <| entT 17 (F17_p k) <| entT 87 (F87_p k) <| entT 88 (F88_p k) <| entT 22 (F22_p k) <| entT 89 (F89_p k) <| noTab
abbrev F62_E (k : Nat) : Env := { env (F62_t k) F62_h .own [(false, 0), (false, 1)] k with frz := [169, 69] }
abbrev F62_R : Type := Int × Int × Int × Int × Int × Int × Int × L_u8 × Int × Int × L_rng × Int × Int × L_u8 × L_erl × Bool × Bool × Bool × Int × Int × Int × Int × Int × Int × Int × Int × Int × Int × Int × Int × Int × L_u8 × Int × Int × L_rng × Int × Int × L_u8 × L_erl × Bool × Bool × Bool × Int × Int × Int × Int × Int × Int × L_seg × L_seg × L_u8 × Int
abbrev F62_sh : List AK := [.p [.sl .ro (.int .u8), .int .i64]]
noncomputable abbrev F62_a := arC F62_sh
def F62_r (r : F62_R) : A × List (List Leaf) := (.tup [(true, [vI r.1, vI r.2.1, vI (Q2 r), vI (Q3 r), vI (Q4 r), vI (Q5 r), vI (Q6 r), .s .ro (.int .u8) (Q7 r), vI (Q8 r), vI (Q9 r), .s .ro rng (Q10 r), vI (Q11 r), vI (Q12 r), .s .ro (.int .u8) (Q13 r), .s .ro erl (Q14 r), vB (Q15 r), vB (Q16 r), vB (Q17 r), vI (Q18 r), vI (Q19 r), vI (Q20 r), vI (Q21 r), vI (Q22 r), vI (Q23 r)]), (true, [vI (Q24 r), vI (R24 r).2.1, vI (Q2 (R24 r)), vI (Q3 (R24 r)), vI (Q4 (R24 r)), vI (Q5 (R24 r)), vI (Q6 (R24 r)), .s .ro (.int .u8) (Q7 (R24 r)), vI (Q8 (R24 r)), vI (Q9 (R24 r)), .s .ro rng (Q10 (R24 r)), vI (Q11 (R24 r)), vI (Q12 (R24 r)), .s .ro (.int .u8) (Q13 (R24 r)), .s .ro erl (Q14 (R24 r)), vB (Q15 (R24 r)), vB (Q16 (R24 r)), vB (Q17 (R24 r)), vI (Q18 (R24 r)), vI (Q19 (R24 r)), vI (Q20 (R24 r)), vI (Q21 (R24 r)), vI (Q22 (R24 r)), vI (Q23 (R24 r))]), (false, [.s .sown seg (Q24 (R24 r))]), (false, [.s .sown seg (R24 (R24 r)).2.1])], [[.s .ro (.int .u8) (Q2 (R24 (R24 r))), vI (R3 (R24 (R24 r)))]])
def F62_s0 (v0 : L_u8) (v1 : Int) (x11_0 : Int) (m0_0 : L_u8) (m1_0 m6000_0 m6001_0 m6002_0 m6003_0 m6004_0 m6005_0 m6006_0 : Int) (m6007_0 : L_u8) (m6008_0 m6009_0 : Int) (m6010_0 : L_rng) (m6011_0 m6012_0 : Int) (m6013_0 : L_u8) (m6014_0 : L_erl) (m6015_0 m6016_0 m6017_0 : Bool) (m6018_0 m6019_0 m6020_0 m6021_0 m6022_0 m6023_0 m7000_0 m7001_0 m7002_0 m7003_0 m7004_0 m7005_0 m7006_0 : Int) (m7007_0 : L_u8) (m7008_0 m7009_0 : Int) (m7010_0 : L_rng) (m7011_0 m7012_0 : Int) (m7013_0 : L_u8) (m7014_0 : L_erl) (m7015_0 m7016_0 m7017_0 : Bool) (m7018_0 m7019_0 m7020_0 m7021_0 m7022_0 m7023_0 : Int) (m8900_0 m9900_0 : L_seg) : St := ⟨(.one (.ptr (.cell 0) 2 0)) :: (.one .d) :: (.one (.ptr (.cell 2000) 24 0)) :: (.one (.ptr (.cell 3000) 24 0)) :: (.one .d) :: (.one .d) :: (.one (.ptr (.cell 6000) 24 0)) :: (.one (.ptr (.cell 7000) 24 0)) :: (.one (.a (.cell 8900) 0 0 none)) :: (.one (.a (.cell 9900) 0 0 none)) :: (.one .d) :: (.one (vI x11_0)) :: dz 171 [], [eM 0 (.s .ro (.int .u8) m0_0), iM 1 m1_0, iM 2000 0, iM 2001 0, iM 2002 0, iM 2003 0, iM 2004 0, iM 2005 0, iM 2006 0, eM 2007 (.s .own (.int .u8) []), iM 2008 0, iM 2009 0, eM 2010 (.s .own rng []), iM 2011 0, iM 2012 0, eM 2013 (.s .own (.int .u8) []), eM 2014 (.s .own erl []), eM 2015 (vB false), eM 2016 (vB false), eM 2017 (vB false), iM 2018 0, iM 2019 0, iM 2020 0, iM 2021 0, iM 2022 0, iM 2023 0, iM 3000 0, iM 3001 0, iM 3002 0, iM 3003 0, iM 3004 0, iM 3005 0, iM 3006 0, eM 3007 (.s .own (.int .u8) []), iM 3008 0, iM 3009 0, eM 3010 (.s .own rng []), iM 3011 0, iM 3012 0, eM 3013 (.s .own (.int .u8) []), eM 3014 (.s .own erl []), eM 3015 (vB false), eM 3016 (vB false), eM 3017 (vB false), iM 3018 0, iM 3019 0, iM 3020 0, iM 3021 0, iM 3022 0, iM 3023 0, iM 6000 m6000_0, iM 6001 m6001_0, iM 6002 m6002_0, iM 6003 m6003_0, iM 6004 m6004_0, iM 6005 m6005_0, iM 6006 m6006_0, eM 6007 (.s .ro (.int .u8) m6007_0), iM 6008 m6008_0, iM 6009 m6009_0, eM 6010 (.s .ro rng m6010_0), iM 6011 m6011_0, iM 6012 m6012_0, eM 6013 (.s .ro (.int .u8) m6013_0), eM 6014 (.s .ro erl m6014_0), eM 6015 (vB m6015_0), eM 6016 (vB m6016_0), eM 6017 (vB m6017_0), iM 6018 m6018_0, iM 6019 m6019_0, iM 6020 m6020_0, iM 6021 m6021_0, iM 6022 m6022_0, iM 6023 m6023_0, iM 7000 m7000_0, iM 7001 m7001_0, iM 7002 m7002_0, iM 7003 m7003_0, iM 7004 m7004_0, iM 7005 m7005_0, iM 7006 m7006_0, eM 7007 (.s .ro (.int .u8) m7007_0), iM 7008 m7008_0, iM 7009 m7009_0, eM 7010 (.s .ro rng m7010_0), iM 7011 m7011_0, iM 7012 m7012_0, eM 7013 (.s .ro (.int .u8) m7013_0), eM 7014 (.s .ro erl m7014_0), eM 7015 (vB m7015_0), eM 7016 (vB m7016_0), eM 7017 (vB m7017_0), iM 7018 m7018_0, iM 7019 m7019_0, iM 7020 m7020_0, iM 7021 m7021_0, iM 7022 m7022_0, iM 7023 m7023_0, eM 33007 .d, eM 33010 .d, eM 33013 .d, eM 33014 .d, eM 8900 (.s .sown seg m8900_0), eM 9900 (.s .sown seg m9900_0)]⟩
noncomputable abbrev F62_l0_g {β : Type} (k : Nat) (v0 : L_u8) (v1 : Int) (K : KT β) (n : Nat) (x11_0 : Int) (m0_0 : L_u8) (m1_0 m6000_0 m6001_0 m6002_0 m6003_0 m6004_0 m6005_0 m6006_0 : Int) (m6007_0 : L_u8) (m6008_0 m6009_0 : Int) (m6010_0 : L_rng) (m6011_0 m6012_0 : Int) (m6013_0 : L_u8) (m6014_0 : L_erl) (m6015_0 m6016_0 m6017_0 : Bool) (m6018_0 m6019_0 m6020_0 m6021_0 m6022_0 m6023_0 m7000_0 m7001_0 m7002_0 m7003_0 m7004_0 m7005_0 m7006_0 : Int) (m7007_0 : L_u8) (m7008_0 m7009_0 : Int) (m7010_0 : L_rng) (m7011_0 m7012_0 : Int) (m7013_0 : L_u8) (m7014_0 : L_erl) (m7015_0 m7016_0 m7017_0 : Bool) (m7018_0 m7019_0 m7020_0 m7021_0 m7022_0 m7023_0 : Int) (m8900_0 m9900_0 : L_seg) : Option β := loopG (F62_E k) Tryz.f62 [1, 1, 1, 1, 1, 1, 1, 1, 1, 0, 1, 0] 0 (kontAt (F62_E k) [1, 1, 1, 1, 1, 1, 1, 1, 1, 0, 1, 0] (bodyOf Tryz.f62) 0 (endC (F62_E k) Tryz.f62 (F62_a v0 v1) K)) n (F62_s0 v0 v1 x11_0 m0_0 m1_0 m6000_0 m6001_0 m6002_0 m6003_0 m6004_0 m6005_0 m6006_0 m6007_0 m6008_0 m6009_0 m6010_0 m6011_0 m6012_0 m6013_0 m6014_0 m6015_0 m6016_0 m6017_0 m6018_0 m6019_0 m6020_0 m6021_0 m6022_0 m6023_0 m7000_0 m7001_0 m7002_0 m7003_0 m7004_0 m7005_0 m7006_0 m7007_0 m7008_0 m7009_0 m7010_0 m7011_0 m7012_0 m7013_0 m7014_0 m7015_0 m7016_0 m7017_0 m7018_0 m7019_0 m7020_0 m7021_0 m7022_0 m7023_0 m8900_0 m9900_0)
def F62_l0_j1 {β : Type} (k : Nat) (v0 : L_u8) (v1 : Int) (NX : Int → L_u8 → Int → Int → Int → Int → Int → Int → Int → Int → L_u8 → Int → Int → L_rng → Int → Int → L_u8 → L_erl → Bool → Bool → Bool → Int → Int → Int → Int → Int → Int → Int → Int → Int → Int → Int → Int → Int → L_u8 → Int → Int → L_rng → Int → Int → L_u8 → L_erl → Bool → Bool → Bool → Int → Int → Int → Int → Int → Int → L_seg → L_seg → Option β) (RET : F62_R → Option β) (m8900_0 : L_seg) (m6000_0 m6001_0 m6002_0 m6003_0 m6004_0 m6005_0 m6006_0 : Int) (m6007_0 : L_u8) (m6008_0 m6009_0 : Int) (m6010_0 : L_rng) (m6011_0 m6012_0 : Int) (m6013_0 : L_u8) (m6014_0 : L_erl) (m6015_0 m6016_0 m6017_0 : Bool) (m6018_0 m6019_0 m6020_0 m6021_0 m6022_0 m6023_0 x11_0 : Int) (b10 : Int × L_u8 × Int) (m9900_0 : L_seg) (b11 : Int × L_u8 × Int) (m7000_0 m7001_0 m7002_0 m7003_0 m7004_0 m7005_0 m7006_0 : Int) (m7007_0 : L_u8) (m7008_0 m7009_0 : Int) (m7010_0 : L_rng) (m7011_0 m7012_0 : Int) (m7013_0 : L_u8) (m7014_0 : L_erl) (m7015_0 m7016_0 m7017_0 : Bool) (m7018_0 m7019_0 m7020_0 m7021_0 m7022_0 m7023_0 : Int) : Option β := cond (decide ((m8900_0.length : Int) > 0)) (cond (decide (0 < (m8900_0.length : Int))) ((F89 k m6000_0 m6001_0 m6002_0 m6003_0 m6004_0 m6005_0 m6006_0 m6007_0 m6008_0 m6009_0 m6010_0 m6011_0 m6012_0 m6013_0 m6014_0 m6015_0 m6016_0 m6017_0 m6018_0 m6019_0 m6020_0 m6021_0 m6022_0 m6023_0 2 (atI m8900_0 0).1 (atI m8900_0 0).2.1 (Q2 (atI m8900_0 0)) (Q3 (atI m8900_0 0)) (Q4 (atI m8900_0 0)) (Q5 (atI m8900_0 0)) (Q6 (atI m8900_0 0)) (Q7 (atI m8900_0 0)) (Q8 (atI m8900_0 0)) (Q9 (atI m8900_0 0)) (R10 (atI m8900_0 0)) (i64.wrap ((i64.wrap (30 * (i64.wrap (30 - x11_0)))) + b10.1))).bind fun b24 => cond (decide ((m9900_0.length + (R24 b24).length) * 96 ≤ 140737488355328)) (cond (decide (0 ≤ 1) && decide (1 ≤ (m8900_0.length : Int))) (NX (i64.wrap (x11_0 - 1)) b11.2.1 b11.2.2 b24.1 b24.2.1 (Q2 b24) (Q3 b24) (Q4 b24) (Q5 b24) (Q6 b24) (Q7 b24) (Q8 b24) (Q9 b24) (Q10 b24) (Q11 b24) (Q12 b24) (Q13 b24) (Q14 b24) (Q15 b24) (Q16 b24) (Q17 b24) (Q18 b24) (Q19 b24) (Q20 b24) (Q21 b24) (Q22 b24) (Q23 b24) m7000_0 m7001_0 m7002_0 m7003_0 m7004_0 m7005_0 m7006_0 m7007_0 m7008_0 m7009_0 m7010_0 m7011_0 m7012_0 m7013_0 m7014_0 m7015_0 m7016_0 m7017_0 m7018_0 m7019_0 m7020_0 m7021_0 m7022_0 m7023_0 ((m8900_0.take (((m8900_0.length : Int)).toNat)).drop 1) (m9900_0 ++ (R24 b24))) none) none) none) (NX (i64.wrap (x11_0 - 1)) b11.2.1 b11.2.2 m6000_0 m6001_0 m6002_0 m6003_0 m6004_0 m6005_0 m6006_0 m6007_0 m6008_0 m6009_0 m6010_0 m6011_0 m6012_0 m6013_0 m6014_0 m6015_0 m6016_0 m6017_0 m6018_0 m6019_0 m6020_0 m6021_0 m6022_0 m6023_0 m7000_0 m7001_0 m7002_0 m7003_0 m7004_0 m7005_0 m7006_0 m7007_0 m7008_0 m7009_0 m7010_0 m7011_0 m7012_0 m7013_0 m7014_0 m7015_0 m7016_0 m7017_0 m7018_0 m7019_0 m7020_0 m7021_0 m7022_0 m7023_0 m8900_0 m9900_0)
def F62_l0_T {β : Type} (NX : Int → L_u8 → Int → Int → Int → Int → Int → Int → Int → Int → L_u8 → Int → Int → L_rng → Int → Int → L_u8 → L_erl → Bool → Bool → Bool → Int → Int → Int → Int → Int → Int → Int → Int → Int → Int → Int → Int → Int → L_u8 → Int → Int → L_rng → Int → Int → L_u8 → L_erl → Bool → Bool → Bool → Int → Int → Int → Int → Int → Int → L_seg → L_seg → Option β) (RET : F62_R → Option β) (k : Nat) (v0 : L_u8) (v1 : Int) (x11_0 : Int) (m0_0 : L_u8) (m1_0 m6000_0 m6001_0 m6002_0 m6003_0 m6004_0 m6005_0 m6006_0 : Int) (m6007_0 : L_u8) (m6008_0 m6009_0 : Int) (m6010_0 : L_rng) (m6011_0 m6012_0 : Int) (m6013_0 : L_u8) (m6014_0 : L_erl) (m6015_0 m6016_0 m6017_0 : Bool) (m6018_0 m6019_0 m6020_0 m6021_0 m6022_0 m6023_0 m7000_0 m7001_0 m7002_0 m7003_0 m7004_0 m7005_0 m7006_0 : Int) (m7007_0 : L_u8) (m7008_0 m7009_0 : Int) (m7010_0 : L_rng) (m7011_0 m7012_0 : Int) (m7013_0 : L_u8) (m7014_0 : L_erl) (m7015_0 m7016_0 m7017_0 : Bool) (m7018_0 m7019_0 m7020_0 m7021_0 m7022_0 m7023_0 : Int) (m8900_0 m9900_0 : L_seg) : Option β := cond (decide (x11_0 > 0)) ((F26 k m0_0 m1_0 9).bind fun b10 => (F26 k b10.2.1 b10.2.2 9).bind fun b11 => cond (b11.1 == 0) ((F26 k b11.2.1 b11.2.2 9).bind fun b12 => (F52 k b12.2.1 b12.2.2 b12.1).bind fun b13 => (F17 k m6000_0 m6001_0 m6002_0 m6003_0 m6004_0 m6005_0 m6006_0 m6007_0 m6008_0 m6009_0 m6010_0 m6011_0 m6012_0 m6013_0 m6014_0 m6015_0 m6016_0 m6017_0 m6018_0 m6019_0 m6020_0 m6021_0 m6022_0 m6023_0 b13.1 (i64.wrap ((i64.wrap (30 * (i64.wrap (30 - x11_0)))) + b10.1))).bind fun b14 => cond (decide ((m9900_0.length + (R24 b14).2.length) * 96 ≤ 140737488355328)) (NX (i64.wrap (x11_0 - 1)) b13.2.1 b13.2.2 b14.1 b14.2.1 (Q2 b14) (Q3 b14) (Q4 b14) (Q5 b14) (Q6 b14) (Q7 b14) (Q8 b14) (Q9 b14) (Q10 b14) (Q11 b14) (Q12 b14) (Q13 b14) (Q14 b14) (Q15 b14) (Q16 b14) (Q17 b14) (Q18 b14) (Q19 b14) (Q20 b14) (Q21 b14) (Q22 b14) (Q23 b14) m7000_0 m7001_0 m7002_0 m7003_0 m7004_0 m7005_0 m7006_0 m7007_0 m7008_0 m7009_0 m7010_0 m7011_0 m7012_0 m7013_0 m7014_0 m7015_0 m7016_0 m7017_0 m7018_0 m7019_0 m7020_0 m7021_0 m7022_0 m7023_0 m8900_0 (m9900_0 ++ (R24 b14).2)) none) (cond (b11.1 == 1) ((F26 k b11.2.1 b11.2.2 9).bind fun b15 => (F52 k b15.2.1 b15.2.2 b15.1).bind fun b16 => (F17 k m7000_0 m7001_0 m7002_0 m7003_0 m7004_0 m7005_0 m7006_0 m7007_0 m7008_0 m7009_0 m7010_0 m7011_0 m7012_0 m7013_0 m7014_0 m7015_0 m7016_0 m7017_0 m7018_0 m7019_0 m7020_0 m7021_0 m7022_0 m7023_0 b16.1 (i64.wrap ((i64.wrap (30 * (i64.wrap (30 - x11_0)))) + b10.1))).bind fun b17 => cond (decide ((m8900_0.length + (R24 b17).2.length) * 96 ≤ 140737488355328)) (NX (i64.wrap (x11_0 - 1)) b16.2.1 b16.2.2 m6000_0 m6001_0 m6002_0 m6003_0 m6004_0 m6005_0 m6006_0 m6007_0 m6008_0 m6009_0 m6010_0 m6011_0 m6012_0 m6013_0 m6014_0 m6015_0 m6016_0 m6017_0 m6018_0 m6019_0 m6020_0 m6021_0 m6022_0 m6023_0 b17.1 b17.2.1 (Q2 b17) (Q3 b17) (Q4 b17) (Q5 b17) (Q6 b17) (Q7 b17) (Q8 b17) (Q9 b17) (Q10 b17) (Q11 b17) (Q12 b17) (Q13 b17) (Q14 b17) (Q15 b17) (Q16 b17) (Q17 b17) (Q18 b17) (Q19 b17) (Q20 b17) (Q21 b17) (Q22 b17) (Q23 b17) (m8900_0 ++ (R24 b17).2) m9900_0) none) (cond (b11.1 == 2) ((F26 k b11.2.1 b11.2.2 9).bind fun b18 => (F87 k m7000_0 m7001_0 m7002_0 m7003_0 m7004_0 m7005_0 m7006_0 m7007_0 m7008_0 m7009_0 m7010_0 m7011_0 m7012_0 m7013_0 m7014_0 m7015_0 m7016_0 m7017_0 m7018_0 m7019_0 m7020_0 m7021_0 m7022_0 m7023_0 b18.1 (i64.wrap ((i64.wrap (30 * (i64.wrap (30 - x11_0)))) + b10.1))).bind fun b19 => cond (decide ((m8900_0.length + (R24 b19).2.length) * 96 ≤ 140737488355328)) (NX (i64.wrap (x11_0 - 1)) b18.2.1 b18.2.2 m6000_0 m6001_0 m6002_0 m6003_0 m6004_0 m6005_0 m6006_0 m6007_0 m6008_0 m6009_0 m6010_0 m6011_0 m6012_0 m6013_0 m6014_0 m6015_0 m6016_0 m6017_0 m6018_0 m6019_0 m6020_0 m6021_0 m6022_0 m6023_0 b19.1 b19.2.1 (Q2 b19) (Q3 b19) (Q4 b19) (Q5 b19) (Q6 b19) (Q7 b19) (Q8 b19) (Q9 b19) (Q10 b19) (Q11 b19) (Q12 b19) (Q13 b19) (Q14 b19) (Q15 b19) (Q16 b19) (Q17 b19) (Q18 b19) (Q19 b19) (Q20 b19) (Q21 b19) (Q22 b19) (Q23 b19) (m8900_0 ++ (R24 b19).2) m9900_0) none) (cond (b11.1 == 3) ((F88 k m6000_0 m6001_0 m6002_0 m6003_0 m6004_0 m6005_0 m6006_0 m6007_0 m6008_0 m6009_0 m6010_0 m6011_0 m6012_0 m6013_0 m6014_0 m6015_0 m6016_0 m6017_0 m6018_0 m6019_0 m6020_0 m6021_0 m6022_0 m6023_0 (i64.wrap ((i64.wrap (30 * (i64.wrap (30 - x11_0)))) + b10.1))).bind fun b20 => cond (decide ((m9900_0.length + (R24 b20).length) * 96 ≤ 140737488355328)) ((F88 k m7000_0 m7001_0 m7002_0 m7003_0 m7004_0 m7005_0 m7006_0 m7007_0 m7008_0 m7009_0 m7010_0 m7011_0 m7012_0 m7013_0 m7014_0 m7015_0 m7016_0 m7017_0 m7018_0 m7019_0 m7020_0 m7021_0 m7022_0 m7023_0 (i64.wrap ((i64.wrap (30 * (i64.wrap (30 - x11_0)))) + b10.1))).bind fun b21 => cond (decide ((m8900_0.length + (R24 b21).length) * 96 ≤ 140737488355328)) (NX (i64.wrap (x11_0 - 1)) b11.2.1 b11.2.2 b20.1 b20.2.1 (Q2 b20) (Q3 b20) (Q4 b20) (Q5 b20) (Q6 b20) (Q7 b20) (Q8 b20) (Q9 b20) (Q10 b20) (Q11 b20) (Q12 b20) (Q13 b20) (Q14 b20) (Q15 b20) (Q16 b20) (Q17 b20) (Q18 b20) (Q19 b20) (Q20 b20) (Q21 b20) (Q22 b20) (Q23 b20) b21.1 b21.2.1 (Q2 b21) (Q3 b21) (Q4 b21) (Q5 b21) (Q6 b21) (Q7 b21) (Q8 b21) (Q9 b21) (Q10 b21) (Q11 b21) (Q12 b21) (Q13 b21) (Q14 b21) (Q15 b21) (Q16 b21) (Q17 b21) (Q18 b21) (Q19 b21) (Q20 b21) (Q21 b21) (Q22 b21) (Q23 b21) (m8900_0 ++ (R24 b21)) (m9900_0 ++ (R24 b20))) none) none) (cond (b11.1 == 4) ((F26 k b11.2.1 b11.2.2 3).bind fun b22 => cond (b22.1 == 0) ((F22 k m6000_0 m6001_0 m6002_0 m6003_0 m6004_0 m6005_0 m6006_0 m6007_0 m6008_0 m6009_0 m6010_0 m6011_0 m6012_0 m6013_0 m6014_0 m6015_0 m6016_0 m6017_0 m6018_0 m6019_0 m6020_0 m6021_0 m6022_0 m6023_0 (i64.wrap ((i64.wrap (30 * (i64.wrap (30 - x11_0)))) + b10.1))).bind fun b23 => cond (decide ((m9900_0.length + (R24 b23).length) * 96 ≤ 140737488355328)) (NX (i64.wrap (x11_0 - 1)) b22.2.1 b22.2.2 b23.1 b23.2.1 (Q2 b23) (Q3 b23) (Q4 b23) (Q5 b23) (Q6 b23) (Q7 b23) (Q8 b23) (Q9 b23) (Q10 b23) (Q11 b23) (Q12 b23) (Q13 b23) (Q14 b23) (Q15 b23) (Q16 b23) (Q17 b23) (Q18 b23) (Q19 b23) (Q20 b23) (Q21 b23) (Q22 b23) (Q23 b23) m7000_0 m7001_0 m7002_0 m7003_0 m7004_0 m7005_0 m7006_0 m7007_0 m7008_0 m7009_0 m7010_0 m7011_0 m7012_0 m7013_0 m7014_0 m7015_0 m7016_0 m7017_0 m7018_0 m7019_0 m7020_0 m7021_0 m7022_0 m7023_0 m8900_0 (m9900_0 ++ (R24 b23))) none) (NX (i64.wrap (x11_0 - 1)) b22.2.1 b22.2.2 m6000_0 m6001_0 m6002_0 m6003_0 m6004_0 m6005_0 m6006_0 m6007_0 m6008_0 m6009_0 m6010_0 m6011_0 m6012_0 m6013_0 m6014_0 m6015_0 m6016_0 m6017_0 m6018_0 m6019_0 m6020_0 m6021_0 m6022_0 m6023_0 m7000_0 m7001_0 m7002_0 m7003_0 m7004_0 m7005_0 m7006_0 m7007_0 m7008_0 m7009_0 m7010_0 m7011_0 m7012_0 m7013_0 m7014_0 m7015_0 m7016_0 m7017_0 m7018_0 m7019_0 m7020_0 m7021_0 m7022_0 m7023_0 m8900_0 m9900_0)) (cond (b11.1 == 5) (F62_l0_j1 k v0 v1 NX RET m8900_0 m6000_0 m6001_0 m6002_0 m6003_0 m6004_0 m6005_0 m6006_0 m6007_0 m6008_0 m6009_0 m6010_0 m6011_0 m6012_0 m6013_0 m6014_0 m6015_0 m6016_0 m6017_0 m6018_0 m6019_0 m6020_0 m6021_0 m6022_0 m6023_0 x11_0 b10 m9900_0 b11 m7000_0 m7001_0 m7002_0 m7003_0 m7004_0 m7005_0 m7006_0 m7007_0 m7008_0 m7009_0 m7010_0 m7011_0 m7012_0 m7013_0 m7014_0 m7015_0 m7016_0 m7017_0 m7018_0 m7019_0 m7020_0 m7021_0 m7022_0 m7023_0) (cond (b11.1 == 6) (F62_l0_j1 k v0 v1 NX RET m8900_0 m6000_0 m6001_0 m6002_0 m6003_0 m6004_0 m6005_0 m6006_0 m6007_0 m6008_0 m6009_0 m6010_0 m6011_0 m6012_0 m6013_0 m6014_0 m6015_0 m6016_0 m6017_0 m6018_0 m6019_0 m6020_0 m6021_0 m6022_0 m6023_0 x11_0 b10 m9900_0 b11 m7000_0 m7001_0 m7002_0 m7003_0 m7004_0 m7005_0 m7006_0 m7007_0 m7008_0 m7009_0 m7010_0 m7011_0 m7012_0 m7013_0 m7014_0 m7015_0 m7016_0 m7017_0 m7018_0 m7019_0 m7020_0 m7021_0 m7022_0 m7023_0) (cond (decide ((m9900_0.length : Int) > 0)) (cond (decide (0 < (m9900_0.length : Int))) ((F89 k m7000_0 m7001_0 m7002_0 m7003_0 m7004_0 m7005_0 m7006_0 m7007_0 m7008_0 m7009_0 m7010_0 m7011_0 m7012_0 m7013_0 m7014_0 m7015_0 m7016_0 m7017_0 m7018_0 m7019_0 m7020_0 m7021_0 m7022_0 m7023_0 1 (atI m9900_0 0).1 (atI m9900_0 0).2.1 (Q2 (atI m9900_0 0)) (Q3 (atI m9900_0 0)) (Q4 (atI m9900_0 0)) (Q5 (atI m9900_0 0)) (Q6 (atI m9900_0 0)) (Q7 (atI m9900_0 0)) (Q8 (atI m9900_0 0)) (Q9 (atI m9900_0 0)) (R10 (atI m9900_0 0)) (i64.wrap ((i64.wrap (30 * (i64.wrap (30 - x11_0)))) + b10.1))).bind fun b26 => cond (decide ((m8900_0.length + (R24 b26).length) * 96 ≤ 140737488355328)) (cond (decide (0 ≤ 1) && decide (1 ≤ (m9900_0.length : Int))) (NX (i64.wrap (x11_0 - 1)) b11.2.1 b11.2.2 m6000_0 m6001_0 m6002_0 m6003_0 m6004_0 m6005_0 m6006_0 m6007_0 m6008_0 m6009_0 m6010_0 m6011_0 m6012_0 m6013_0 m6014_0 m6015_0 m6016_0 m6017_0 m6018_0 m6019_0 m6020_0 m6021_0 m6022_0 m6023_0 b26.1 b26.2.1 (Q2 b26) (Q3 b26) (Q4 b26) (Q5 b26) (Q6 b26) (Q7 b26) (Q8 b26) (Q9 b26) (Q10 b26) (Q11 b26) (Q12 b26) (Q13 b26) (Q14 b26) (Q15 b26) (Q16 b26) (Q17 b26) (Q18 b26) (Q19 b26) (Q20 b26) (Q21 b26) (Q22 b26) (Q23 b26) (m8900_0 ++ (R24 b26)) ((m9900_0.take (((m9900_0.length : Int)).toNat)).drop 1)) none) none) none) (NX (i64.wrap (x11_0 - 1)) b11.2.1 b11.2.2 m6000_0 m6001_0 m6002_0 m6003_0 m6004_0 m6005_0 m6006_0 m6007_0 m6008_0 m6009_0 m6010_0 m6011_0 m6012_0 m6013_0 m6014_0 m6015_0 m6016_0 m6017_0 m6018_0 m6019_0 m6020_0 m6021_0 m6022_0 m6023_0 m7000_0 m7001_0 m7002_0 m7003_0 m7004_0 m7005_0 m7006_0 m7007_0 m7008_0 m7009_0 m7010_0 m7011_0 m7012_0 m7013_0 m7014_0 m7015_0 m7016_0 m7017_0 m7018_0 m7019_0 m7020_0 m7021_0 m7022_0 m7023_0 m8900_0 m9900_0))))))))) (RET (m6000_0, m6001_0, m6002_0, m6003_0, m6004_0, m6005_0, m6006_0, m6007_0, m6008_0, m6009_0, m6010_0, m6011_0, m6012_0, m6013_0, m6014_0, m6015_0, m6016_0, m6017_0, m6018_0, m6019_0, m6020_0, m6021_0, m6022_0, m6023_0, m7000_0, m7001_0, m7002_0, m7003_0, m7004_0, m7005_0, m7006_0, m7007_0, m7008_0, m7009_0, m7010_0, m7011_0, m7012_0, m7013_0, m7014_0, m7015_0, m7016_0, m7017_0, m7018_0, m7019_0, m7020_0, m7021_0, m7022_0, m7023_0, m8900_0, m9900_0, m0_0, m1_0))
def F62_l0 (k : Nat) (v0 : L_u8) (v1 : Int) : Nat → Int → L_u8 → Int → Int → Int → Int → Int → Int → Int → Int → L_u8 → Int → Int → L_rng → Int → Int → L_u8 → L_erl → Bool → Bool → Bool → Int → Int → Int → Int → Int → Int → Int → Int → Int → Int → Int → Int → Int → L_u8 → Int → Int → L_rng → Int → Int → L_u8 → L_erl → Bool → Bool → Bool → Int → Int → Int → Int → Int → Int → L_seg → L_seg → Option (F62_R)
 | 0, _, _, _, _, _, _, _, _, _, _, _, _, _, _, _, _, _, _, _, _, _, _, _, _, _, _, _, _, _, _, _, _, _, _, _, _, _, _, _, _, _, _, _, _, _, _, _, _, _, _, _, _, _ => none
 | n + 1, x11_0, m0_0, m1_0, m6000_0, m6001_0, m6002_0, m6003_0, m6004_0, m6005_0, m6006_0, m6007_0, m6008_0, m6009_0, m6010_0, m6011_0, m6012_0, m6013_0, m6014_0, m6015_0, m6016_0, m6017_0, m6018_0, m6019_0, m6020_0, m6021_0, m6022_0, m6023_0, m7000_0, m7001_0, m7002_0, m7003_0, m7004_0, m7005_0, m7006_0, m7007_0, m7008_0, m7009_0, m7010_0, m7011_0, m7012_0, m7013_0, m7014_0, m7015_0, m7016_0, m7017_0, m7018_0, m7019_0, m7020_0, m7021_0, m7022_0, m7023_0, m8900_0, m9900_0 => F62_l0_T (F62_l0 k v0 v1 n) some k v0 v1 x11_0 m0_0 m1_0 m6000_0 m6001_0 m6002_0 m6003_0 m6004_0 m6005_0 m6006_0 m6007_0 m6008_0 m6009_0 m6010_0 m6011_0 m6012_0 m6013_0 m6014_0 m6015_0 m6016_0 m6017_0 m6018_0 m6019_0 m6020_0 m6021_0 m6022_0 m6023_0 m7000_0 m7001_0 m7002_0 m7003_0 m7004_0 m7005_0 m7006_0 m7007_0 m7008_0 m7009_0 m7010_0 m7011_0 m7012_0 m7013_0 m7014_0 m7015_0 m7016_0 m7017_0 m7018_0 m7019_0 m7020_0 m7021_0 m7022_0 m7023_0 m8900_0 m9900_0
theorem F62_l0_lp {β : Type} (k : Nat) (v0 : L_u8) (v1 : Int) (K : KT β) (n : Nat) : ∀ (x11_0 : Int) (m0_0 : L_u8) (m1_0 m6000_0 m6001_0 m6002_0 m6003_0 m6004_0 m6005_0 m6006_0 : Int) (m6007_0 : L_u8) (m6008_0 m6009_0 : Int) (m6010_0 : L_rng) (m6011_0 m6012_0 : Int) (m6013_0 : L_u8) (m6014_0 : L_erl) (m6015_0 m6016_0 m6017_0 : Bool) (m6018_0 m6019_0 m6020_0 m6021_0 m6022_0 m6023_0 m7000_0 m7001_0 m7002_0 m7003_0 m7004_0 m7005_0 m7006_0 : Int) (m7007_0 : L_u8) (m7008_0 m7009_0 : Int) (m7010_0 : L_rng) (m7011_0 m7012_0 : Int) (m7013_0 : L_u8) (m7014_0 : L_erl) (m7015_0 m7016_0 m7017_0 : Bool) (m7018_0 m7019_0 m7020_0 m7021_0 m7022_0 m7023_0 : Int) (m8900_0 m9900_0 : L_seg), F62_l0_g k v0 v1 K n x11_0 m0_0 m1_0 m6000_0 m6001_0 m6002_0 m6003_0 m6004_0 m6005_0 m6006_0 m6007_0 m6008_0 m6009_0 m6010_0 m6011_0 m6012_0 m6013_0 m6014_0 m6015_0 m6016_0 m6017_0 m6018_0 m6019_0 m6020_0 m6021_0 m6022_0 m6023_0 m7000_0 m7001_0 m7002_0 m7003_0 m7004_0 m7005_0 m7006_0 m7007_0 m7008_0 m7009_0 m7010_0 m7011_0 m7012_0 m7013_0 m7014_0 m7015_0 m7016_0 m7017_0 m7018_0 m7019_0 m7020_0 m7021_0 m7022_0 m7023_0 m8900_0 m9900_0 =
  (F62_l0 k v0 v1 n x11_0 m0_0 m1_0 m6000_0 m6001_0 m6002_0 m6003_0 m6004_0 m6005_0 m6006_0 m6007_0 m6008_0 m6009_0 m6010_0 m6011_0 m6012_0 m6013_0 m6014_0 m6015_0 m6016_0 m6017_0 m6018_0 m6019_0 m6020_0 m6021_0 m6022_0 m6023_0 m7000_0 m7001_0 m7002_0 m7003_0 m7004_0 m7005_0 m7006_0 m7007_0 m7008_0 m7009_0 m7010_0 m7011_0 m7012_0 m7013_0 m7014_0 m7015_0 m7016_0 m7017_0 m7018_0 m7019_0 m7020_0 m7021_0 m7022_0 m7023_0 m8900_0 m9900_0).bind fun r => K (F62_r r) := by
 induction n with
 | zero => intros; rfl
 | succ n ih =>
  intro x11_0 m0_0 m1_0 m6000_0 m6001_0 m6002_0 m6003_0 m6004_0 m6005_0 m6006_0 m6007_0 m6008_0 m6009_0 m6010_0 m6011_0 m6012_0 m6013_0 m6014_0 m6015_0 m6016_0 m6017_0 m6018_0 m6019_0 m6020_0 m6021_0 m6022_0 m6023_0 m7000_0 m7001_0 m7002_0 m7003_0 m7004_0 m7005_0 m7006_0 m7007_0 m7008_0 m7009_0 m7010_0 m7011_0 m7012_0 m7013_0 m7014_0 m7015_0 m7016_0 m7017_0 m7018_0 m7019_0 m7020_0 m7021_0 m7022_0 m7023_0 m8900_0 m9900_0
  refine Eq.trans (b := F62_l0_T (F62_l0_g k v0 v1 K n) (fun r => K (F62_r r)) k v0 v1 x11_0 m0_0 m1_0 m6000_0 m6001_0 m6002_0 m6003_0 m6004_0 m6005_0 m6006_0 m6007_0 m6008_0 m6009_0 m6010_0 m6011_0 m6012_0 m6013_0 m6014_0 m6015_0 m6016_0 m6017_0 m6018_0 m6019_0 m6020_0 m6021_0 m6022_0 m6023_0 m7000_0 m7001_0 m7002_0 m7003_0 m7004_0 m7005_0 m7006_0 m7007_0 m7008_0 m7009_0 m7010_0 m7011_0 m7012_0 m7013_0 m7014_0 m7015_0 m7016_0 m7017_0 m7018_0 m7019_0 m7020_0 m7021_0 m7022_0 m7023_0 m8900_0 m9900_0) (by kernel_rfl) ?_
  rw [F62_l0]
  simp only [F62_l0_T, F62_l0_j1, z1, z2, z3, z4, z5, ih]
def F62_T {β : Type} (LP0 : Int → L_u8 → Int → Int → Int → Int → Int → Int → Int → Int → L_u8 → Int → Int → L_rng → Int → Int → L_u8 → L_erl → Bool → Bool → Bool → Int → Int → Int → Int → Int → Int → Int → Int → Int → Int → Int → Int → Int → L_u8 → Int → Int → L_rng → Int → Int → L_u8 → L_erl → Bool → Bool → Bool → Int → Int → Int → Int → Int → Int → L_seg → L_seg → Option β) (k : Nat) (v0 : L_u8) (v1 : Int) : Option β := (F26 k v0 v1 3).bind fun b1 => cond (decide (0 ≤ b1.1)) (cond (decide (b1.1 < ([5, 65530, 32760].length : Int))) ((F26 k b1.2.1 b1.2.2 16).bind fun b2 => (F24 k 1 7 (atI (t := (.int .i64)) [5, 65530, 32760] b1.1) (i64.wrap (4 + b2.1))).bind fun b3 => (F26 k b2.2.1 b2.2.2 3).bind fun b4 => cond (decide (0 ≤ b4.1)) (cond (decide (b4.1 < ([100, 65534, 0].length : Int))) ((F26 k b4.2.1 b4.2.2 16).bind fun b5 => (F24 k 2 9 (atI (t := (.int .i64)) [100, 65534, 0] b4.1) (i64.wrap (4 + b5.1))).bind fun b6 => (F86 k b6.1 b6.2.1 (Q2 b6) (Q3 b6) (Q4 b6) (Q5 b6) (Q6 b6) (Q7 b6) (Q8 b6) (Q9 b6) (Q10 b6) (Q11 b6) (Q12 b6) (Q13 b6) (Q14 b6) (Q15 b6) (Q16 b6) (Q17 b6) (Q18 b6) (Q19 b6) (Q20 b6) (Q21 b6) (Q22 b6) (R23 b6)).bind fun b7 => (F8 k b3.1 b3.2.1 (Q2 b3) (Q3 b3) (Q4 b3) (Q5 b3) (Q6 b3) (Q7 b3) (Q8 b3) (Q9 b3) (Q10 b3) (Q11 b3) (Q12 b3) (Q13 b3) (Q14 b3) (Q15 b3) (Q16 b3) (Q17 b3) (Q18 b3) (Q19 b3) (Q20 b3) (Q21 b3) (Q22 b3) (R23 b3) 2 9 0).bind fun b8 => cond (decide ((([] : L_seg).length + (R24 b8).length) * 96 ≤ 140737488355328)) ((F26 k b5.2.1 b5.2.2 26).bind fun b9 => LP0 (i64.wrap (3 + b9.1)) b9.2.1 b9.2.2 b8.1 b8.2.1 (Q2 b8) (Q3 b8) (Q4 b8) (Q5 b8) (Q6 b8) (Q7 b8) (Q8 b8) (Q9 b8) (Q10 b8) (Q11 b8) (Q12 b8) (Q13 b8) (Q14 b8) (Q15 b8) (Q16 b8) (Q17 b8) (Q18 b8) (Q19 b8) (Q20 b8) (Q21 b8) (Q22 b8) (Q23 b8) b7.1 b7.2.1 (Q2 b7) (Q3 b7) (Q4 b7) (Q5 b7) (Q6 b7) (Q7 b7) (Q8 b7) (Q9 b7) (Q10 b7) (Q11 b7) (Q12 b7) (Q13 b7) (Q14 b7) (Q15 b7) (Q16 b7) (Q17 b7) (Q18 b7) (Q19 b7) (Q20 b7) (Q21 b7) (Q22 b7) (Q23 b7) [] ([] ++ (R24 b8))) none) none) none) none) none
def F62 (k : Nat) (v0 : L_u8) (v1 : Int) : Option (F62_R) := F62_T (F62_l0 k v0 v1 k) k v0 v1
theorem F62_ev {β : Type} (k : Nat) (v0 : L_u8) (v1 : Int) (K : KT β) : evalF (F62_E k) Tryz.f62 (F62_a v0 v1) K = (F62 k v0 v1).bind fun r => K (F62_r r) :=
 Eq.trans (b := F62_T (F62_l0_g k v0 v1 K k) k v0 v1) (by kernel_rfl) (by simp only [F62, F62_T, z1, z2, z3, z4, z5, F62_l0_lp])
theorem F62_tOk (k : Nat) : TabFn Tryz.prog (F62_t k) := .ent (F26_q k) F26_f (.ent (F24_q k) F24_f (.ent (F86_q k) F86_f (.ent (F8_q k) F8_f (.ent (F52_q k) F52_f (.ent (F17_q k) F17_f (.ent (F87_q k) F87_f (.ent (F88_q k) F88_f (.ent (F22_q k) F22_f (.ent (F89_q k) F89_f (.none))))))))))
noncomputable def F62_p (k : Nat) : List Arg → Option CR := cleC F62_sh (F62 k) F62_r
theorem F62_q (k : Nat) : ∀ xs cr, F62_p k xs = some cr → Contract Tryz.prog 62 xs cr := cleC_ok fun x => con_of (envOkF [169, 69] (F62_tOk k) _ _ _ _) mixed Tryz.func62 rfl rfl (F62_ev k _ _ some)
theorem F62_f : FnOk Tryz.prog 62 := .of (by kernel_rfl)
def F27_t (k : Nat) : Tab := entT 62 (F62_p k) <| entT 26 (F26_p k) <| entT 63 (F63_p k) <| noTab
abbrev F27_E (k : Nat) : Env := env (F27_t k) noHint .own [(false, 0), (false, 1)] k
abbrev F27_R : Type := Int × Int × Int × Int × Int × Int × Int × L_u8 × Int × Int × L_rng × Int × Int × L_u8 × L_erl × Bool × Bool × Bool × Int × Int × Int × Int × Int × Int × L_u8 × Int
abbrev F27_sh : List AK := [.p [.sl .ro (.int .u8), .int .i64], .one (.l (.int .i64))]
noncomputable abbrev F27_a := arC F27_sh
def F27_r (r : F27_R) : A × List (List Leaf) := (.agg [vI r.1, vI r.2.1, vI (Q2 r), vI (Q3 r), vI (Q4 r), vI (Q5 r), vI (Q6 r), .s .ro (.int .u8) (Q7 r), vI (Q8 r), vI (Q9 r), .s .ro rng (Q10 r), vI (Q11 r), vI (Q12 r), .s .ro (.int .u8) (Q13 r), .s .ro erl (Q14 r), vB (Q15 r), vB (Q16 r), vB (Q17 r), vI (Q18 r), vI (Q19 r), vI (Q20 r), vI (Q21 r), vI (Q22 r), vI (Q23 r)], [[.s .ro (.int .u8) (Q24 r), vI (R24 r).2]])
def F27_T {β : Type} (RET : F27_R → Option β) (k : Nat) (v0 : L_u8) (v1 w : Int) : Option β := (F62 k v0 v1).bind fun b1 => (F26 k (Q2 (R24 (R24 b1))) (R3 (R24 (R24 b1))) 2).bind fun b2 => cond (b2.1 == 0) ((F63 k b2.2.1 b2.2.2 w).bind fun b3 => cond b3.1 ((F26 k b3.2.1 b3.2.2 6).bind fun b4 => cond (b4.1 == 0) ((F26 k b4.2.1 b4.2.2 8).bind fun b5 => RET (i64.wrap (b5.1 - 1), (R24 b1).2.1, (Q2 (R24 b1)), (Q3 (R24 b1)), (Q4 (R24 b1)), (Q5 (R24 b1)), (Q6 (R24 b1)), (Q7 (R24 b1)), (Q8 (R24 b1)), (Q9 (R24 b1)), (Q10 (R24 b1)), (Q11 (R24 b1)), (Q12 (R24 b1)), (Q13 (R24 b1)), (Q14 (R24 b1)), (Q15 (R24 b1)), (Q16 (R24 b1)), (Q17 (R24 b1)), (Q18 (R24 b1)), (Q19 (R24 b1)), (Q20 (R24 b1)), (Q21 (R24 b1)), (Q22 (R24 b1)), (Q23 (R24 b1)), b5.2.1, b5.2.2)) (cond (b4.1 == 1) ((F26 k b4.2.1 b4.2.2 3).bind fun b6 => RET ((Q24 b1), (R24 b1).2.1, (Q2 (R24 b1)), (Q3 (R24 b1)), (Q4 (R24 b1)), (Q5 (R24 b1)), (Q6 (R24 b1)), (Q7 (R24 b1)), (Q8 (R24 b1)), (Q9 (R24 b1)), (Q10 (R24 b1)), (Q11 (R24 b1)), (Q12 (R24 b1)), (Q13 (R24 b1)), (Q14 (R24 b1)), (Q15 (R24 b1)), (Q16 (R24 b1)), (Q17 (R24 b1)), i64.wrap ((i64.wrap ((Q11 (R24 b1)) - 1)) + b6.1), (Q19 (R24 b1)), (Q20 (R24 b1)), (Q21 (R24 b1)), (Q22 (R24 b1)), (Q23 (R24 b1)), b6.2.1, b6.2.2)) (cond (b4.1 == 2) (RET ((Q24 b1), (R24 b1).2.1, (Q2 (R24 b1)), (Q3 (R24 b1)), (Q4 (R24 b1)), (Q5 (R24 b1)), (Q6 (R24 b1)), (Q7 (R24 b1)), (Q8 (R24 b1)), (Q9 (R24 b1)), (Q10 (R24 b1)), (Q11 (R24 b1)), (Q12 (R24 b1)), (Q13 (R24 b1)), (Q14 (R24 b1)), (Q15 (R24 b1)), (!(Q16 (R24 b1))), (Q17 (R24 b1)), (Q18 (R24 b1)), (Q19 (R24 b1)), (Q20 (R24 b1)), (Q21 (R24 b1)), (Q22 (R24 b1)), (Q23 (R24 b1)), b4.2.1, b4.2.2)) (cond (b4.1 == 3) (RET ((Q24 b1), (R24 b1).2.1, (Q2 (R24 b1)), (Q3 (R24 b1)), (Q4 (R24 b1)), (Q5 (R24 b1)), (Q5 (R24 b1)), (Q7 (R24 b1)), (Q8 (R24 b1)), (Q9 (R24 b1)), (Q10 (R24 b1)), (Q11 (R24 b1)), (Q12 (R24 b1)), (Q13 (R24 b1)), (Q14 (R24 b1)), (Q15 (R24 b1)), (Q16 (R24 b1)), (Q17 (R24 b1)), (Q18 (R24 b1)), (Q19 (R24 b1)), (Q20 (R24 b1)), (Q21 (R24 b1)), (Q22 (R24 b1)), (Q23 (R24 b1)), b4.2.1, b4.2.2)) (cond (b4.1 == 4) (RET ((Q24 b1), (R24 b1).2.1, (Q2 (R24 b1)), (Q3 (R24 b1)), (Q4 (R24 b1)), (Q5 (R24 b1)), (Q6 (R24 b1)), (Q7 (R24 b1)), (Q8 (R24 b1)), (Q9 (R24 b1)), (Q10 (R24 b1)), (Q11 (R24 b1)), (Q12 (R24 b1)), (Q13 (R24 b1)), (Q14 (R24 b1)), (Q15 (R24 b1)), (Q16 (R24 b1)), (Q17 (R24 b1)), (Q18 (R24 b1)), (Q19 (R24 b1)), 9, (Q21 (R24 b1)), (Q22 (R24 b1)), (Q23 (R24 b1)), b4.2.1, b4.2.2)) (RET ((Q24 b1), (R24 b1).2.1, 0, (Q3 (R24 b1)), (Q4 (R24 b1)), (Q5 (R24 b1)), (Q6 (R24 b1)), (Q7 (R24 b1)), (Q8 (R24 b1)), (Q9 (R24 b1)), (Q10 (R24 b1)), (Q11 (R24 b1)), (Q12 (R24 b1)), (Q13 (R24 b1)), (Q14 (R24 b1)), (Q15 (R24 b1)), (Q16 (R24 b1)), (Q17 (R24 b1)), (Q18 (R24 b1)), (Q19 (R24 b1)), (Q20 (R24 b1)), (Q21 (R24 b1)), (Q22 (R24 b1)), (Q23 (R24 b1)), b4.2.1, b4.2.2))))))) (RET ((Q24 b1), (R24 b1).2.1, (Q2 (R24 b1)), (Q3 (R24 b1)), (Q4 (R24 b1)), (Q5 (R24 b1)), (Q6 (R24 b1)), (Q7 (R24 b1)), (Q8 (R24 b1)), (Q9 (R24 b1)), (Q10 (R24 b1)), (Q11 (R24 b1)), (Q12 (R24 b1)), (Q13 (R24 b1)), (Q14 (R24 b1)), (Q15 (R24 b1)), (Q16 (R24 b1)), (Q17 (R24 b1)), (Q18 (R24 b1)), (Q19 (R24 b1)), (Q20 (R24 b1)), (Q21 (R24 b1)), (Q22 (R24 b1)), (Q23 (R24 b1)), b3.2.1, b3.2.2))) ((F63 k b2.2.1 b2.2.2 w).bind fun b7 => cond b7.1 ((F26 k b7.2.1 b7.2.2 6).bind fun b8 => cond (b8.1 == 0) ((F26 k b8.2.1 b8.2.2 8).bind fun b9 => RET (i64.wrap (b9.1 - 1), b1.2.1, (Q2 b1), (Q3 b1), (Q4 b1), (Q5 b1), (Q6 b1), (Q7 b1), (Q8 b1), (Q9 b1), (Q10 b1), (Q11 b1), (Q12 b1), (Q13 b1), (Q14 b1), (Q15 b1), (Q16 b1), (Q17 b1), (Q18 b1), (Q19 b1), (Q20 b1), (Q21 b1), (Q22 b1), (Q23 b1), b9.2.1, b9.2.2)) (cond (b8.1 == 1) ((F26 k b8.2.1 b8.2.2 3).bind fun b10 => RET (b1.1, b1.2.1, (Q2 b1), (Q3 b1), (Q4 b1), (Q5 b1), (Q6 b1), (Q7 b1), (Q8 b1), (Q9 b1), (Q10 b1), (Q11 b1), (Q12 b1), (Q13 b1), (Q14 b1), (Q15 b1), (Q16 b1), (Q17 b1), i64.wrap ((i64.wrap ((Q11 b1) - 1)) + b10.1), (Q19 b1), (Q20 b1), (Q21 b1), (Q22 b1), (Q23 b1), b10.2.1, b10.2.2)) (cond (b8.1 == 2) (RET (b1.1, b1.2.1, (Q2 b1), (Q3 b1), (Q4 b1), (Q5 b1), (Q6 b1), (Q7 b1), (Q8 b1), (Q9 b1), (Q10 b1), (Q11 b1), (Q12 b1), (Q13 b1), (Q14 b1), (Q15 b1), (!(Q16 b1)), (Q17 b1), (Q18 b1), (Q19 b1), (Q20 b1), (Q21 b1), (Q22 b1), (Q23 b1), b8.2.1, b8.2.2)) (cond (b8.1 == 3) (RET (b1.1, b1.2.1, (Q2 b1), (Q3 b1), (Q4 b1), (Q5 b1), (Q5 b1), (Q7 b1), (Q8 b1), (Q9 b1), (Q10 b1), (Q11 b1), (Q12 b1), (Q13 b1), (Q14 b1), (Q15 b1), (Q16 b1), (Q17 b1), (Q18 b1), (Q19 b1), (Q20 b1), (Q21 b1), (Q22 b1), (Q23 b1), b8.2.1, b8.2.2)) (cond (b8.1 == 4) (RET (b1.1, b1.2.1, (Q2 b1), (Q3 b1), (Q4 b1), (Q5 b1), (Q6 b1), (Q7 b1), (Q8 b1), (Q9 b1), (Q10 b1), (Q11 b1), (Q12 b1), (Q13 b1), (Q14 b1), (Q15 b1), (Q16 b1), (Q17 b1), (Q18 b1), (Q19 b1), 9, (Q21 b1), (Q22 b1), (Q23 b1), b8.2.1, b8.2.2)) (RET (b1.1, b1.2.1, 0, (Q3 b1), (Q4 b1), (Q5 b1), (Q6 b1), (Q7 b1), (Q8 b1), (Q9 b1), (Q10 b1), (Q11 b1), (Q12 b1), (Q13 b1), (Q14 b1), (Q15 b1), (Q16 b1), (Q17 b1), (Q18 b1), (Q19 b1), (Q20 b1), (Q21 b1), (Q22 b1), (Q23 b1), b8.2.1, b8.2.2))))))) (RET (b1.1, b1.2.1, (Q2 b1), (Q3 b1), (Q4 b1), (Q5 b1), (Q6 b1), (Q7 b1), (Q8 b1), (Q9 b1), (Q10 b1), (Q11 b1), (Q12 b1), (Q13 b1), (Q14 b1), (Q15 b1), (Q16 b1), (Q17 b1), (Q18 b1), (Q19 b1), (Q20 b1), (Q21 b1), (Q22 b1), (Q23 b1), b7.2.1, b7.2.2)))
def F27 := F27_T (β := F27_R) some
theorem F27_ev {β : Type} (k : Nat) (v0 : L_u8) (v1 w : Int) (K : KT β) : evalF (F27_E k) Tryz.f27 (F27_a v0 v1 w) K = (F27 k v0 v1 w).bind fun r => K (F27_r r) :=
 Eq.trans (b := F27_T (fun r => K (F27_r r)) k v0 v1 w) (by kernel_rfl) (by simp only [F27, F27_T, z1, z2, z3, z4, z5])
theorem F27_tOk (k : Nat) : TabFn Tryz.prog (F27_t k) := .ent (F62_q k) F62_f (.ent (F26_q k) F26_f (.ent (F63_q k) F63_f (.none)))
noncomputable def F27_p (k : Nat) : List Arg → Option CR := cleC F27_sh (F27 k) F27_r
theorem F27_q (k : Nat) : ∀ xs cr, F27_p k xs = some cr → Contract Tryz.prog 27 xs cr := cleC_ok fun x => con_of (envOk (F27_tOk k) _ _ _ _) mixed Tryz.func27 rfl rfl (F27_ev k _ _ _ some)
theorem F27_f : FnOk Tryz.prog 27 := .of (by kernel_rfl)
def F20_t (k : Nat) : Tab := entT 23 (F23_p k) <| entT 27 (F27_p k) <| entT 26 (F26_p k) <| noTab
abbrev F20_E (k : Nat) : Env := env (F20_t k) noHint .own [] k
abbrev F20_R : Type := Int × Int × Int × Int × Int × Int × Int × L_u8 × Int × Int × L_rng × Int × Int × L_u8 × L_erl × Bool × Bool × Bool × Int × Int × Int × Int × Int × Int × Int
abbrev F20_sh : List AK := [.one (.l (.sl .ro (.int .u8)))]
noncomputable abbrev F20_a := arC F20_sh
def F20_r (r : F20_R) : A × List (List Leaf) := (.tup [(true, [vI r.1, vI r.2.1, vI (Q2 r), vI (Q3 r), vI (Q4 r), vI (Q5 r), vI (Q6 r), .s .ro (.int .u8) (Q7 r), vI (Q8 r), vI (Q9 r), .s .ro rng (Q10 r), vI (Q11 r), vI (Q12 r), .s .ro (.int .u8) (Q13 r), .s .ro erl (Q14 r), vB (Q15 r), vB (Q16 r), vB (Q17 r), vI (Q18 r), vI (Q19 r), vI (Q20 r), vI (Q21 r), vI (Q22 r), vI (Q23 r)]), (false, [vI (R24 r)])], [])
def F20_T {β : Type} (RET : F20_R → Option β) (k : Nat) (v : L_u8) : Option β := (F23 k v).bind fun b1 => (F27 k b1.1 b1.2 15).bind fun b2 => (F26 k (Q24 b2) (R24 b2).2 256).bind fun b3 => RET (b2.1, b2.2.1, (Q2 b2), (Q3 b2), (Q4 b2), (Q5 b2), (Q6 b2), (Q7 b2), (Q8 b2), (Q9 b2), (Q10 b2), (Q11 b2), (Q12 b2), (Q13 b2), (Q14 b2), (Q15 b2), (Q16 b2), (Q17 b2), (Q18 b2), (Q19 b2), (Q20 b2), (Q21 b2), (Q22 b2), (Q23 b2), i64.wrap (b3.1 * 4))
def F20 := F20_T (β := F20_R) some
theorem F20_ev {β : Type} (k : Nat) (v : L_u8) (K : KT β) : evalF (F20_E k) Tryz.f20 (F20_a v) K = (F20 k v).bind fun r => K (F20_r r) :=
 Eq.trans (b := F20_T (fun r => K (F20_r r)) k v) (by kernel_rfl) (by simp only [F20, F20_T, z1, z2, z3, z4, z5])
theorem F20_tOk (k : Nat) : TabFn Tryz.prog (F20_t k) := .ent (F23_q k) F23_f (.ent (F27_q k) F27_f (.ent (F26_q k) F26_f (.none)))
noncomputable def F20_p (k : Nat) : List Arg → Option CR := cleC F20_sh (F20 k) F20_r
theorem F20_q (k : Nat) : ∀ xs cr, F20_p k xs = some cr → Contract Tryz.prog 20 xs cr := cleC_ok fun x => con_of (envOk (F20_tOk k) _ _ _ _) mixed Tryz.func20 rfl rfl (F20_ev k _ some)
theorem F20_f : FnOk Tryz.prog 20 := .of (by kernel_rfl)
def F5_t (k : Nat) : Tab := entT 20 (F20_p k) <| entT 21 (F21_p k) <| entT 22 (F22_p k) <| entT 9 (F9_p k) <| entT 10 (F10_p k) <| entT 11 (F11_p k) <| entT 12 (F12_p k) <| entT 16 (F16_p k) <| entT 14 (F14_p k) <| noTab
abbrev F5_E (k : Nat) : Env := env (F5_t k) noHint .own [] k
abbrev F5_sh : List AK := [.one (.l (.sl .ro (.int .u8)))]
noncomputable abbrev F5_a := arC F5_sh
def F5_r (r : Bool) : A × List (List Leaf) := (.one (vB r), [])
def F5_T {β : Type} (RET : Bool → Option β) (k : Nat) (v : L_u8) : Option β := cond (decide ((v.length : Int) > 1048576)) (RET true) ((F20 k v).bind fun b1 => (F21 k b1.1 b1.2.1 (Q2 b1) (Q3 b1) (Q4 b1) (Q5 b1) (Q6 b1) (Q7 b1) (Q8 b1) (Q9 b1) (Q10 b1) (Q11 b1) (Q12 b1) (Q13 b1) (Q14 b1) (Q15 b1) (Q16 b1) (Q17 b1) (Q18 b1) (Q19 b1) (Q20 b1) (Q21 b1) (Q22 b1) (Q23 b1) (R24 b1)).bind fun b2 => (F22 k b1.1 b1.2.1 (Q2 b1) (Q3 b1) (Q4 b1) (Q5 b1) (Q6 b1) (Q7 b1) (Q8 b1) (Q9 b1) (Q10 b1) (Q11 b1) (Q12 b1) (Q13 b1) (Q14 b1) (Q15 b1) (Q16 b1) (Q17 b1) (Q18 b1) (Q19 b1) (Q20 b1) (Q21 b1) (Q22 b1) (Q23 b1) (R24 b1)).bind fun b3 => (F9 k b2.1 b2.2.1 (Q2 b2) (Q3 b2) (Q4 b2) (Q5 b2) (Q6 b2) (Q7 b2) (Q8 b2) (Q9 b2) (Q10 b2) (Q11 b2) (Q12 b2) (Q13 b2) (Q14 b2) (Q15 b2) (Q16 b2) (Q17 b2) (Q18 b2) (Q19 b2) (Q20 b2) (Q21 b2) (Q22 b2) (Q23 b2) b3.1 b3.2.1 (Q2 b3) (Q3 b3) (Q4 b3) (Q5 b3) (Q6 b3) (Q7 b3) (Q8 b3) (Q9 b3) (Q10 b3) (Q11 b3) (Q12 b3) (Q13 b3) (Q14 b3) (Q15 b3) (Q16 b3) (Q17 b3) (Q18 b3) (Q19 b3) (Q20 b3) (Q21 b3) (Q22 b3) (Q23 b3)).bind fun b4 => cond (!b4) (RET false) ((F10 k (R24 b2) (R24 b3)).bind fun b5 => cond (!b5) (RET false) ((F11 k b1.1 b1.2.1 (Q2 b1) (Q3 b1) (Q4 b1) (Q5 b1) (Q6 b1) (Q7 b1) (Q8 b1) (Q9 b1) (Q10 b1) (Q11 b1) (Q12 b1) (Q13 b1) (Q14 b1) (Q15 b1) (Q16 b1) (Q17 b1) (Q18 b1) (Q19 b1) (Q20 b1) (Q21 b1) (Q22 b1) (Q23 b1)).bind fun b6 => cond (!b6) (cond (((R24 b2).length : Int) == 0) ((F12 k).bind fun b7 => RET b7) (RET false)) ((F21 k b2.1 b2.2.1 (Q2 b2) (Q3 b2) (Q4 b2) (Q5 b2) (Q6 b2) (Q7 b2) (Q8 b2) (Q9 b2) (Q10 b2) (Q11 b2) (Q12 b2) (Q13 b2) (Q14 b2) (Q15 b2) (Q16 b2) (Q17 b2) (Q18 b2) (Q19 b2) (Q20 b2) (Q21 b2) (Q22 b2) (Q23 b2) (R24 b1)).bind fun b8 => (F16 k b2.1 b2.2.1 (Q2 b2) (Q3 b2) (Q4 b2) (Q5 b2) (Q6 b2) (Q7 b2) (Q8 b2) (Q9 b2) (Q10 b2) (Q11 b2) (Q12 b2) (Q13 b2) (Q14 b2) (Q15 b2) (Q16 b2) (Q17 b2) (Q18 b2) (Q19 b2) (Q20 b2) (Q21 b2) (Q22 b2) (Q23 b2) [1, 2] (R24 b1)).bind fun b9 => (F11 k b2.1 b2.2.1 (Q2 b2) (Q3 b2) (Q4 b2) (Q5 b2) (Q6 b2) (Q7 b2) (Q8 b2) (Q9 b2) (Q10 b2) (Q11 b2) (Q12 b2) (Q13 b2) (Q14 b2) (Q15 b2) (Q16 b2) (Q17 b2) (Q18 b2) (Q19 b2) (Q20 b2) (Q21 b2) (Q22 b2) (Q23 b2)).bind fun b10 => cond b10 ((F14 k (R24 b2)).bind fun b11 => cond b11 (cond (Q15 b2) (cond ((Q24 b9) == 0) ((F9 k b8.1 b8.2.1 (Q2 b8) (Q3 b8) (Q4 b8) (Q5 b8) (Q6 b8) (Q7 b8) (Q8 b8) (Q9 b8) (Q10 b8) (Q11 b8) (Q12 b8) (Q13 b8) (Q14 b8) (Q15 b8) (Q16 b8) (Q17 b8) (Q18 b8) (Q19 b8) (Q20 b8) (Q21 b8) (Q22 b8) (Q23 b8) b2.1 b2.2.1 (Q2 b2) (Q3 b2) (Q4 b2) (Q5 b2) (Q6 b2) (Q7 b2) (Q8 b2) (Q9 b2) (Q10 b2) (Q11 b2) (Q12 b2) (Q13 b2) (Q14 b2) (Q15 b2) (Q16 b2) (Q17 b2) (Q18 b2) (Q19 b2) (Q20 b2) (Q21 b2) (Q22 b2) (Q23 b2)).bind fun b12 => cond b12 (RET (((R24 b8).length : Int) == 0)) (RET false)) (RET false)) (RET false)) (RET false)) (RET false)))))
def F5 := F5_T (β := Bool) some
theorem F5_ev {β : Type} (k : Nat) (v : L_u8) (K : KT β) : evalF (F5_E k) Tryz.f5 (F5_a v) K = (F5 k v).bind fun r => K (F5_r r) :=
 Eq.trans (b := F5_T (fun r => K (F5_r r)) k v) (by kernel_rfl) (by simp only [F5, F5_T, z1, z2, z3, z4, z5])
theorem F5_tOk (k : Nat) : TabFn Tryz.prog (F5_t k) := .ent (F20_q k) F20_f (.ent (F21_q k) F21_f (.ent (F22_q k) F22_f (.ent (F9_q k) F9_f (.ent (F10_q k) F10_f (.ent (F11_q k) F11_f (.ent (F12_q k) F12_f (.ent (F16_q k) F16_f (.ent (F14_q k) F14_f (.none)))))))))
theorem F5_con (k : Nat) (v : L_u8) : Contract Tryz.prog 5 (F5_a v) ⟨F5 k v, F5_r⟩ := con_of (envOk (F5_tOk k) _ _ _ _) mixed Tryz.func5 rfl rfl (F5_ev k v some)
end
end Go.Proofs.YtgbmdojleednhaaGreat.Gn
end

section
namespace Go.Proofs.YtgbmdojleednhaaGreat.Gn
open Go.Rf Go.IntWalk
set_option linter.unusedVariables false
set_option linter.unusedSimpArgs false
def inB (a b c : Int) : Bool := decide (b ≤ a) && decide (a ≤ c)
theorem F35_eq (k : Nat) (a b c : Int) : F35 k a b c = some (inB a b c) := by
 unfold F35 inB
 have : decide (a ≥ b) = decide (b ≤ a) := rfl
 rw [this]
 cases decide (b ≤ a) <;> rfl
theorem F42_eq (k : Nat) (a b c : Int) : F42 k a b c = some (inB a b c) := F35_eq k a b c
theorem F30_eq (k : Nat) (a : Int) : F30 k a = some (inB a 1 255) := by unfold F30; rw [F42_eq]; rfl
theorem F29_eq (k : Nat) (a : Int) : F29 k a = some (inB a 0 65535) := by unfold F29; rw [F42_eq]; rfl
abbrev u8L : Type := List (den (.int .u8))
abbrev rgL : Type := List (den rng)
theorem some_cond {α : Type} (c : Bool) (a b : α) : cond c (some a) (some b) = some (cond c a b) := by cases c <;> rfl
def seqOf (a : Int) : Int := cond (decide (a.tmod 65536 < 0)) (IntKind.i64.wrap (a.tmod 65536 + 65536)) (a.tmod 65536)
theorem F96_val (k : Nat) (a : Int) : F96 k a = some (seqOf a) := by unfold F96 seqOf; rw [some_cond]
theorem F113_eq (k : Nat) (l : rgL) : F113 k l = some l := by
 simp only [F113, F113_T]
 rw [decide_eq_true (by omega : (0 : Int) ≤ ((l.length : Nat) : Int))]
 simp
theorem F112_eq (k : Nat) (l : u8L) : F112 k l = some l := by
 simp only [F112, F112_T]
 rw [decide_eq_true (by omega : (0 : Int) ≤ ((l.length : Nat) : Int))]
 simp
theorem F91_eq (k : Nat) (l : rgL) (h : l.length ≤ 4194304) : F91 k l = some l := by
 simp only [F91, F91_T, F113_eq, List.nil_append, List.length_nil, Nat.zero_add]
 rw [decide_eq_true (by omega : l.length * 16 ≤ 140737488355328)]
 cases l with
 | nil => rfl
 | cons a r => rw [show ((((a :: r).length : Nat) : Int) == 0) = false by rw [beq_eq_false_iff_ne]; simp only [List.length_cons]; omega]; rfl
theorem F90_eq (k : Nat) (l : u8L) (h : l.length ≤ 4194304) : F90 k l = some l := by
 simp only [F90, F90_T, F112_eq, List.nil_append, List.length_nil, Nat.zero_add]
 rw [decide_eq_true (by omega : l.length * 1 ≤ 140737488355328)]
 cases l with
 | nil => rfl
 | cons a r => rw [show ((((a :: r).length : Nat) : Int) == 0) = false by rw [beq_eq_false_iff_ne]; simp only [List.length_cons]; omega]; rfl
theorem eqD_rng (a b : den rng) : eqD rng a b = decide (a = b) := by
 obtain ⟨a1, a2⟩ := a
 obtain ⟨b1, b2⟩ := b
 simp only [eqD]
 have e : ((a1, a2) = (b1, b2)) ↔ (a1 = b1 ∧ a2 = b2) := Prod.mk.injEq .. ▸ Iff.rfl
 by_cases h1 : a1 = b1 <;> by_cases h2 : a2 = b2 <;> simp [h1, h2, e]
theorem F74_l (k : Nat) (a b : rgL) (hlen : a.length = b.length) (h9 : a.length ≤ 4194304) (k9 : a.length < k) : F74_l0 k a b k 0 = some (decide (a = b)) :=
 eqLoop a b (fun n j => F74_l0 k a b n j) hlen
  (fun n j h h' => by
   simp only [F74_l0, F74_l0_T]
   rw [atI_get a j h, atI_get b j h', eqD_rng, up1 j (by omega)]
   rw [decide_eq_true (by omega : ((j : Nat) : Int) < (a.length : Nat)), decide_eq_true (by omega : ((j : Nat) : Int) < (b.length : Nat)), decide_eq_true (by omega : (0 : Int) ≤ (j : Nat))]
   by_cases hc : a[j] = b[j]
   ·rw [decide_eq_true hc, if_pos hc]; rfl
   ·rw [decide_eq_false hc, if_neg hc]; rfl)
  (fun n => by
   simp only [F74_l0, F74_l0_T]
   rw [decide_eq_false (by omega : ¬ ((a.length : Nat) : Int) < (a.length : Nat))]; rfl) k 0 (Nat.zero_le _) (by omega)
theorem F74_eq (k : Nat) (a b : rgL) (h9 : a.length ≤ 4194304) (k9 : a.length < k) : F74 k a b = some (decide (a = b)) := by
 simp only [F74, F74_T]
 by_cases hlen : a.length = b.length
 ·rw [F74_l k a b hlen h9 k9, hlen]; simp
 ·rw [show (((a.length : Nat) : Int) != ((b.length : Nat) : Int)) = true by rw [bne_iff_ne]; omega, cond_true, decide_eq_false (fun h => hlen (by rw [h]))]
def gR (x : Int) (a : den rng) : den rng := (x, x + 1)
def gB (x : Int) (a : den (.int .u8)) : den (.int .u8) := IntKind.u8.wrap x
theorem bs {α β : Type} {o : Option α} {f : α → Option β} {x : α} (h : o = some x) : o.bind f = f x := by rw [h]; rfl
theorem cf {α : Type} {c : Bool} {a b : α} (h : c = false) : cond c a b = b := by rw [h]; rfl
theorem ct {α : Type} {c : Bool} {a b : α} (h : c = true) : cond c a b = a := by rw [h]; rfl
def rgB (a : den rng) : Bool := inB a.1 0 65535 && inB a.2 0 65535
def okT (a3 a4 : Int) (a5 a6 a7 a8 : Bool) (a9 : rgL) (a10 : u8L) : Bool :=
 cond (!a6) (cond (a3 != 0) false (cond (a4 != 0) false (cond (decide (((a9.length : Nat) : Int) > 0)) false (cond (!a8) true (cond (!a5) (cond (!a7) (((a10.length : Nat) : Int) == 0) false) false)))))
  (cond (!a8) true (cond (!a5) (cond (!a7) (((a10.length : Nat) : Int) == 0) false) false))
def okS (a0 a1 a2 a3 a4 : Int) (a5 a6 a7 a8 : Bool) (a9 : List (den rng)) (a10 : List (den (.int .u8))) : Bool :=
 inB a0 1 255 && inB a1 1 255 && inB a2 0 65535 && inB a3 0 65535 && inB a4 0 255 && !(decide (((a9.length : Nat) : Int) > 2)) && !(decide (((a10.length : Nat) : Int) > 12)) && (a9.all rgB && okT a3 a4 a5 a6 a7 a8 a9 a10)
theorem F106_l (k : Nat) (a0 a1 a2 a3 a4 : Int) (a5 a6 a7 a8 : Bool) (a9 : List (den rng)) (a10 : List (den (.int .u8))) (h9 : a9.length ≤ 1048576) (k9 : a9.length < k) : F106_l0 k a0 a1 a2 a3 a4 a5 a6 a7 a8 a9 a10 k 0 = some (a9.all rgB && okT a3 a4 a5 a6 a7 a8 a9 a10) := by
 have := scanLoop a9 (fun n (_ : Unit) j => F106_l0 k a0 a1 a2 a3 a4 a5 a6 a7 a8 a9 a10 n j) (fun _ _ a => cond (rgB a) (.inl ()) (.inr false)) (fun _ => okT a3 a4 a5 a6 a7 a8 a9 a10)
  (fun n s j h => by
   simp only [F106_l0, F106_l0_T]
   rw [atI_get a9 j h, F35_eq, F35_eq, up1 j (by omega)]
   simp only [Option.bind_some]
   rw [decide_eq_true (by omega : ((j : Nat) : Int) < (a9.length : Nat)), decide_eq_true (by omega : (0 : Int) ≤ (j : Nat))]
   unfold rgB
   cases inB a9[j].1 0 65535 <;> cases inB a9[j].2 0 65535 <;> rfl)
  (fun n s => by
   simp only [F106_l0, F106_l0_T]
   rw [decide_eq_false (by omega : ¬ ((a9.length : Nat) : Int) < (a9.length : Nat))]
   simp only [cond_false, some_cond, okT]) k () 0 (Nat.zero_le _) (by omega)
 rw [scan_all, List.drop_zero] at this
 exact this
theorem F106_eq (k : Nat) (a0 a1 a2 a3 a4 : Int) (a5 a6 a7 a8 : Bool) (a9 : List (den rng)) (a10 : List (den (.int .u8))) (h9 : a9.length ≤ 1048576) (k9 : a9.length < k) : F106 k a0 a1 a2 a3 a4 a5 a6 a7 a8 a9 a10 = some (okS a0 a1 a2 a3 a4 a5 a6 a7 a8 a9 a10) := by
 simp only [F106, F106_T]
 rw [F106_l k a0 a1 a2 a3 a4 a5 a6 a7 a8 a9 a10 h9 k9]
 simp only [F35_eq, Option.bind_some, okS]
 cases inB a0 1 255 <;> try rfl
 cases inB a1 1 255 <;> try rfl
 cases inB a2 0 65535 <;> try rfl
 cases inB a3 0 65535 <;> try rfl
 cases inB a4 0 255 <;> try rfl
 cases decide (((a9.length : Nat) : Int) > 2) <;> try rfl
 cases decide (((a10.length : Nat) : Int) > 12) <;> rfl
theorem F80_eq (k : Nat) (a b : Int) : F80 k a b = some (!(rgB (a, b))) := by
 unfold F80 rgB
 rw [F29_eq, F29_eq]
 simp only [Option.bind_some]
 cases inB a 0 65535 <;> cases inB b 0 65535 <;> rfl
theorem F79_eq (k : Nat) (l : rgL) (h9 : l.length ≤ 1048576) (k9 : l.length < k) : F79 k l = some (!(l.all rgB)) := by
 have := scanLoop l (fun n (_ : Unit) j => F100_l0 k l n j) (fun _ j a => cond (rgB a) (.inl ()) (.inr (j : Int))) (fun _ => -1)
  (fun n s j h => by
   simp only [F100_l0, F100_l0_T]
   rw [atI_get l j h, F80_eq, up1 j (by omega)]
   simp only [Option.bind_some]
   rw [decide_eq_true (by omega : ((j : Nat) : Int) < (l.length : Nat)), decide_eq_true (by omega : (0 : Int) ≤ (j : Nat))]
   show cond true (cond true (cond true (cond (!rgB l[j]) _ _) _) _) _ = _
   cases rgB l[j] <;> rfl)
  (fun n s => by
   simp only [F100_l0, F100_l0_T]
   rw [decide_eq_false (by omega : ¬ ((l.length : Nat) : Int) < (l.length : Nat))]; rfl) k () 0 (Nat.zero_le _) (by omega)
 rw [List.drop_zero] at this
 have hs : ∀ (r : rgL) (j : Nat), (decide (scan (fun (_ : Unit) j a => cond (rgB a) (.inl ()) (.inr (j : Int))) (fun _ => (-1 : Int)) () j r ≥ 0)) = !(r.all rgB) := by
  intro r
  induction r with
  | nil => intro j; rfl
  | cons a r ih =>
   intro j
   rw [scan, List.all_cons]
   cases rgB a with
   | true => simpa using ih (j + 1)
   | false => simp
 simp only [F79, F100, F100_T]
 have this2 : F100_l0 k l k 0 = _ := this
 rw [this2, Option.bind_some, hs l 0]
theorem F51_eq (k : Nat) (a0 a1 a2 a3 a4 : Int) (a5 a6 a7 a8 : Bool) (a9 : List (den rng)) (a10 : List (den (.int .u8))) (h9 : a9.length ≤ 1048576) (k9 : a9.length < k) : F51 k a0 a1 a2 a3 a4 a5 a6 a7 a8 a9 a10 = some (okS a0 a1 a2 a3 a4 a5 a6 a7 a8 a9 a10) := by
 simp only [F51, F51_T]
 rw [F79_eq k a9 h9 k9]
 simp only [F30_eq, F29_eq, F42_eq, Option.bind_some, some_cond, okS]
 cases inB a0 1 255 <;> try rfl
 cases inB a1 1 255 <;> try rfl
 cases inB a2 0 65535 <;> try rfl
 cases inB a3 0 65535 <;> try rfl
 cases inB a4 0 255 <;> try rfl
 cases decide (((a9.length : Nat) : Int) > 2) <;> try rfl
 cases decide (((a10.length : Nat) : Int) > 12) <;> try rfl
 cases a9.all rgB <;> rfl
theorem F101_eq (k : Nat) (a : Int) (h : 0 ≤ a ∧ a ≤ 16777216) : F101 k a = some [] := by
 simp only [F101, F101_T]
 rw [decide_eq_false (by omega : ¬ a < 0), i64_in _ (by omega)]
 by_cases h0 : a = 0
 ·subst h0; rfl
 ·rw [decide_eq_true (by omega : a - 0 > 0), decide_eq_true (by omega : (a - 0) * (1 : Nat) ≤ 140737488355328)]
  rw [decide_eq_true (by omega : (0 : Int) ≤ (((List.replicate ((a - 0).toNat) (dflt (.int .u8))).length : Nat) : Int))]
  rfl
theorem F81_eq (n : Nat) (x y : u8L) (hx : x.length ≤ 1048576) (hy : y.length ≤ 1048576) : F81 (n + 4) [x, y] = some (x ++ y) := by
 have hl2 : F81_l2 (n + 4) [x, y] (n + 4) 0 [] = some (x ++ y) := by
  have e0 : atI (t := .sl (.int .u8)) [x, y] 0 = x := rfl
  have e1 : atI (t := .sl (.int .u8)) [x, y] 1 = y := rfl
  have w1 : IntKind.i64.wrap (0 + 1) = 1 := rfl
  have w2 : IntKind.i64.wrap (1 + 1) = 2 := rfl
  simp only [F81_l2, F81_l2_T, w1, w2, e0, e1, List.nil_append, List.length_nil, Nat.zero_add]
  rw [decide_eq_true (by omega : x.length * 1 ≤ 140737488355328), decide_eq_true (by omega : (x.length + y.length) * 1 ≤ 140737488355328)]
  rfl
 have hl0 : F81_l0 (n + 4) [x, y] (n + 4) 0 0 = some (x ++ y) := by
  have e0 : atI (t := .sl (.int .u8)) [x, y] 0 = x := rfl
  have e1 : atI (t := .sl (.int .u8)) [x, y] 1 = y := rfl
  have w1 : IntKind.i64.wrap (0 + 1) = 1 := rfl
  have w2 : IntKind.i64.wrap (1 + 1) = 2 := rfl
  have w3 : IntKind.i64.wrap (0 + (x.length : Int)) = (x.length : Int) := by rw [i64_in _ (by omega)]; omega
  have w4 : IntKind.i64.wrap ((x.length : Int) + (y.length : Int)) = (x.length : Int) + (y.length : Int) := i64_in _ (by omega)
  simp only [F81_l0, F81_l0_T, w1, w2, e0, e1, w3, w4]
  rw [decide_eq_false (by omega : ¬ ((x.length : Nat) : Int) < 0), decide_eq_false (by omega : ¬ ((x.length : Nat) : Int) + ((y.length : Nat) : Int) < 0),
   F101_eq (n + 4) ((x.length : Int) + (y.length : Int)) (by omega), Option.bind_some, hl2]
  rfl
 simp only [F81, F81_T]
 exact hl0
abbrev sgL : Type := List (den seg)
def gS (y : Int) (s : den seg) : den seg :=
 (y, y + 1, y + 2, y + 3, y + 4, (y + 5).tmod 3 == 0, (y + 6).tmod 3 == 0, (y + 7).tmod 3 == 0, (y + 8).tmod 3 == 0, marks gR (fun _ => 2) (y + 9) s.2.2.2.2.2.2.2.2.2.1,
  marks gB (fun _ => 1) (y + 9 + 2 * (s.2.2.2.2.2.2.2.2.2.1.length : Int)) s.2.2.2.2.2.2.2.2.2.2)
def shortS (n : Nat) (s : den seg) : Prop := s.2.2.2.2.2.2.2.2.2.1.length ≤ n ∧ s.2.2.2.2.2.2.2.2.2.2.length ≤ n
abbrev erL : Type := List (den erl)
def chkQ {α : Type} (A : α → Bool) (B : α → α → Bool) : α → List α → Bool
 | _, [] => true
 | p, a :: r => A a && B p a && chkQ A B a r
def chkP {α : Type} (A : α → Bool) (B : α → α → Bool) : List α → Bool
 | [] => true
 | a :: r => A a && chkQ A B a r
theorem scanPrev {α : Type} (l : List α) (A : α → Bool) (B : α → α → Bool) (L : Nat → Int → Option Bool)
  (h0 : ∀ (n : Nat) (h : 0 < l.length), L (n + 1) ((0 : Nat) : Int) = cond (A l[0]) (L n ((1 : Nat) : Int)) (some false))
  (hs : ∀ (n j : Nat) (h : j + 1 < l.length), L (n + 1) ((j + 1 : Nat) : Int) = cond (A l[j + 1] && B l[j] l[j + 1]) (L n ((j + 1 + 1 : Nat) : Int)) (some false))
  (he : ∀ n : Nat, L (n + 1) (l.length : Nat) = some true) (n : Nat) (hn : l.length < n) : L n ((0 : Nat) : Int) = some (chkP A B l) := by
 have main : ∀ (n j : Nat) (h : j < l.length), l.length - (j + 1) < n → L n ((j + 1 : Nat) : Int) = some (chkQ A B l[j] (l.drop (j + 1))) := by
  intro n
  induction n with
  | zero => intro j _ h; omega
  | succ n ih =>
   intro j h hn
   rcases Nat.lt_or_ge (j + 1) l.length with hlt | hge
   ·rw [hs n j hlt, List.drop_eq_getElem_cons hlt, chkQ]
    cases A l[j + 1] && B l[j] l[j + 1] with
    | true => rw [cond_true, ih (j + 1) hlt (by omega), Bool.true_and]
    | false => rfl
   ·have e : j + 1 = l.length := by omega
    rw [e, he, List.drop_length]; rfl
 cases n with
 | zero => omega
 | succ n =>
  rcases Nat.eq_zero_or_pos l.length with hz | hp
  ·have := he n
   rw [hz] at this
   rw [this, List.length_eq_zero_iff.1 hz]; rfl
  ·rw [h0 n hp]
   have hm := main n 0 hp (by omega)
   have e : l = l[0] :: l.drop 1 := by rw [← List.drop_eq_getElem_cons hp, List.drop_zero]
   rw [show some (chkP A B l) = some (chkP A B (l[0] :: l.drop 1)) by rw [← e], chkP]
   cases A l[0] with
   | true => rw [cond_true, hm, Bool.true_and]
   | false => rfl
theorem dle (a b : Int) : decide (a ≤ b) = !decide (b < a) := by by_cases h : a ≤ b <;> simp [h] <;> omega
theorem dge (a b : Int) : decide (a ≥ b) = !decide (a < b) := dle b a
theorem dgt (a b : Int) : decide (a > b) = decide (b < a) := rfl
theorem wpred (j : Nat) (h : j < 2 ^ 62) : IntKind.i64.wrap (((j + 1 : Nat) : Int) - 1) = (j : Int) := by rw [i64_in _ (by omega)]; omega
def clkB (c0 c1 c2 : Int) : Bool := inB c0 0 80000 && inB c1 0 80000 && inB c2 4 200
theorem F69_eq (k : Nat) (a b c : Int) : F69 k a b c = some (clkB a b c) := by
 simp only [F69, F69_T, F35_eq, Option.bind_some, clkB]
 cases inB a 0 80000 <;> cases inB b 0 80000 <;> rfl
theorem F45_eq (k : Nat) (a b c : Int) : F45 k a b c = some (clkB a b c) := by
 simp only [F45, F45_T, F42_eq, Option.bind_some, clkB]
 cases inB a 0 80000 <;> cases inB b 0 80000 <;> rfl
def mA (m0 m2 : Int) (r : Int × Int) : Bool := decide (m0 < r.1) && (decide (r.1 < r.2) && decide (r.2 ≤ m0 + m2))
def mB (p r : Int × Int) : Bool := decide (p.2 < r.1)
theorem chkQ_R (m0 m2 : Int) : ∀ (l : List (Int × Int)) (p : Int × Int), m0 < p.2 → chkQ (mA m0 m2) mB p l = chkR (m0 + m2) p.2 l
 | [], _, _ => rfl
 | (x, y) :: l, (u, v), h => by
  have h : m0 < v := h
  have ih := fun hh => chkQ_R m0 m2 l (x, y) hh
  simp only [chkQ, chkR, mA, mB] at ih ⊢
  by_cases hc : v < x ∧ x < y ∧ y ≤ m0 + m2
  ·rw [ih (by omega), decide_eq_true (by omega : m0 < x), decide_eq_true hc.1, decide_eq_true hc.2.1, decide_eq_true hc.2.2]; rfl
  ·by_cases c1 : v < x <;> by_cases c2 : x < y <;> by_cases c3 : y ≤ m0 + m2 <;> simp [c1, c2, c3] <;> exact absurd ⟨c1, c2, c3⟩ hc
theorem chkP_R (m0 m2 : Int) (l : List (Int × Int)) : chkP (mA m0 m2) mB l = chkR (m0 + m2) m0 l := by
 cases l with
 | nil => rfl
 | cons r l =>
  obtain ⟨x, y⟩ := r
  have h := chkQ_R m0 m2 l (x, y)
  simp only [chkP, chkR, mA] at h ⊢
  by_cases hc : m0 < x ∧ x < y
  ·rw [h (by omega), decide_eq_true hc.1, decide_eq_true hc.2]; simp
  ·by_cases c1 : m0 < x <;> by_cases c2 : x < y <;> simp [c1, c2] <;> exact absurd ⟨c1, c2⟩ hc
def mokB (m0 : Int) (m1 : List (den (.int .u8))) (m2 m3 : Int) (m4 : List (den rng)) : Bool :=
 inB m0 0 1000000 && (decide (((m1.length : Nat) : Int) ≤ 32) && (inB m2 0 ((m1.length : Nat) : Int) && (inB m3 0 255 && (decide (((m4.length : Nat) : Int) ≤ 2) && chkR (m0 + m2) m0 m4))))
theorem inB_iff {a b c : Int} : inB a b c = true ↔ b ≤ a ∧ a ≤ c := by unfold inB; simp
theorem F67_l (k : Nat) (m0 : Int) (m1 : List (den (.int .u8))) (m2 m3 : Int) (m4 : List (den rng)) (h0 : 0 ≤ m0 ∧ m0 ≤ 1000000) (h2 : 0 ≤ m2 ∧ m2 ≤ 32) (hl : m4.length ≤ 2) (hk : 4 ≤ k) : F67_l0 k m0 m1 m2 m3 m4 k 0 = some (chkR (m0 + m2) m0 m4) := by
 rw [← chkP_R]
 have w : IntKind.i64.wrap (m0 + m2) = m0 + m2 := i64_in _ (by omega)
 refine scanPrev m4 (mA m0 m2) mB (fun n j => F67_l0 k m0 m1 m2 m3 m4 n j) (fun n h => ?_) (fun n j h => ?_) (fun n => ?_) k (by omega)
 ·rw [F67_l0]
  unfold F67_l0_T mA
  rw [atI_get m4 0 h, up1 0 (by omega), w]
  rw [decide_eq_true (by omega : ((0 : Nat) : Int) < (m4.length : Nat)), decide_eq_true (by omega : (0 : Int) ≤ ((0 : Nat) : Int)), decide_eq_false (by omega : ¬ ((0 : Nat) : Int) > 0),
   dle m4[0].1 m0, dle m4[0].2 m4[0].1, dgt m4[0].2, dle m4[0].2 (m0 + m2)]
  cases decide (m0 < m4[0].1) <;> cases decide (m4[0].1 < m4[0].2) <;> cases decide (m0 + m2 < m4[0].2) <;> rfl
 ·rw [F67_l0]
  unfold F67_l0_T mA mB
  rw [atI_get m4 (j + 1) h, up1 (j + 1) (by omega), wpred j (by omega), w, atI_get m4 j (by omega)]
  rw [decide_eq_true (by omega : ((j + 1 : Nat) : Int) < (m4.length : Nat)), decide_eq_true (by omega : (0 : Int) ≤ ((j + 1 : Nat) : Int)), decide_eq_true (by omega : ((j + 1 : Nat) : Int) > 0),
   decide_eq_true (by omega : (0 : Int) ≤ ((j : Nat) : Int)), decide_eq_true (by omega : ((j : Nat) : Int) < (m4.length : Nat)), dle m4[j + 1].1 m0, dle m4[j + 1].2 m4[j + 1].1, dgt m4[j + 1].2, dge m4[j].2, dle m4[j + 1].2 (m0 + m2)]
  cases decide (m0 < m4[j + 1].1) <;> cases decide (m4[j + 1].1 < m4[j + 1].2) <;> cases decide (m0 + m2 < m4[j + 1].2) <;> cases decide (m4[j].2 < m4[j + 1].1) <;> rfl
 ·rw [F67_l0]
  unfold F67_l0_T
  rw [decide_eq_false (by omega : ¬ ((m4.length : Nat) : Int) < (m4.length : Nat))]; rfl
theorem F67_eq (k : Nat) (m0 : Int) (m1 : List (den (.int .u8))) (m2 m3 : Int) (m4 : List (den rng)) (hk : 4 ≤ k) : F67 k m0 m1 m2 m3 m4 = some (mokB m0 m1 m2 m3 m4) := by
 simp only [F67, F67_T, F35_eq, Option.bind_some, mokB, dgt]
 cases h0 : inB m0 0 1000000 with
 | false => rfl
 | true =>
  by_cases h1 : ((m1.length : Nat) : Int) ≤ 32
  ·rw [decide_eq_false (by omega : ¬ 32 < ((m1.length : Nat) : Int)), decide_eq_true h1]
   cases h2 : inB m2 0 ((m1.length : Nat) : Int) with
   | false => rfl
   | true =>
    cases h3 : inB m3 0 255 with
    | false => rfl
    | true =>
     by_cases h4 : ((m4.length : Nat) : Int) ≤ 2
     ·rw [decide_eq_false (by omega : ¬ 2 < ((m4.length : Nat) : Int)), decide_eq_true h4]
      rw [inB_iff] at h0 h2
      rw [F67_l k m0 m1 m2 m3 m4 h0 (by omega) (by omega) hk]; rfl
     ·rw [decide_eq_true (by omega : 2 < ((m4.length : Nat) : Int)), decide_eq_false h4]; rfl
  ·rw [decide_eq_true (by omega : 32 < ((m1.length : Nat) : Int)), decide_eq_false h1]; rfl
theorem F75_eq (k : Nat) (l : rgL) (a b : Int) (hl : l.length ≤ 1048576) (hk : l.length < k) : F75 k l a b = some (l.foldl (roF 2 b) ([], a)).1 := by
 have := foldLoopI l (fun j (s : List (Int × Int) × Int) => s.1.length ≤ j) (fun n s j => F75_l0 k l a b n s.2 j s.1) (roF 2 b) (fun s => s.1)
  (fun n s j h hp => by
   rw [F75_l0]
   unfold F75_l0_T roF
   rw [atI_get l j h, up1 j (by omega)]
   rw [decide_eq_true (by omega : ((j : Nat) : Int) < (l.length : Nat)), decide_eq_true (by omega : (0 : Int) ≤ (j : Nat)), dgt, dgt]
   have hsz : decide ((s.1.length + [l[j]].length) * 16 ≤ 140737488355328) = true := decide_eq_true (by simp; omega)
   rw [hsz]
   by_cases c1 : s.2 < l[j].1
   ·by_cases c2 : l[j].1 < l[j].2
    ·by_cases c3 : l[j].2 ≤ b
     ·by_cases c4 : ((s.1.length : Nat) : Int) < 2
      ·rw [if_pos ⟨⟨c1, c2, c3⟩, by omega⟩, decide_eq_true c1, decide_eq_true c2, decide_eq_true c3, decide_eq_true c4]; rfl
      ·rw [if_neg (fun h => c4 (by omega)), decide_eq_true c1, decide_eq_true c2, decide_eq_true c3, decide_eq_false c4]; rfl
     ·rw [if_neg (fun h => c3 h.1.2.2), decide_eq_true c1, decide_eq_true c2, decide_eq_false c3]; rfl
    ·rw [if_neg (fun h => c2 h.1.2.1), decide_eq_true c1, decide_eq_false c2]; rfl
   ·rw [if_neg (fun h => c1 h.1.1), decide_eq_false c1]; rfl)
  (fun s j h hp => by unfold roF; split <;> (try simp only [List.length_append, List.length_singleton]) <;> omega)
  (fun n s hp => by
   rw [F75_l0]
   unfold F75_l0_T
   rw [decide_eq_false (by omega : ¬ ((l.length : Nat) : Int) < (l.length : Nat)), cond_false, F91_eq k s.1 (by omega)]; rfl) k ([], a) 0 (Nat.zero_le _) (by omega) (by simp)
 exact this
theorem F43_eq (k : Nat) (m0 : Int) (m1 : List (den (.int .u8))) (m2 m3 : Int) (m4 : List (den rng)) (hk : 4 ≤ k) : F43 k m0 m1 m2 m3 m4 = some (mokB m0 m1 m2 m3 m4) := by
 simp only [F43, F43_T, F42_eq, Option.bind_some, mokB]
 cases h0 : inB m0 0 1000000 with
 | false => rfl
 | true =>
  by_cases h1 : ((m1.length : Nat) : Int) ≤ 32
  ·rw [decide_eq_true h1]
   cases h2 : inB m2 0 ((m1.length : Nat) : Int) with
   | false => rfl
   | true =>
    cases inB m3 0 255 with
    | false => rfl
    | true =>
     by_cases h4 : ((m4.length : Nat) : Int) ≤ 2
     ·rw [decide_eq_true h4]
      rw [inB_iff] at h0 h2
      have hr := ro_eq 2 (m0 + m2) m4 ([], m0) (by simp; omega)
      rw [i64_in (m0 + m2) (by omega), F75_eq k m4 m0 (m0 + m2) (by omega) (by omega)]
      have hlen := ro_len 2 (m0 + m2) m4 ([], m0)
      simp only [List.nil_append, List.length_nil, Nat.zero_add] at hr hlen
      simp only [cond_true, Option.bind_some]
      rw [F74_eq k _ m4 (by omega) (by omega)]
      simp only [Option.bind_some, Bool.true_and]
      congr 1
      cases hc : chkR (m0 + m2) m0 m4 with
      | true => rw [hc] at hr; exact decide_eq_true (hr.2 rfl)
      | false => rw [hc] at hr; exact decide_eq_false fun h => by cases hr.1 h
     ·rw [decide_eq_false h4]; rfl
  ·rw [decide_eq_false h1]; rfl
def eA (e0 e1 n : Int) (x : Int × Int) : Bool := decide (e0 < x.1) && decide (x.1 < e0 + e1 - n)
def eB (p x : Int × Int) : Bool := decide (p.1 < x.1)
def earB (e0 e1 : Int) (e2 : List (den (.int .u8))) (e3 : List (den erl)) : Bool := inB e0 0 1000000 && (inB e1 1 32 && (decide (((e2.length : Nat) : Int) ≤ e1) && chkP (eA e0 e1 ((e2.length : Nat) : Int)) eB e3))
theorem F68_l (k : Nat) (e0 e1 : Int) (e2 : List (den (.int .u8))) (e3 : List (den erl)) (h0 : 0 ≤ e0 ∧ e0 ≤ 1000000) (h1 : 1 ≤ e1 ∧ e1 ≤ 32) (h2 : ((e2.length : Nat) : Int) ≤ e1) (hl : e3.length ≤ 1048576) (hk : e3.length < k) : F68_l0 k e0 e1 e2 e3 k 0 = some (chkP (eA e0 e1 ((e2.length : Nat) : Int)) eB e3) := by
 have w1 : IntKind.i64.wrap (e0 + e1) = e0 + e1 := i64_in _ (by omega)
 have w : IntKind.i64.wrap (e0 + e1 - ((e2.length : Nat) : Int)) = e0 + e1 - ((e2.length : Nat) : Int) := i64_in _ (by omega)
 refine scanPrev e3 (eA e0 e1 ((e2.length : Nat) : Int)) eB (fun n j => F68_l0 k e0 e1 e2 e3 n j) (fun n h => ?_) (fun n j h => ?_) (fun n => ?_) k (by omega)
 ·rw [F68_l0]
  unfold F68_l0_T eA
  rw [atI_get e3 0 h, up1 0 (by omega), w1, w]
  rw [decide_eq_true (by omega : ((0 : Nat) : Int) < (e3.length : Nat)), decide_eq_true (by omega : (0 : Int) ≤ ((0 : Nat) : Int)), decide_eq_false (by omega : ¬ ((0 : Nat) : Int) > 0), dle e3[0].1 e0, dge e3[0].1]
  cases decide (e0 < e3[0].1) <;> cases decide (e3[0].1 < e0 + e1 - ((e2.length : Nat) : Int)) <;> rfl
 ·rw [F68_l0]
  unfold F68_l0_T eA eB
  rw [atI_get e3 (j + 1) h, up1 (j + 1) (by omega), wpred j (by omega), w1, w, atI_get e3 j (by omega)]
  rw [decide_eq_true (by omega : ((j + 1 : Nat) : Int) < (e3.length : Nat)), decide_eq_true (by omega : (0 : Int) ≤ ((j + 1 : Nat) : Int)), decide_eq_true (by omega : ((j + 1 : Nat) : Int) > 0),
   decide_eq_true (by omega : (0 : Int) ≤ ((j : Nat) : Int)), decide_eq_true (by omega : ((j : Nat) : Int) < (e3.length : Nat)), dle e3[j + 1].1 e0, dge e3[j + 1].1, dge e3[j].1]
  cases decide (e0 < e3[j + 1].1) <;> cases decide (e3[j + 1].1 < e0 + e1 - ((e2.length : Nat) : Int)) <;> cases decide (e3[j].1 < e3[j + 1].1) <;> rfl
 ·rw [F68_l0]
  unfold F68_l0_T
  rw [decide_eq_false (by omega : ¬ ((e3.length : Nat) : Int) < (e3.length : Nat))]; rfl
theorem F68_eq (k : Nat) (e0 e1 : Int) (e2 : List (den (.int .u8))) (e3 : List (den erl)) (hl : e3.length ≤ 1048576) (hk : e3.length < k) : F68 k e0 e1 e2 e3 = some (earB e0 e1 e2 e3) := by
 simp only [F68, F68_T, F35_eq, Option.bind_some, earB, dgt]
 cases h0 : inB e0 0 1000000 with
 | false => rfl
 | true =>
  cases h1 : inB e1 1 32 with
  | false => rfl
  | true =>
   rw [inB_iff] at h0 h1
   by_cases h2 : ((e2.length : Nat) : Int) ≤ e1
   ·rw [decide_eq_false (by omega : ¬ e1 < ((e2.length : Nat) : Int)), decide_eq_true h2, F68_l k e0 e1 e2 e3 h0 h1 h2 hl hk]; rfl
   ·rw [decide_eq_true (by omega : e1 < ((e2.length : Nat) : Int)), decide_eq_false h2]; rfl
theorem F44_l (k : Nat) (e0 e1 : Int) (e2 : List (den (.int .u8))) (e3 : List (den erl)) (h0 : 0 ≤ e0 ∧ e0 ≤ 1000000) (h1 : 1 ≤ e1 ∧ e1 ≤ 32) (h2 : ((e2.length : Nat) : Int) ≤ e1) (hl : e3.length ≤ 1048576) (hk : e3.length < k) : F44_l0 k e0 e1 e2 e3 k 0 = some (chkP (eA e0 e1 ((e2.length : Nat) : Int)) eB e3) := by
 have w0 : IntKind.i64.wrap (e1 - ((e2.length : Nat) : Int)) = e1 - ((e2.length : Nat) : Int) := i64_in _ (by omega)
 have w1 : IntKind.i64.wrap (e0 + (e1 - ((e2.length : Nat) : Int))) = e0 + (e1 - ((e2.length : Nat) : Int)) := i64_in _ (by omega)
 have w2 : IntKind.i64.wrap (e0 + (e1 - ((e2.length : Nat) : Int)) - 1) = e0 + (e1 - ((e2.length : Nat) : Int)) - 1 := i64_in _ (by omega)
 have w3 : IntKind.i64.wrap (e0 + 1) = e0 + 1 := i64_in _ (by omega)
 have hA : ∀ x : Int × Int, inB x.1 (e0 + 1) (e0 + (e1 - ((e2.length : Nat) : Int)) - 1) = eA e0 e1 ((e2.length : Nat) : Int) x := fun x => by
  unfold inB eA
  exact congr (congrArg and (decide_eq_decide.2 (by omega))) (decide_eq_decide.2 (by omega))
 refine scanPrev e3 (eA e0 e1 ((e2.length : Nat) : Int)) eB (fun n j => F44_l0 k e0 e1 e2 e3 n j) (fun n h => ?_) (fun n j h => ?_) (fun n => ?_) k (by omega)
 ·rw [F44_l0]
  unfold F44_l0_T F76
  simp only [Option.bind_some, w0, w1, w2, w3, F42_eq]
  rw [atI_get e3 0 h, up1 0 (by omega), hA]
  rw [decide_eq_true (by omega : ((0 : Nat) : Int) < (e3.length : Nat)), decide_eq_true (by omega : (0 : Int) ≤ ((0 : Nat) : Int)), decide_eq_false (by omega : ¬ ((0 : Nat) : Int) > 0)]
  cases eA e0 e1 ((e2.length : Nat) : Int) e3[0] <;> rfl
 ·rw [F44_l0]
  unfold F44_l0_T F76
  simp only [Option.bind_some, w0, w1, w2, w3, F42_eq]
  rw [atI_get e3 (j + 1) h, up1 (j + 1) (by omega), wpred j (by omega), hA, atI_get e3 j (by omega)]
  rw [decide_eq_true (by omega : ((j + 1 : Nat) : Int) < (e3.length : Nat)), decide_eq_true (by omega : (0 : Int) ≤ ((j + 1 : Nat) : Int)), decide_eq_true (by omega : ((j + 1 : Nat) : Int) > 0),
   decide_eq_true (by omega : (0 : Int) ≤ ((j : Nat) : Int)), decide_eq_true (by omega : ((j : Nat) : Int) < (e3.length : Nat)), dge e3[j].1]
  unfold eB
  cases eA e0 e1 ((e2.length : Nat) : Int) e3[j + 1] <;> cases decide (e3[j].1 < e3[j + 1].1) <;> rfl
 ·rw [F44_l0]
  unfold F44_l0_T
  rw [decide_eq_false (by omega : ¬ ((e3.length : Nat) : Int) < (e3.length : Nat))]; rfl
theorem F44_eq (k : Nat) (e0 e1 : Int) (e2 : List (den (.int .u8))) (e3 : List (den erl)) (h2 : e2.length ≤ 1048576) (hl : e3.length ≤ 1048576) (hk : e3.length < k) : F44 k e0 e1 e2 e3 = some (earB e0 e1 e2 e3) := by
 simp only [F44, F44_T, F42_eq, F76, Option.bind_some, earB]
 cases h0 : inB e0 0 1000000 with
 | false => rfl
 | true =>
  cases h1 : inB e1 1 32 with
  | false => rfl
  | true =>
   rw [inB_iff] at h0 h1
   rw [i64_in (e1 - ((e2.length : Nat) : Int)) (by omega)]
   by_cases h3 : ((e2.length : Nat) : Int) ≤ e1
   ·rw [decide_eq_false (by omega : ¬ e1 - ((e2.length : Nat) : Int) < 0), decide_eq_true h3, F44_l k e0 e1 e2 e3 h0 h1 h3 hl hk]; rfl
   ·rw [decide_eq_true (by omega : e1 - ((e2.length : Nat) : Int) < 0), decide_eq_false h3]; rfl
def IsB (o : Option Bool) (P : Prop) : Prop := ∃ b, o = some b ∧ (b = true ↔ P)
theorem IsB.ite {c : Bool} {x y : Option Bool} {P : Prop} (h1 : c = true → IsB x P) (h2 : c = false → IsB y P) : IsB (cond c x y) P := by
 cases c with
 | true => exact h1 rfl
 | false => exact h2 rfl
theorem IsB.ff {P : Prop} (h : ¬P) : IsB (some false) P := ⟨false, rfl, fun e => (by cases e), fun p => absurd p h⟩
theorem IsB.tt {P : Prop} (h : P) : IsB (some true) P := ⟨true, rfl, fun _ => h, fun _ => rfl⟩
theorem IsB.val {b : Bool} {P : Prop} (h : b = true ↔ P) : IsB (some b) P := ⟨b, rfl, h⟩
theorem IsB.mono {o : Option Bool} {P Q : Prop} (h : IsB o P) (e : P ↔ Q) : IsB o Q := by
 obtain ⟨b, h1, h2⟩ := h
 exact ⟨b, h1, h2.trans e⟩
theorem IsB.not {c : Bool} {y : Option Bool} {P Q : Prop} (h : c = true → ¬P) (h2 : c = false → IsB y P) : IsB (cond c (some false) y) P := IsB.ite (fun e => IsB.ff (h e)) h2
theorem IsB.must {c : Bool} {y : Option Bool} {P Q : Prop} (e : P ↔ (c = true ∧ Q)) (h : c = true → IsB y Q) : IsB (cond (!c) (some false) y) P := by
 cases c with
 | true => exact (h rfl).mono ⟨fun q => e.2 ⟨rfl, q⟩, fun p => (e.1 p).2⟩
 | false => exact IsB.ff fun p => by cases (e.1 p).1
theorem IsB.eq {o o' : Option Bool} {P : Prop} (h : IsB o P) (h' : IsB o' P) : ∃ b, o = some b ∧ o' = some b ∧ (b = true ↔ P) := by
 obtain ⟨b, h1, h2⟩ := h
 obtain ⟨b', h3, h4⟩ := h'
 refine ⟨b, h1, ?_, h2⟩
 rw [h3]
 cases b <;> cases b' <;> simp_all
theorem last_atG {t : Ty} (out : List (den t)) (hne : out ≠ []) : ∃ d p, out = d ++ [p] ∧ atI out ((out.length : Int) - 1) = p ∧ ∀ v : den t, out.set ((out.length : Int) - 1).toNat v = d ++ [v] := by
 obtain ⟨d, p, rfl⟩ := snoc_of hne
 refine ⟨d, p, rfl, ?_, fun v => ?_⟩
 ·have : (((d ++ [p]).length : Int) - 1) = ((d.length : Nat) : Int) := by simp
  rw [this, atI_get (d ++ [p]) d.length (by simp)]
  simp
 ·have : (((d ++ [p]).length : Int) - 1).toNat = d.length := by simp
  rw [this]
  simp
theorem chkQ_last {A : Int × Int → Bool} : ∀ (l : List (Int × Int)) (p q : Int × Int) (d : List (Int × Int)), p :: l = d ++ [q] → chkQ A eB p l = true → ∀ x ∈ p :: l, x.1 ≤ q.1
 | [], p, q, d, h, _, x, hx => by
  have : d = [] := by
   cases d with
   | nil => rfl
   | cons a d => simp at h
  subst this
  simp at h hx
  subst h hx
  exact Int.le_refl _
 | a :: l, p, q, d, h, hc, x, hx => by
  cases d with
  | nil => simp at h
  | cons b d =>
   simp only [List.cons_append, List.cons.injEq] at h
   simp only [chkQ, Bool.and_eq_true] at hc
   have ih := chkQ_last l a q d h.2 hc.2
   have hb : p.1 < a.1 := by simpa [eB] using hc.1.2
   rcases List.mem_cons.1 hx with rfl | hx
   ·have := ih a (by simp); omega
   ·exact ih x hx
theorem chkP_last {A : Int × Int → Bool} {l : List (Int × Int)} {q : Int × Int} {d : List (Int × Int)} (h : l = d ++ [q]) (hc : chkP A eB l = true) : ∀ x ∈ l, x.1 ≤ q.1 := by
 cases l with
 | nil => simp at h
 | cons p l =>
  simp only [chkP, Bool.and_eq_true] at hc
  exact chkQ_last l p q d h hc.2
def Opn (a0 n7 : Int) (a16 a17 : Bool) : Prop := a0 = 2 ∨ a0 = 3 ∨ (a0 = 4 ∧ (0 < n7 ∨ (a16 = true ∧ a17 = false)))
def P6 (a11 a18 : Int) (a14 : erL) : Prop := a18 = -1 ∨ (inB a18 a11 1000000 = true ∧ ∀ x ∈ (a14 : List (Int × Int)), x.1 < a18)
def EOK (a0 a1 a2 a3 a4 a5 a6 : Int) (a7 : List (den (.int .u8))) (a8 a9 : Int) (a10 : List (den rng)) (a11 a12 : Int) (a13 : List (den (.int .u8))) (a14 : List (den erl)) (a15 a16 a17 : Bool) (a18 a19 a20 a21 a22 a23 : Int) : Prop :=
 inB a0 0 5 = true ∧ inB a1 0 65535 = true ∧ inB a3 0 65535 = true ∧ inB a2 1 255 = true ∧ inB a4 0 255 = true ∧ inB a5 0 65535 = true ∧
  mokB a6 a7 a8 a9 a10 = true ∧ a5 < a6 ∧ earB a11 a12 a13 a14 = true ∧ clkB a21 a22 a23 = true ∧ inB a19 0 1000000 = true ∧ inB a20 0 8 = true ∧
  (a17 = true → a16 = true) ∧ (a16 = true → a15 = true ∧ a8 = (a7.length : Int) ∧ 4 ≤ a0) ∧ (a0 < 4 → a8 = 0 ∧ a6 = a5 + 1 ∧ a18 = -1) ∧
  (0 < a4 ↔ 2 ≤ a0) ∧ (Opn a0 (a7.length : Int) a16 a17 ∨ (a19 = 0 ∧ (a20 = 0 ∨ a0 = 5))) ∧ P6 a11 a18 a14
theorem mok_iff {m0 : Int} {m1 : List (den (.int .u8))} {m2 m3 : Int} {m4 : List (den rng)} : mokB m0 m1 m2 m3 m4 = true ↔ (0 ≤ m0 ∧ m0 ≤ 1000000) ∧ (m1.length : Int) ≤ 32 ∧ (0 ≤ m2 ∧ m2 ≤ (m1.length : Int)) ∧ (0 ≤ m3 ∧ m3 ≤ 255) ∧ (m4.length : Int) ≤ 2 ∧ chkR (m0 + m2) m0 m4 = true := by
 unfold mokB
 simp only [Bool.and_eq_true, inB_iff, decide_eq_true_eq]
theorem ear_iff {e0 e1 : Int} {e2 : List (den (.int .u8))} {e3 : List (den erl)} : earB e0 e1 e2 e3 = true ↔ (0 ≤ e0 ∧ e0 ≤ 1000000) ∧ (1 ≤ e1 ∧ e1 ≤ 32) ∧ (e2.length : Int) ≤ e1 ∧ chkP (eA e0 e1 ((e2.length : Nat) : Int)) eB e3 = true := by
 unfold earB
 simp only [Bool.and_eq_true, inB_iff, decide_eq_true_eq]
theorem F70_is (k : Nat) (a0 a1 a2 a3 a4 a5 a6 : Int) (a7 : List (den (.int .u8))) (a8 a9 : Int) (a10 : List (den rng)) (a11 a12 : Int) (a13 : List (den (.int .u8))) (a14 : List (den erl)) (a15 a16 a17 : Bool) (a18 a19 a20 a21 a22 a23 : Int) (h : 0 ≤ a8 ∧ a8 ≤ (a7.length : Int)) : IsB (F70 k a0 a1 a2 a3 a4 a5 a6 a7 a8 a9 a10 a11 a12 a13 a14 a15 a16 a17 a18 a19 a20 a21 a22 a23) (Opn a0 (a7.length : Int) a16 a17) := by
 unfold F70 F70_T Opn
 refine IsB.ite (fun c1 => IsB.tt (.inl (by simpa using c1))) (fun c1 => ?_)
 refine IsB.ite (fun c2 => IsB.tt (.inr (.inl (by simpa using c2)))) (fun c2 => ?_)
 have c1 : a0 ≠ 2 := by simpa using c1
 have c2 : a0 ≠ 3 := by simpa using c2
 refine IsB.ite (fun c3 => ?_) (fun c3 => ?_)
 ·have c3 : a0 = 4 := by simpa using c3
  refine IsB.ite (fun c4 => ?_) (fun c4 => ?_)
  ·have c4 : 0 < a8 := by simpa using c4
   exact IsB.tt (.inr (.inr ⟨c3, .inl (by omega)⟩))
  ·refine IsB.ite (fun c5 => ?_) (fun c5 => ?_)
   ·refine IsB.ite (fun c6 => ?_) (fun c6 => ?_)
    ·exact IsB.tt (.inr (.inr ⟨c3, .inr ⟨c5, by simpa using c6⟩⟩))
    ·have c6 : a17 = true := by simpa using c6
     refine IsB.val ?_
     simp only [c1, c2, c3, c6, dgt, decide_eq_true_eq]
     simp
   ·refine IsB.val ?_
    simp only [c1, c2, c3, c5, dgt, decide_eq_true_eq]
    simp
 ·have c3 : a0 ≠ 4 := by simpa using c3
  exact IsB.ff fun h => by rcases h with h | h | ⟨h, _⟩ <;> contradiction
theorem F47_is (k : Nat) (a0 a1 a2 a3 a4 a5 a6 : Int) (a7 : List (den (.int .u8))) (a8 a9 : Int) (a10 : List (den rng)) (a11 a12 : Int) (a13 : List (den (.int .u8))) (a14 : List (den erl)) (a15 a16 a17 : Bool) (a18 a19 a20 a21 a22 a23 : Int) : IsB (F47 k a0 a1 a2 a3 a4 a5 a6 a7 a8 a9 a10 a11 a12 a13 a14 a15 a16 a17 a18 a19 a20 a21 a22 a23) (Opn a0 (a7.length : Int) a16 a17) := by
 unfold F47 F47_T Opn
 refine IsB.ite (fun c1 => IsB.tt (.inl (by simpa using c1))) (fun c1 => ?_)
 refine IsB.ite (fun c2 => IsB.tt (.inr (.inl (by simpa using c2)))) (fun c2 => ?_)
 have c1 : a0 ≠ 2 := by simpa using c1
 have c2 : a0 ≠ 3 := by simpa using c2
 refine IsB.ite (fun c3 => ?_) (fun c3 => ?_)
 ·have c3 : a0 = 4 := by simpa using c3
  refine IsB.ite (fun c4 => ?_) (fun c4 => ?_)
  ·have c4 : 0 < (a7.length : Int) := by simpa using c4
   exact IsB.tt (.inr (.inr ⟨c3, .inl c4⟩))
  ·have c4 : ¬ 0 < (a7.length : Int) := by simpa using c4
   refine IsB.ite (fun c5 => ?_) (fun c5 => ?_)
   ·refine IsB.val ?_
    simp only [c1, c2, c3, c4, c5]
    simp
   ·refine IsB.ff ?_
    simp only [c1, c2, c3, c4, c5]
    simp
 ·have c3 : a0 ≠ 4 := by simpa using c3
  exact IsB.ff fun h => by rcases h with h | h | ⟨h, _⟩ <;> contradiction
theorem c6_is (k : Nat) (a0 a1 a2 a3 a4 a5 a6 : Int) (a7 : List (den (.int .u8))) (a8 a9 : Int) (a10 : List (den rng)) (a11 a12 : Int) (a13 : List (den (.int .u8))) (a14 : List (den erl)) (a15 a16 a17 : Bool) (a18 a19 a20 a21 a22 a23 : Int) (hl : a14.length ≤ 1048576) (he : chkP (eA a11 a12 ((a13.length : Nat) : Int)) eB a14 = true) : IsB (F34_c6 k a0 a1 a2 a3 a4 a5 a6 a7 a8 a9 a10 a11 a12 a13 a14 a15 a16 a17 a18 a19 a20 a21 a22 a23 some) (P6 a11 a18 a14) := by
 unfold F34_c6 P6
 simp only [F35_eq, Option.bind_some]
 have tail : (∀ x ∈ (a14 : List (Int × Int)), a18 ≠ -1 → x.1 < a18) → IsB (cond (a18 == (-1)) (some true) (some (inB a18 a11 1000000))) (a18 = -1 ∨ (inB a18 a11 1000000 = true ∧ ∀ x ∈ (a14 : List (Int × Int)), x.1 < a18)) := by
  intro h
  refine IsB.ite (fun c => IsB.tt (.inl (by simpa using c))) (fun c => IsB.val ?_)
  have c : a18 ≠ -1 := by simpa using c
  exact ⟨fun e => .inr ⟨e, fun x hx => h x hx c⟩, fun e => (e.resolve_left c).1⟩
 refine IsB.ite (fun c1 => ?_) (fun c1 => ?_)
 ·have c1 : 0 < (a14.length : Int) := by simpa using c1
  refine IsB.ite (fun c2 => ?_) (fun c2 => ?_)
  ·have c2 : a18 ≠ -1 := by simpa using c2
   obtain ⟨d, q, h1, h2, _⟩ := last_atG a14 (fun e => by rw [e] at c1; simp at c1)
   have hq := chkP_last h1 he
   rw [i64_in (((a14.length : Nat) : Int) - 1) (by omega), h2]
   rw [decide_eq_true (by omega : (0 : Int) ≤ ((a14.length : Nat) : Int) - 1), decide_eq_true (by omega : ((a14.length : Nat) : Int) - 1 < ((a14.length : Nat) : Int))]
   simp only [cond_true]
   refine IsB.ite (fun c3 => IsB.ff fun h => ?_) (fun c3 => tail fun x hx _ => ?_)
   ·have c3 : a18 ≤ q.1 := by simpa using c3
    have := (h.resolve_left c2).2 q (by rw [h1]; simp)
    exact Int.not_lt.2 c3 this
   ·have c3 : q.1 < a18 := by simpa using c3
    exact Int.lt_of_le_of_lt (hq x hx) c3
  ·have c2 : a18 = -1 := by simpa using c2
   exact tail fun x _ h => absurd c2 h
 ·have c1 : ¬ 0 < (a14.length : Int) := by simpa using c1
  have : a14 = [] := List.length_eq_zero_iff.1 (by omega)
  exact tail fun x hx => by rw [this] at hx; simp at hx
def P5 (a0 a4 n7 a11 : Int) (a14 : erL) (a16 a17 : Bool) (a18 a19 a20 : Int) : Prop := (0 < a4 ↔ 2 ≤ a0) ∧ (Opn a0 n7 a16 a17 ∨ (a19 = 0 ∧ (a20 = 0 ∨ a0 = 5))) ∧ P6 a11 a18 a14
theorem c5_is (k : Nat) (a0 a1 a2 a3 a4 a5 a6 : Int) (a7 : List (den (.int .u8))) (a8 a9 : Int) (a10 : List (den rng)) (a11 a12 : Int) (a13 : List (den (.int .u8))) (a14 : List (den erl)) (a15 a16 a17 : Bool) (a18 a19 a20 a21 a22 a23 : Int) (h8 : 0 ≤ a8 ∧ a8 ≤ (a7.length : Int)) (hl : a14.length ≤ 1048576) (he : chkP (eA a11 a12 ((a13.length : Nat) : Int)) eB a14 = true) (h19 : 0 ≤ a19) (h20 : 0 ≤ a20) :
  IsB (F34_c5 k a0 a1 a2 a3 a4 a5 a6 a7 a8 a9 a10 a11 a12 a13 a14 a15 a16 a17 a18 a19 a20 a21 a22 a23 some) (P5 a0 a4 (a7.length : Int) a11 a14 a16 a17 a18 a19 a20) := by
 have h6 := c6_is k a0 a1 a2 a3 a4 a5 a6 a7 a8 a9 a10 a11 a12 a13 a14 a15 a16 a17 a18 a19 a20 a21 a22 a23 hl he
 unfold F34_c5 P5
 obtain ⟨b, hb, hbo⟩ := F70_is k a0 a1 a2 a3 a4 a5 a6 a7 a8 a9 a10 a11 a12 a13 a14 a15 a16 a17 a18 a19 a20 a21 a22 a23 h8
 rw [hb]
 simp only [Option.bind_some]
 refine IsB.ite (fun c1 => IsB.ff fun h => ?_) (fun c1 => ?_)
 ·have c1 : ¬ (0 < a4 ↔ 2 ≤ a0) := by
   intro e
   have : decide (a4 > 0) = decide (a0 ≥ 2) := decide_eq_decide.2 e
   rw [this] at c1
   simp at c1
  exact c1 h.1
 ·have c1 : (0 < a4 ↔ 2 ≤ a0) := by
   have : decide (a4 > 0) = decide (a0 ≥ 2) := by simpa using c1
   exact decide_eq_decide.1 this
  refine IsB.ite (fun c2 => ?_) (fun c2 => ?_)
  ·have c2 : ¬ Opn a0 (a7.length : Int) a16 a17 := fun e => by rw [hbo.2 e] at c2; cases c2
   refine IsB.ite (fun c3 => IsB.ff fun h => ?_) (fun c3 => ?_)
   ·have c3 : 0 < a19 := by simpa using c3
    have := (h.2.1.resolve_left c2).1
    omega
   ·have c3 : ¬ 0 < a19 := by simpa using c3
    refine IsB.ite (fun c4 => ?_) (fun c4 => ?_)
    ·have c4 : 0 < a20 := by simpa using c4
     refine IsB.ite (fun c5 => IsB.ff fun h => ?_) (fun c5 => ?_)
     ·have c5 : a0 ≠ 5 := by simpa using c5
      have := (h.2.1.resolve_left c2).2.resolve_right c5
      omega
     ·have c5 : a0 = 5 := by simpa using c5
      exact h6.mono ⟨fun h => ⟨c1, .inr ⟨by omega, .inr c5⟩, h⟩, fun h => h.2.2⟩
    ·have c4 : ¬ 0 < a20 := by simpa using c4
     exact h6.mono ⟨fun h => ⟨c1, .inr ⟨by omega, .inl (by omega)⟩, h⟩, fun h => h.2.2⟩
  ·have c2 : b = true := by simpa using c2
   exact h6.mono ⟨fun h => ⟨c1, .inl (hbo.1 c2), h⟩, fun h => h.2.2⟩
theorem c4_is (k : Nat) (a0 a1 a2 a3 a4 a5 a6 : Int) (a7 : List (den (.int .u8))) (a8 a9 : Int) (a10 : List (den rng)) (a11 a12 : Int) (a13 : List (den (.int .u8))) (a14 : List (den erl)) (a15 a16 a17 : Bool) (a18 a19 a20 a21 a22 a23 : Int) (h5 : 0 ≤ a5 ∧ a5 ≤ 65535) (h8 : 0 ≤ a8 ∧ a8 ≤ (a7.length : Int)) (hl : a14.length ≤ 1048576) (he : chkP (eA a11 a12 ((a13.length : Nat) : Int)) eB a14 = true) (h19 : 0 ≤ a19) (h20 : 0 ≤ a20) :
  IsB (F34_c4 k a0 a1 a2 a3 a4 a5 a6 a7 a8 a9 a10 a11 a12 a13 a14 a15 a16 a17 a18 a19 a20 a21 a22 a23 some) ((a0 < 4 → a8 = 0 ∧ a6 = a5 + 1 ∧ a18 = -1) ∧ P5 a0 a4 (a7.length : Int) a11 a14 a16 a17 a18 a19 a20) := by
 have h6 := c5_is k a0 a1 a2 a3 a4 a5 a6 a7 a8 a9 a10 a11 a12 a13 a14 a15 a16 a17 a18 a19 a20 a21 a22 a23 h8 hl he h19 h20
 unfold F34_c4
 rw [i64_in (a5 + 1) (by omega)]
 refine IsB.ite (fun c1 => ?_) (fun c1 => ?_)
 ·have c1 : a0 < 4 := by simpa using c1
  refine IsB.ite (fun c2 => IsB.ff fun h => ?_) (fun c2 => ?_)
  ·have c2 : 0 < a8 := by simpa using c2
   have := (h.1 c1).1
   omega
  ·have c2 : ¬ 0 < a8 := by simpa using c2
   refine IsB.ite (fun c3 => IsB.ff fun h => ?_) (fun c3 => ?_)
   ·have c3 : a6 ≠ a5 + 1 := by simpa using c3
    exact c3 (h.1 c1).2.1
   ·have c3 : a6 = a5 + 1 := by simpa using c3
    refine IsB.ite (fun c4 => IsB.ff fun h => ?_) (fun c4 => ?_)
    ·have c4 : a18 ≠ -1 := by simpa using c4
     exact c4 (h.1 c1).2.2
    ·have c4 : a18 = -1 := by simpa using c4
     exact h6.mono ⟨fun h => ⟨fun _ => ⟨by omega, c3, c4⟩, h⟩, fun h => h.2⟩
 ·have c1 : ¬ a0 < 4 := by simpa using c1
  exact h6.mono ⟨fun h => ⟨fun e => absurd e c1, h⟩, fun h => h.2⟩
theorem c3_is (k : Nat) (a0 a1 a2 a3 a4 a5 a6 : Int) (a7 : List (den (.int .u8))) (a8 a9 : Int) (a10 : List (den rng)) (a11 a12 : Int) (a13 : List (den (.int .u8))) (a14 : List (den erl)) (a15 a16 a17 : Bool) (a18 a19 a20 a21 a22 a23 : Int) (h5 : 0 ≤ a5 ∧ a5 ≤ 65535) (h8 : 0 ≤ a8 ∧ a8 ≤ (a7.length : Int)) (hl : a14.length ≤ 1048576) (he : chkP (eA a11 a12 ((a13.length : Nat) : Int)) eB a14 = true) (h19 : 0 ≤ a19) (h20 : 0 ≤ a20) :
  IsB (F34_c3 k a0 a1 a2 a3 a4 a5 a6 a7 a8 a9 a10 a11 a12 a13 a14 a15 a16 a17 a18 a19 a20 a21 a22 a23 some) ((a17 = true → a16 = true) ∧ (a16 = true → a15 = true ∧ a8 = (a7.length : Int) ∧ 4 ≤ a0) ∧ (a0 < 4 → a8 = 0 ∧ a6 = a5 + 1 ∧ a18 = -1) ∧ P5 a0 a4 (a7.length : Int) a11 a14 a16 a17 a18 a19 a20) := by
 have h6 := c4_is k a0 a1 a2 a3 a4 a5 a6 a7 a8 a9 a10 a11 a12 a13 a14 a15 a16 a17 a18 a19 a20 a21 a22 a23 h5 h8 hl he h19 h20
 unfold F34_c3
 have rest : (a17 = true → a16 = true) → IsB (cond a16 (cond (!a15) (some false) (cond (decide (a8 < ((a7.length : Nat) : Int))) (some false) (cond (decide (a0 < 4)) (some false) (F34_c4 k a0 a1 a2 a3 a4 a5 a6 a7 a8 a9 a10 a11 a12 a13 a14 a15 a16 a17 a18 a19 a20 a21 a22 a23 some)))) (F34_c4 k a0 a1 a2 a3 a4 a5 a6 a7 a8 a9 a10 a11 a12 a13 a14 a15 a16 a17 a18 a19 a20 a21 a22 a23 some))
   ((a17 = true → a16 = true) ∧ (a16 = true → a15 = true ∧ a8 = (a7.length : Int) ∧ 4 ≤ a0) ∧ (a0 < 4 → a8 = 0 ∧ a6 = a5 + 1 ∧ a18 = -1) ∧ P5 a0 a4 (a7.length : Int) a11 a14 a16 a17 a18 a19 a20) := by
  intro h17
  refine IsB.ite (fun c1 => ?_) (fun c1 => ?_)
  ·refine IsB.ite (fun c2 => IsB.ff fun h => ?_) (fun c2 => ?_)
   ·rw [(h.2.1 c1).1] at c2; cases c2
   ·have c2 : a15 = true := by simpa using c2
    refine IsB.ite (fun c3 => IsB.ff fun h => ?_) (fun c3 => ?_)
    ·have c3 : a8 < (a7.length : Int) := by simpa using c3
     have := (h.2.1 c1).2.1
     omega
    ·have c3 : ¬ a8 < (a7.length : Int) := by simpa using c3
     refine IsB.ite (fun c4 => IsB.ff fun h => ?_) (fun c4 => ?_)
     ·have c4 : a0 < 4 := by simpa using c4
      have := (h.2.1 c1).2.2
      omega
     ·have c4 : ¬ a0 < 4 := by simpa using c4
      exact h6.mono ⟨fun h => ⟨h17, fun _ => ⟨c2, by omega, by omega⟩, h⟩, fun h => h.2.2⟩
  ·exact h6.mono ⟨fun h => ⟨h17, fun e => (by rw [c1] at e; cases e), h⟩, fun h => h.2.2⟩
 refine IsB.ite (fun c1 => ?_) (fun c1 => rest fun e => by rw [c1] at e; cases e)
 refine IsB.ite (fun c2 => IsB.ff fun h => ?_) (fun c2 => ?_)
 ·rw [h.1 c1] at c2; cases c2
 ·have c2 : a16 = true := by simpa using c2
  exact rest fun _ => c2
theorem F34_is (k : Nat) (a0 a1 a2 a3 a4 a5 a6 : Int) (a7 : List (den (.int .u8))) (a8 a9 : Int) (a10 : List (den rng)) (a11 a12 : Int) (a13 : List (den (.int .u8))) (a14 : List (den erl)) (a15 a16 a17 : Bool) (a18 a19 a20 a21 a22 a23 : Int) (hk4 : 4 ≤ k) (hl : a14.length ≤ 1048576) (hk : a14.length < k) : IsB (F34 k a0 a1 a2 a3 a4 a5 a6 a7 a8 a9 a10 a11 a12 a13 a14 a15 a16 a17 a18 a19 a20 a21 a22 a23) (EOK a0 a1 a2 a3 a4 a5 a6 a7 a8 a9 a10 a11 a12 a13 a14 a15 a16 a17 a18 a19 a20 a21 a22 a23) := by
 unfold F34 F34_T F34_c1 EOK
 simp only [F35_eq, Option.bind_some]
 refine IsB.must Iff.rfl fun c1 => ?_
 refine IsB.must Iff.rfl fun c2 => ?_
 refine IsB.must Iff.rfl fun c3 => ?_
 refine IsB.must Iff.rfl fun c4 => ?_
 refine IsB.must Iff.rfl fun c5 => ?_
 refine IsB.must Iff.rfl fun c6 => ?_
 unfold F34_c2
 simp only [F35_eq, F67_eq k a6 a7 a8 a9 a10 hk4, F68_eq k a11 a12 a13 a14 hl hk, F69_eq, Option.bind_some]
 refine IsB.must Iff.rfl fun c7 => ?_
 refine IsB.not (Q := True) (fun c => fun h => ?_) (fun c => ?_)
 ·have c : a6 ≤ a5 := by simpa using c
  exact absurd h.1 (by omega)
 have c8 : a5 < a6 := by simpa using c
 refine IsB.mono (P := earB a11 a12 a13 a14 = true ∧ _) ?_ ⟨fun h => ⟨c8, h⟩, fun h => h.2⟩
 refine IsB.must Iff.rfl fun c9 => ?_
 refine IsB.must Iff.rfl fun c10 => ?_
 refine IsB.must Iff.rfl fun c11 => ?_
 refine IsB.must Iff.rfl fun c12 => ?_
 rw [inB_iff] at c6 c11 c12
 exact c3_is k a0 a1 a2 a3 a4 a5 a6 a7 a8 a9 a10 a11 a12 a13 a14 a15 a16 a17 a18 a19 a20 a21 a22 a23 c6 (mok_iff.1 c7).2.2.1 hl (ear_iff.1 c9).2.2.2 c11.1 c12.1
theorem lastOk_l (k : Nat) (a0 a1 a2 a3 a4 a5 a6 : Int) (a7 : List (den (.int .u8))) (a8 a9 : Int) (a10 : List (den rng)) (a11 a12 : Int) (a13 : List (den (.int .u8))) (a14 : List (den erl)) (a15 a16 a17 : Bool) (a18 a19 a20 a21 a22 a23 : Int) (hl : a14.length ≤ 1048576) (hk : a14.length < k) : F46_l0 k a0 a1 a2 a3 a4 a5 a6 a7 a8 a9 a10 a11 a12 a13 a14 a15 a16 a17 a18 a19 a20 a21 a22 a23 k 0 = some (a14.all (fun x => decide (@LT.lt Int _ x.1 a18)) && (inB a18 a11 1000000 && decide (4 ≤ a0))) := by
 have := scanLoop a14 (fun n (_ : Unit) j => F46_l0 k a0 a1 a2 a3 a4 a5 a6 a7 a8 a9 a10 a11 a12 a13 a14 a15 a16 a17 a18 a19 a20 a21 a22 a23 n j) (fun _ _ x => cond (decide (@LT.lt Int _ x.1 a18)) (.inl ()) (.inr false)) (fun _ => inB a18 a11 1000000 && decide (4 ≤ a0))
  (fun n s j h => by
   rw [F46_l0]
   unfold F46_l0_T
   rw [atI_get a14 j h, up1 j (by omega)]
   rw [decide_eq_true (by omega : ((j : Nat) : Int) < (a14.length : Nat)), decide_eq_true (by omega : (0 : Int) ≤ (j : Nat)), dge a14[j].1 a18]
   show cond true (cond true (cond true (cond (!decide (@LT.lt Int _ a14[j].1 a18)) _ _) _) _) _ = _
   cases decide (@LT.lt Int _ a14[j].1 a18) <;> rfl)
  (fun n s => by
   rw [F46_l0]
   unfold F46_l0_T
   rw [decide_eq_false (by omega : ¬ ((a14.length : Nat) : Int) < (a14.length : Nat)), cond_false, F42_eq, Option.bind_some]
   have : decide (a0 ≥ 4) = decide (4 ≤ a0) := rfl
   rw [this]
   cases inB a18 a11 1000000 <;> rfl) k () 0 (Nat.zero_le _) (by omega)
 rw [scan_all, List.drop_zero] at this
 exact this
theorem all_iff (a14 : erL) (a18 : Int) : a14.all (fun x => decide (@LT.lt Int _ x.1 a18)) = true ↔ ∀ x ∈ (a14 : List (Int × Int)), x.1 < a18 := by
 rw [List.all_eq_true]
 exact ⟨fun h x hx => of_decide_eq_true (h x hx), fun h x hx => decide_eq_true (h x hx)⟩
def PL (a0 a1 a2 a3 a4 a5 a6 : Int) (a7 : List (den (.int .u8))) (a8 a9 : Int) (a10 : List (den rng)) (a11 a12 : Int) (a13 : List (den (.int .u8))) (a14 : List (den erl)) (a15 a16 a17 : Bool) (a18 a19 a20 a21 a22 a23 : Int) : Prop := (a17 = true → a16 = true) ∧ (a16 = true → a15 = true ∧ a8 = (a7.length : Int) ∧ 4 ≤ a0) ∧ (a18 = -1 ∨ ((∀ x ∈ (a14 : List (Int × Int)), x.1 < a18) ∧ inB a18 a11 1000000 = true ∧ 4 ≤ a0))
theorem lastOk_is (k : Nat) (a0 a1 a2 a3 a4 a5 a6 : Int) (a7 : List (den (.int .u8))) (a8 a9 : Int) (a10 : List (den rng)) (a11 a12 : Int) (a13 : List (den (.int .u8))) (a14 : List (den erl)) (a15 a16 a17 : Bool) (a18 a19 a20 a21 a22 a23 : Int) (hl : a14.length ≤ 1048576) (hk : a14.length < k) : IsB (F46 k a0 a1 a2 a3 a4 a5 a6 a7 a8 a9 a10 a11 a12 a13 a14 a15 a16 a17 a18 a19 a20 a21 a22 a23) (PL a0 a1 a2 a3 a4 a5 a6 a7 a8 a9 a10 a11 a12 a13 a14 a15 a16 a17 a18 a19 a20 a21 a22 a23) := by
 unfold F46 F46_T F46_j1 PL
 try dsimp only
 rw [lastOk_l k a0 a1 a2 a3 a4 a5 a6 a7 a8 a9 a10 a11 a12 a13 a14 a15 a16 a17 a18 a19 a20 a21 a22 a23 hl hk]
 have tail : IsB (cond (a18 == (-1)) (some true) (some (a14.all (fun x => decide (@LT.lt Int _ x.1 a18)) && (inB a18 a11 1000000 && decide (4 ≤ a0))))) (a18 = -1 ∨ ((∀ x ∈ (a14 : List (Int × Int)), x.1 < a18) ∧ inB a18 a11 1000000 = true ∧ 4 ≤ a0)) := by
  refine IsB.ite (fun c => IsB.tt (.inl (by simpa using c))) (fun c => IsB.val ?_)
  have c : a18 ≠ -1 := by simpa using c
  rw [Bool.and_eq_true, Bool.and_eq_true, all_iff, decide_eq_true_eq]
  exact ⟨fun h => .inr h, fun h => h.resolve_left c⟩
 have rest : (a17 = true → a16 = true) → IsB (cond a16 (cond (!a15) (some false) (cond (a8 != ((a7.length : Nat) : Int)) (some false) (cond (decide (a0 < 4)) (some false) (cond (a18 == (-1)) (some true) (some (a14.all (fun x => decide (@LT.lt Int _ x.1 a18)) && (inB a18 a11 1000000 && decide (4 ≤ a0)))))))) (cond (a18 == (-1)) (some true) (some (a14.all (fun x => decide (@LT.lt Int _ x.1 a18)) && (inB a18 a11 1000000 && decide (4 ≤ a0))))))
   ((a17 = true → a16 = true) ∧ (a16 = true → a15 = true ∧ a8 = (a7.length : Int) ∧ 4 ≤ a0) ∧ (a18 = -1 ∨ ((∀ x ∈ (a14 : List (Int × Int)), x.1 < a18) ∧ inB a18 a11 1000000 = true ∧ 4 ≤ a0))) := by
  intro h17
  refine IsB.ite (fun c1 => ?_) (fun c1 => ?_)
  ·refine IsB.ite (fun c2 => IsB.ff fun h => ?_) (fun c2 => ?_)
   ·rw [(h.2.1 c1).1] at c2; cases c2
   ·have c2 : a15 = true := by simpa using c2
    refine IsB.ite (fun c3 => IsB.ff fun h => ?_) (fun c3 => ?_)
    ·have c3 : a8 ≠ (a7.length : Int) := by simpa using c3
     exact c3 (h.2.1 c1).2.1
    ·have c3 : a8 = (a7.length : Int) := by simpa using c3
     refine IsB.ite (fun c4 => IsB.ff fun h => ?_) (fun c4 => ?_)
     ·have c4 : a0 < 4 := by simpa using c4
      have := (h.2.1 c1).2.2
      omega
     ·have c4 : ¬ a0 < 4 := by simpa using c4
      exact tail.mono ⟨fun h => ⟨h17, fun _ => ⟨c2, c3, by omega⟩, h⟩, fun h => h.2.2⟩
  ·exact tail.mono ⟨fun h => ⟨h17, fun e => (by rw [c1] at e; cases e), h⟩, fun h => h.2.2⟩
 refine IsB.ite (fun c1 => ?_) (fun c1 => rest fun e => by rw [c1] at e; cases e)
 refine IsB.ite (fun c2 => IsB.ff fun h => ?_) (fun c2 => ?_)
 ·rw [h.1 c1] at c2; cases c2
 ·have c2 : a16 = true := by simpa using c2
  exact rest fun _ => c2
theorem j2_is (k : Nat) (a0 a1 a2 a3 a4 a5 a6 : Int) (a7 : List (den (.int .u8))) (a8 a9 : Int) (a10 : List (den rng)) (a11 a12 : Int) (a13 : List (den (.int .u8))) (a14 : List (den erl)) (a15 a16 a17 : Bool) (a18 a19 a20 a21 a22 a23 : Int) : IsB (F11_j2 k a0 a1 a2 a3 a4 a5 a6 a7 a8 a9 a10 a11 a12 a13 a14 a15 a16 a17 a18 a19 a20 a21 a22 a23 some) (Opn a0 (a7.length : Int) a16 a17 ∨ (a19 = 0 ∧ (a20 = 0 ∨ a0 = 5))) := by
 unfold F11_j2
 obtain ⟨b, hb, hbo⟩ := F47_is k a0 a1 a2 a3 a4 a5 a6 a7 a8 a9 a10 a11 a12 a13 a14 a15 a16 a17 a18 a19 a20 a21 a22 a23
 rw [hb, Option.bind_some]
 refine IsB.ite (fun c1 => IsB.tt (.inl (hbo.1 c1))) (fun c1 => ?_)
 have c1 : ¬ Opn a0 (a7.length : Int) a16 a17 := fun e => by rw [hbo.2 e] at c1; cases c1
 refine IsB.ite (fun c2 => ?_) (fun c2 => IsB.ff fun h => ?_)
 ·have c2 : a19 = 0 := by simpa using c2
  refine IsB.ite (fun c3 => IsB.tt (.inr ⟨c2, .inl (by simpa using c3)⟩)) (fun c3 => IsB.val ?_)
  have c3 : a20 ≠ 0 := by simpa using c3
  rw [beq_iff_eq]
  exact ⟨fun h => .inr ⟨c2, .inr h⟩, fun h => (h.resolve_left c1).2.resolve_left c3⟩
 ·have c2 : a19 ≠ 0 := by simpa using c2
  exact c2 (h.resolve_left c1).1
theorem j1_is (k : Nat) (a0 a1 a2 a3 a4 a5 a6 : Int) (a7 : List (den (.int .u8))) (a8 a9 : Int) (a10 : List (den rng)) (a11 a12 : Int) (a13 : List (den (.int .u8))) (a14 : List (den erl)) (a15 a16 a17 : Bool) (a18 a19 a20 a21 a22 a23 : Int) (h0 : 0 ≤ a0) (h4 : 0 ≤ a4) : IsB (F11_j1 k a0 a1 a2 a3 a4 a5 a6 a7 a8 a9 a10 a11 a12 a13 a14 a15 a16 a17 a18 a19 a20 a21 a22 a23 some) ((0 < a4 ↔ 2 ≤ a0) ∧ (Opn a0 (a7.length : Int) a16 a17 ∨ (a19 = 0 ∧ (a20 = 0 ∨ a0 = 5)))) := by
 have h2 := j2_is k a0 a1 a2 a3 a4 a5 a6 a7 a8 a9 a10 a11 a12 a13 a14 a15 a16 a17 a18 a19 a20 a21 a22 a23
 unfold F11_j1
 refine IsB.ite (fun c1 => ?_) (fun c1 => ?_)
 ·have c1 : a0 = 0 := by simpa using c1
  refine IsB.ite (fun c2 => IsB.ff fun h => ?_) (fun c2 => ?_)
  ·have c2 : a4 ≠ 0 := by simpa using c2
   have := h.1.1 (by omega)
   omega
  ·have c2 : a4 = 0 := by simpa using c2
   exact h2.mono ⟨fun h => ⟨by omega, h⟩, fun h => h.2⟩
 ·have c1 : a0 ≠ 0 := by simpa using c1
  refine IsB.ite (fun c2 => IsB.ff fun h => ?_) (fun c2 => ?_)
  ·have h1 := h.1
   by_cases e1 : a4 = 0 <;> by_cases e2 : a0 = 1
   ·simp [e1, e2] at c2
   ·have : ¬ 2 ≤ a0 := fun e => by have := h1.2 e; omega
    omega
   ·have := h1.1 (by omega); omega
   ·rw [beq_eq_false_iff_ne.2 e1, beq_eq_false_iff_ne.2 e2] at c2; cases c2
  ·have c2 : (a4 == 0) = (a0 == 1) := by simpa using c2
   refine h2.mono ⟨fun h => ⟨?_, h⟩, fun h => h.2⟩
   by_cases e1 : a4 = 0 <;> by_cases e2 : a0 = 1
   ·omega
   ·simp [e1, e2] at c2
   ·simp [e1, e2] at c2
   ·omega
theorem F11_is (k : Nat) (a0 a1 a2 a3 a4 a5 a6 : Int) (a7 : List (den (.int .u8))) (a8 a9 : Int) (a10 : List (den rng)) (a11 a12 : Int) (a13 : List (den (.int .u8))) (a14 : List (den erl)) (a15 a16 a17 : Bool) (a18 a19 a20 a21 a22 a23 : Int) (hk4 : 4 ≤ k) (h13 : a13.length ≤ 1048576) (hl : a14.length ≤ 1048576) (hk : a14.length < k) : IsB (F11 k a0 a1 a2 a3 a4 a5 a6 a7 a8 a9 a10 a11 a12 a13 a14 a15 a16 a17 a18 a19 a20 a21 a22 a23) (EOK a0 a1 a2 a3 a4 a5 a6 a7 a8 a9 a10 a11 a12 a13 a14 a15 a16 a17 a18 a19 a20 a21 a22 a23) := by
 unfold F11 F11_T EOK
 simp only [F42_eq, F29_eq, F30_eq, F43_eq k a6 a7 a8 a9 a10 hk4, F44_eq k a11 a12 a13 a14 h13 hl hk, F45_eq, Option.bind_some]
 refine IsB.must Iff.rfl fun c1 => ?_
 refine IsB.must Iff.rfl fun c2 => ?_
 refine IsB.mono (P := inB a2 1 255 = true ∧ inB a3 0 65535 = true ∧ _) ?_ ⟨fun h => ⟨h.2.1, h.1, h.2.2⟩, fun h => ⟨h.2.1, h.1, h.2.2⟩⟩
 refine IsB.must Iff.rfl fun c4 => ?_
 refine IsB.must Iff.rfl fun c3 => ?_
 refine IsB.must Iff.rfl fun c5 => ?_
 refine IsB.must Iff.rfl fun c6 => ?_
 refine IsB.must Iff.rfl fun c7 => ?_
 rw [inB_iff] at c1 c5 c6
 rw [i64_in (a5 + 1) (by omega)]
 refine IsB.not (Q := True) (fun c => fun h => ?_) (fun c => ?_)
 ·have c : a6 < a5 + 1 := by simpa using c
  exact absurd h.1 (by omega)
 have c8 : a5 < a6 := by
  have c : ¬ a6 < a5 + 1 := by simpa using c
  omega
 refine IsB.mono (P := earB a11 a12 a13 a14 = true ∧ _) ?_ ⟨fun h => ⟨c8, h⟩, fun h => h.2⟩
 refine IsB.must Iff.rfl fun c9 => ?_
 refine IsB.must Iff.rfl fun c10 => ?_
 refine IsB.must Iff.rfl fun c11 => ?_
 refine IsB.must Iff.rfl fun c12 => ?_
 have hm := (mok_iff.1 c7).2.2.1
 obtain ⟨b, hb, hbo⟩ := lastOk_is k a0 a1 a2 a3 a4 a5 a6 a7 a8 a9 a10 a11 a12 a13 a14 a15 a16 a17 a18 a19 a20 a21 a22 a23 hl hk
 have hj := j1_is k a0 a1 a2 a3 a4 a5 a6 a7 a8 a9 a10 a11 a12 a13 a14 a15 a16 a17 a18 a19 a20 a21 a22 a23 c1.1 c5.1
 rw [hb, Option.bind_some]
 unfold PL at hbo
 unfold P6
 refine IsB.ite (fun d1 => IsB.ff fun h => ?_) (fun d1 => ?_)
 ·have : b = true := hbo.2 ⟨h.1, h.2.1, by
   rcases h.2.2.2.2.2 with h6 | ⟨h6, h7⟩
   ·exact .inl h6
   ·by_cases h4 : a0 < 4
    ·exact .inl (h.2.2.1 h4).2.2
    ·exact .inr ⟨h7, h6, by omega⟩⟩
  rw [this] at d1
  cases d1
 ·have d1 : b = true := by simpa using d1
  obtain ⟨q1, q2, q3⟩ := hbo.1 d1
  have q6 : a18 = -1 ∨ (inB a18 a11 1000000 = true ∧ ∀ x ∈ (a14 : List (Int × Int)), x.1 < a18) := q3.imp id fun h => ⟨h.2.1, h.1⟩
  refine IsB.ite (fun d2 => ?_) (fun d2 => ?_)
  ·have d2 : a0 < 4 := by simpa using d2
   have q7 : a18 = -1 := by
    rcases q3 with h | h
    ·exact h
    ·have := h.2.2
     omega
   refine IsB.ite (fun d3 => IsB.ff fun h => ?_) (fun d3 => ?_)
   ·have d3 : a8 ≠ 0 := by simpa using d3
    exact d3 (h.2.2.1 d2).1
   ·have d3 : a8 = 0 := by simpa using d3
    refine IsB.ite (fun d4 => IsB.ff fun h => ?_) (fun d4 => ?_)
    ·have d4 : a6 ≠ a5 + 1 := by simpa using d4
     exact d4 (h.2.2.1 d2).2.1
    ·have d4 : a6 = a5 + 1 := by simpa using d4
     exact hj.mono ⟨fun h => ⟨q1, q2, fun _ => ⟨d3, d4, q7⟩, h.1, h.2, q6⟩, fun h => ⟨h.2.2.2.1, h.2.2.2.2.1⟩⟩
  ·have d2 : ¬ a0 < 4 := by simpa using d2
   exact hj.mono ⟨fun h => ⟨q1, q2, fun e => absurd e d2, h.1, h.2, q6⟩, fun h => ⟨h.2.2.2.1, h.2.2.2.2.1⟩⟩
theorem F114_eq (k : Nat) (l : erL) : F114 k l = some l := by
 simp only [F114, F114_T]
 rw [decide_eq_true (by omega : (0 : Int) ≤ ((l.length : Nat) : Int))]
 simp
theorem F92_eq (k : Nat) (l : erL) (h : l.length ≤ 4194304) : F92 k l = some l := by
 simp only [F92, F92_T, F114_eq, List.nil_append, List.length_nil, Nat.zero_add]
 rw [decide_eq_true (by omega : l.length * 16 ≤ 140737488355328)]
 cases l with
 | nil => rfl
 | cons a r => rw [show ((((a :: r).length : Nat) : Int) == 0) = false by rw [beq_eq_false_iff_ne]; simp only [List.length_cons]; omega]; rfl
def shortE (n : Nat) (a7 : u8L) (a10 : rgL) (a13 : u8L) (a14 : erL) : Prop := a7.length ≤ n ∧ a10.length ≤ n ∧ a13.length ≤ n ∧ a14.length ≤ n
theorem F36_eq (k : Nat) (a0 a1 a2 a3 a4 a5 a6 : Int) (a7 : List (den (.int .u8))) (a8 a9 : Int) (a10 : List (den rng)) (a11 a12 : Int) (a13 : List (den (.int .u8))) (a14 : List (den erl)) (a15 a16 a17 : Bool) (a18 a19 a20 a21 a22 a23 : Int) (h : shortE 1048576 a7 a10 a13 a14) : F36 k a0 a1 a2 a3 a4 a5 a6 a7 a8 a9 a10 a11 a12 a13 a14 a15 a16 a17 a18 a19 a20 a21 a22 a23 = some (a0, a1, a2, a3, a4, a5, a6, a7, a8, a9, a10, a11, a12, a13, a14, a15, a16, a17, a18, a19, a20, a21, a22, a23) := by
 obtain ⟨h7, h10, h13, h14⟩ := h
 simp only [F36, F36_T, F71, F71_T, List.nil_append, List.length_nil, Nat.zero_add]
 rw [decide_eq_true (by omega : a7.length * 1 ≤ 140737488355328), decide_eq_true (by omega : a10.length * 16 ≤ 140737488355328), decide_eq_true (by omega : a13.length * 1 ≤ 140737488355328), decide_eq_true (by omega : a14.length * 16 ≤ 140737488355328)]
 rfl
theorem F31_eq (k : Nat) (a0 a1 a2 a3 a4 a5 a6 : Int) (a7 : List (den (.int .u8))) (a8 a9 : Int) (a10 : List (den rng)) (a11 a12 : Int) (a13 : List (den (.int .u8))) (a14 : List (den erl)) (a15 a16 a17 : Bool) (a18 a19 a20 a21 a22 a23 : Int) (h : shortE 1048576 a7 a10 a13 a14) : F31 k a0 a1 a2 a3 a4 a5 a6 a7 a8 a9 a10 a11 a12 a13 a14 a15 a16 a17 a18 a19 a20 a21 a22 a23 = some (a0, a1, a2, a3, a4, a5, a6, a7, a8, a9, a10, a11, a12, a13, a14, a15, a16, a17, a18, a19, a20, a21, a22, a23) := by
 obtain ⟨h7, h10, h13, h14⟩ := h
 simp only [F31, F31_T, F64, F65, F90_eq k a7 (by omega), F90_eq k a13 (by omega), F91_eq k a10 (by omega), F92_eq k a14 (by omega), Option.bind_some]
theorem chkQ_lt {A : Int × Int → Bool} : ∀ (l : List (Int × Int)) (p : Int × Int), chkQ A eB p l = true → (∀ x ∈ l, p.1 < x.1 ∧ A x = true) ∧ (l.map (·.1)).Pairwise (· < ·)
 | [], p, _ => ⟨by simp, by simp⟩
 | a :: l, p, h => by
  simp only [chkQ, Bool.and_eq_true] at h
  have hb : p.1 < a.1 := by simpa [eB] using h.1.2
  obtain ⟨h1, h2⟩ := chkQ_lt l a h.2
  refine ⟨fun x hx => ?_, ?_⟩
  ·rcases List.mem_cons.1 hx with rfl | hx
   ·exact ⟨hb, h.1.1⟩
   ·have := h1 x hx
    exact ⟨by omega, this.2⟩
  ·rw [List.map_cons, List.pairwise_cons]
   refine ⟨fun y hy => ?_, h2⟩
   obtain ⟨x, hx, rfl⟩ := List.mem_map.1 hy
   exact (h1 x hx).1
theorem chkP_lt {A : Int × Int → Bool} {l : List (Int × Int)} (h : chkP A eB l = true) : (∀ x ∈ l, A x = true) ∧ (l.map (·.1)).Pairwise (· < ·) := by
 cases l with
 | nil => exact ⟨by simp, by simp⟩
 | cons p l =>
  simp only [chkP, Bool.and_eq_true] at h
  obtain ⟨h1, h2⟩ := chkQ_lt l p h.2
  refine ⟨fun x hx => ?_, ?_⟩
  ·rcases List.mem_cons.1 hx with rfl | hx
   ·exact h.1
   ·exact (h1 x hx).2
  ·rw [List.map_cons, List.pairwise_cons]
   refine ⟨fun y hy => ?_, h2⟩
   obtain ⟨x, hx, rfl⟩ := List.mem_map.1 hy
   exact (h1 x hx).1
def rgs (l : List (Int × Int)) : List (Int × Int) := (l.map (·.1)).foldl (stS 2) []
theorem stS_len (M : Nat) (hM : 0 < M) (out : List (Int × Int)) (a : Int) (h : out.length ≤ M) : (stS M out a).length ≤ M := by
 unfold stS
 by_cases hne : out = []
 ·subst hne; simp [mrg, hM]; omega
 ·obtain ⟨p, r, rfl⟩ := snoc_of hne
  rw [mrg_snoc]
  split
  ·simpa using h
  ·simp only [Option.getD_none]
   split
   ·simp at *; omega
   ·exact h
theorem foldS_len : ∀ (l : List Int) (out : List (Int × Int)), out.length ≤ 2 → (l.foldl (stS 2) out).length ≤ 2
 | [], out, h => h
 | a :: l, out, h => foldS_len l _ (stS_len 2 (by decide) out a h)
theorem rgs_len (l : List (Int × Int)) : (rgs l).length ≤ 2 := foldS_len _ [] (by simp)
theorem foldl_map1 {σ : Type} (f : σ → Int → σ) : ∀ (l : List (Int × Int)) (s : σ), l.foldl (fun s x => f s x.1) s = (l.map (·.1)).foldl f s
 | [], s => rfl
 | a :: l, s => by simp only [List.foldl_cons, List.map_cons]; exact foldl_map1 f l _
theorem eA_bound {e0 e1 n : Int} {x : Int × Int} (h : eA e0 e1 n x = true) : e0 < x.1 ∧ x.1 < e0 + e1 - n := by
 unfold eA at h
 simp only [Bool.and_eq_true, decide_eq_true_eq] at h
 exact h
theorem F99_eq (k : Nat) (e0 e1 : Int) (e2 : List (den (.int .u8))) (e3 : List (den erl)) (hok : earB e0 e1 e2 e3 = true) (hl : e3.length ≤ 1048576) (hk : e3.length < k) : F99 k e0 e1 e2 e3 = some (rgs e3) := by
 obtain ⟨h0, h1, h2, h3⟩ := ear_iff.1 hok
 obtain ⟨hA, _⟩ := chkP_lt h3
 have := foldLoopI e3 (fun j (m : List (Int × Int)) => m.length ≤ 2) (fun n m j => F99_l0 k e0 e1 e2 e3 n j m) (fun m x => stS 2 m x.1) id
  (fun n m j h hp => by
   obtain ⟨b1, b2⟩ := eA_bound (hA e3[j] (List.getElem_mem h))
   have b1 : e0 < (show Int from e3[j].1) := b1
   have b2 : (show Int from e3[j].1) < e0 + e1 - ((e2.length : Nat) : Int) := b2
   have w1 : IntKind.i64.wrap (e3[j].1 + 1) = e3[j].1 + 1 := i64_in _ (by show _ ≤ (show Int from e3[j].1) + 1 ∧ (show Int from e3[j].1) + 1 ≤ _; omega)
   rw [F99_l0]
   unfold F99_l0_T F99_l0_j1
   have d1 : decide ((j : Int) < ((e3.length : Nat) : Int)) = true := decide_eq_true (by omega)
   have d0 : decide ((0 : Int) ≤ ((j : Nat) : Int)) = true := decide_eq_true (by omega)
   rw [atI_get e3 j h, up1 j (by omega), i64_in (((m.length : Nat) : Int) - 1) (by omega), w1, d1, d0]
   have hsz : decide ((m.length + [(e3[j].1, e3[j].1 + 1)].length) * 16 ≤ 140737488355328) = true := decide_eq_true (by simp; omega)
   rw [hsz]
   simp only [cond_true]
   by_cases hne : m = []
   ·subst hne
    rfl
   ·obtain ⟨d, p, hm, hp2, hp3⟩ := last_atG (t := rng) m hne
    have hpos : 0 < m.length := List.length_pos_iff.2 hne
    have d2 : decide ((((m.length : Nat) : Int) - 1) ≥ 0) = true := decide_eq_true (by omega)
    have d2' : decide ((0 : Int) ≤ ((m.length : Nat) : Int) - 1) = true := decide_eq_true (by omega)
    have d3 : decide (((m.length : Nat) : Int) - 1 < ((m.length : Nat) : Int)) = true := decide_eq_true (by omega)
    rw [hp2, hp3, d2, d3]
    simp only [cond_true]
    unfold stS
    rw [hm, mrg_snoc, ← hm]
    by_cases hq : p.2 = e3[j].1
    ·rw [if_pos hq, hq, w1, show ((e3[j].1 : Int) == e3[j].1) = true from beq_self_eq_true _]; rfl
    ·rw [if_neg hq, show ((p.2 : Int) == e3[j].1) = false from beq_eq_false_iff_ne.2 hq]
     simp only [cond_false, Option.getD_none]
     by_cases hlt : ((m.length : Nat) : Int) < 2
     ·rw [decide_eq_true hlt, if_pos (by omega)]; rfl
     ·rw [decide_eq_false hlt, if_neg (by omega)]; rfl)
  (fun m j h hp => stS_len 2 (by decide) m _ hp)
  (fun n m hp => by
   rw [F99_l0]
   unfold F99_l0_T
   rw [decide_eq_false (by omega : ¬ ((e3.length : Nat) : Int) < (e3.length : Nat))]; rfl) k [] 0 (Nat.zero_le _) (by omega) (by simp)
 rw [List.drop_zero, foldl_map1 (stS 2)] at this
 simp only [F99, F99_T, F68_eq k e0 e1 e2 e3 hl hk, hok, Option.bind_some, Bool.not_true, cond_false]
 exact this
theorem F94_eq (k : Nat) (e0 e1 : Int) (e2 : List (den (.int .u8))) (e3 : List (den erl)) (hok : earB e0 e1 e2 e3 = true) (hl : e3.length ≤ 1048576) (hk : e3.length < k) : F94 k e0 e1 e2 e3 = some (rgs e3) := by
 obtain ⟨h0, h1, h2, h3⟩ := ear_iff.1 hok
 obtain ⟨hA, hpw⟩ := chkP_lt h3
 have := foldLoopI e3 (fun j (m : List (Int × Int)) => m.length ≤ j) (fun n m j => F94_l0 k e0 e1 e2 e3 n j m) (fun m x => stI m x.1) (fun m => m.take 2)
  (fun n m j h hp => by
   obtain ⟨b1, b2⟩ := eA_bound (hA e3[j] (List.getElem_mem h))
   have b1 : e0 < (show Int from e3[j].1) := b1
   have b2 : (show Int from e3[j].1) < e0 + e1 - ((e2.length : Nat) : Int) := b2
   have w1 : IntKind.i64.wrap (e3[j].1 + 1) = e3[j].1 + 1 := i64_in _ (by show _ ≤ (show Int from e3[j].1) + 1 ∧ (show Int from e3[j].1) + 1 ≤ _; omega)
   rw [F94_l0]
   unfold F94_l0_T F94_l0_j1
   have d1 : decide ((j : Int) < ((e3.length : Nat) : Int)) = true := decide_eq_true (by omega)
   have d0 : decide ((0 : Int) ≤ ((j : Nat) : Int)) = true := decide_eq_true (by omega)
   rw [atI_get e3 j h, up1 j (by omega), i64_in (((m.length : Nat) : Int) - 1) (by omega), w1, d1, d0]
   have hsz : decide ((m.length + [(e3[j].1, e3[j].1 + 1)].length) * 16 ≤ 140737488355328) = true := decide_eq_true (by simp; omega)
   rw [hsz]
   simp only [cond_true]
   by_cases hne : m = []
   ·subst hne
    rfl
   ·obtain ⟨d, p, hm, hp2, hp3⟩ := last_atG (t := rng) m hne
    have hpos : 0 < m.length := List.length_pos_iff.2 hne
    have d2 : decide (((m.length : Nat) : Int) > 0) = true := decide_eq_true (by omega)
    have d2' : decide ((0 : Int) ≤ ((m.length : Nat) : Int) - 1) = true := decide_eq_true (by omega)
    have d3 : decide (((m.length : Nat) : Int) - 1 < ((m.length : Nat) : Int)) = true := decide_eq_true (by omega)
    rw [hp2, hp3, d2, d2', d3]
    simp only [cond_true]
    unfold stI
    rw [hm, mrg_snoc, ← hm]
    by_cases hq : p.2 = e3[j].1
    ·rw [if_pos hq, hq, w1, show ((e3[j].1 : Int) == e3[j].1) = true from beq_self_eq_true _]; rfl
    ·rw [if_neg hq, show ((p.2 : Int) == e3[j].1) = false from beq_eq_false_iff_ne.2 hq]; rfl)
  (fun m j h hp => by
   unfold stI
   by_cases hne : m = []
   ·subst hne; simp [mrg]
   ·obtain ⟨p, r, rfl⟩ := snoc_of hne
    rw [mrg_snoc]
    split <;> simp at * <;> omega)
  (fun n m hp => by
   rw [F94_l0]
   unfold F94_l0_T
   rw [decide_eq_false (by omega : ¬ ((e3.length : Nat) : Int) < (e3.length : Nat)), cond_false]
   have hb : ∀ x : Int, (if 2 < ((m.length : Nat) : Int) then (2 : Int) else ((m.length : Nat) : Int)) = x → 0 ≤ x ∧ x ≤ ((m.length : Nat) : Int) ∧ x.toNat = min 2 m.length := by
    intro x hx
    split at hx <;> subst hx <;> omega
   obtain ⟨x1, x2, x3⟩ := hb _ rfl
   rw [decide_eq_true x1, decide_eq_true x2, x3, F91_eq k _ (by simp; omega)]
   simp) k [] 0 (Nat.zero_le _) (by omega) (by simp)
 rw [List.drop_zero, foldl_map1 stI] at this
 have hr := rng_eq 2 (by decide) (e3.map (·.1)) [] [] hpw (by simp) (.inl rfl) (fun h => absurd rfl h) (fun _ a _ p r h => by simp at h)
 simp only [List.nil_append] at hr
 rw [hr] at this
 exact this
theorem seqI (k : Nat) (a : Int) : F85 k a = some (seqOf a) := by
 rw [← F96_val k a]
 unfold F85 F96
 have hm := Int.tmod_lt_of_pos a (show (0 : Int) < 65536 by omega)
 have hm2 : -65536 < a.tmod 65536 := by
  have := Int.tmod_lt_of_pos (-a) (show (0 : Int) < 65536 by omega)
  rw [Int.neg_tmod] at this
  omega
 rw [i64_in _ (by omega)]
 by_cases hn : a.tmod 65536 < 0
 ·rw [decide_eq_true hn, cond_true]
  congr 1
  rw [Int.tmod_eq_of_lt (by omega) (by omega)]
 ·rw [decide_eq_false hn, cond_false]
  congr 1
  have : (a.tmod 65536 + 65536).tmod 65536 = a.tmod 65536 := by
   rw [Int.tmod_eq_emod_of_nonneg (by omega), Int.add_emod_right, Int.emod_eq_of_lt (by omega) hm]
  exact this
def sq (r : Int × Int) : Int × Int := (seqOf r.1, seqOf r.2)
theorem foldl_app {α β : Type} (f : α → β) : ∀ (l : List α) (s : List β), l.foldl (fun s a => s ++ [f a]) s = s ++ l.map f
 | [], s => by simp
 | a :: l, s => by simp only [List.foldl_cons, foldl_app f l, List.map_cons, List.append_assoc, List.singleton_append]
def waitE (a11 a18 : Int) : Int := cond (a18 == a11) (IntKind.i64.wrap (a11 + 1)) a11
theorem F72_l (k : Nat) (a0 a1 a2 a3 a4 a5 a6 : Int) (a7 : List (den (.int .u8))) (a8 a9 : Int) (a10 : List (den rng)) (a11 a12 : Int) (a13 : List (den (.int .u8))) (a14 : List (den erl)) (a15 a16 a17 : Bool) (a18 a19 a20 a21 a22 a23 : Int) (at' c2 c3 c4 : Int) (l : List (Int × Int)) (hl : l.length ≤ 2) (hk : 4 ≤ k) :
  F72_l0 k a0 a1 a2 a3 a4 a5 a6 a7 a8 a9 a10 a11 a12 a13 a14 a15 a16 a17 a18 a19 a20 a21 a22 a23 at' k 0 c2 c3 c4 [] l = some (a2, a4, c2, c3, c4, false, true, false, false, l.map sq, []) := by
 have := foldLoopI l (fun j (m : List (Int × Int)) => m.length ≤ j) (fun n m j => F72_l0 k a0 a1 a2 a3 a4 a5 a6 a7 a8 a9 a10 a11 a12 a13 a14 a15 a16 a17 a18 a19 a20 a21 a22 a23 at' n j c2 c3 c4 m l) (fun m r => m ++ [sq r])
  (fun m => (a2, a4, c2, c3, c4, false, true, false, false, m, []))
  (fun n m j h hp => by
   rw [F72_l0]
   unfold F72_l0_T
   rw [atI_get (t := rng) l j h, up1 j (by omega), decide_eq_true (by omega : ((j : Nat) : Int) < (l.length : Nat)), decide_eq_true (by omega : (0 : Int) ≤ (j : Nat)), F96_val, F96_val]
   simp only [cond_true, Option.bind_some]
   rw [decide_eq_true (by simp; omega)]
   rfl)
  (fun m j h hp => by simp; omega)
  (fun n m hp => by
   rw [F72_l0]
   unfold F72_l0_T
   rw [decide_eq_false (by omega : ¬ ((l.length : Nat) : Int) < (l.length : Nat))]; rfl) k [] 0 (Nat.zero_le _) (by omega) (by simp)
 rw [List.drop_zero, foldl_app, List.nil_append] at this
 exact this
theorem F72_eq (k : Nat) (a0 a1 a2 a3 a4 a5 a6 : Int) (a7 : List (den (.int .u8))) (a8 a9 : Int) (a10 : List (den rng)) (a11 a12 : Int) (a13 : List (den (.int .u8))) (a14 : List (den erl)) (a15 a16 a17 : Bool) (a18 a19 a20 a21 a22 a23 : Int) (at' : Int) (h0 : a0 ≠ 2) (hok : earB a11 a12 a13 a14 = true) (hl : a14.length ≤ 1048576) (hk : a14.length < k) (hk4 : 4 ≤ k) :
  F72 k a0 a1 a2 a3 a4 a5 a6 a7 a8 a9 a10 a11 a12 a13 a14 a15 a16 a17 a18 a19 a20 a21 a22 a23 at' = some (a2, a4, seqOf at', seqOf (waitE a11 a18), a12 - ((a13.length : Nat) : Int), false, true, false, false, (rgs a14).map sq, []) := by
 obtain ⟨_, h1, h2, _⟩ := ear_iff.1 hok
 have hw : F97 k a0 a1 a2 a3 a4 a5 a6 a7 a8 a9 a10 a11 a12 a13 a14 a15 a16 a17 a18 a19 a20 a21 a22 a23 = some (waitE a11 a18) := by unfold F97 waitE; rw [some_cond]
 have hf : F98 k a11 a12 a13 a14 = some (a12 - ((a13.length : Nat) : Int)) := by
  simp only [F98, F98_T, F68_eq k a11 a12 a13 a14 hl hk, hok, Option.bind_some, Bool.not_true, cond_false]
  rw [i64_in _ (by omega)]
 unfold F72 F72_T
 refine (bs (F96_val k at')).trans ?_
 refine (cf (beq_eq_false_iff_ne.2 h0)).trans ?_
 refine (bs hw).trans ?_
 refine (bs (F96_val k _)).trans ?_
 refine (bs hf).trans ?_
 refine (bs (F99_eq k a11 a12 a13 a14 hok hl hk)).trans ?_
 exact F72_l k a0 a1 a2 a3 a4 a5 a6 a7 a8 a9 a10 a11 a12 a13 a14 a15 a16 a17 a18 a19 a20 a21 a22 a23 at' _ _ _ (rgs a14) (rgs_len _) hk4
theorem copyNil (k : Nat) (a0 a1 a2 a3 a4 : Int) (a5 a6 a7 a8 : Bool) (a9 : rgL) (h : a9.length ≤ 4194304) : F95 k a0 a1 a2 a3 a4 a5 a6 a7 a8 a9 = some (a0, a1, a2, a3, a4, a5, a6, a7, a8, a9, []) := by
 simp only [F95, F91_eq k a9 h, Option.bind_some]
 rfl
theorem F66_l (k : Nat) (a0 a1 a2 a3 a4 a5 a6 : Int) (a7 : List (den (.int .u8))) (a8 a9 : Int) (a10 : List (den rng)) (a11 a12 : Int) (a13 : List (den (.int .u8))) (a14 : List (den erl)) (a15 a16 a17 : Bool) (a18 a19 a20 a21 a22 a23 : Int) (at' c2 c3 c4 : Int) (l : List (Int × Int)) (hl : l.length ≤ 2) (hk : 4 ≤ k) :
  F66_l0 k a0 a1 a2 a3 a4 a5 a6 a7 a8 a9 a10 a11 a12 a13 a14 a15 a16 a17 a18 a19 a20 a21 a22 a23 at' k ((l.length : Nat) : Int) 0 c2 c3 c4 [] l = some (a2, a4, c2, c3, c4, false, true, false, false, l.map sq, []) := by
 have := foldLoopI l (fun j (m : List (Int × Int)) => m.length ≤ j) (fun n m j => F66_l0 k a0 a1 a2 a3 a4 a5 a6 a7 a8 a9 a10 a11 a12 a13 a14 a15 a16 a17 a18 a19 a20 a21 a22 a23 at' n ((l.length : Nat) : Int) j c2 c3 c4 m l) (fun m r => m ++ [sq r])
  (fun m => (a2, a4, c2, c3, c4, false, true, false, false, m, []))
  (fun n m j h hp => by
   rw [F66_l0]
   unfold F66_l0_T
   rw [atI_get (t := rng) l j h, up1 j (by omega), decide_eq_true (by omega : ((j : Nat) : Int) < (l.length : Nat)), decide_eq_true (by omega : (0 : Int) ≤ (j : Nat)), seqI, seqI]
   simp only [cond_true, Option.bind_some]
   rw [decide_eq_true (by simp; omega)]
   rfl)
  (fun m j h hp => by simp; omega)
  (fun n m hp => by
   rw [F66_l0]
   unfold F66_l0_T
   rw [decide_eq_false (by omega : ¬ ((l.length : Nat) : Int) < (l.length : Nat)), cond_false, copyNil k _ _ _ _ _ _ _ _ _ m (by omega)]; rfl) k [] 0 (Nat.zero_le _) (by omega) (by simp)
 rw [List.drop_zero, foldl_app, List.nil_append] at this
 exact this
theorem F66_eq (k : Nat) (a0 a1 a2 a3 a4 a5 a6 : Int) (a7 : List (den (.int .u8))) (a8 a9 : Int) (a10 : List (den rng)) (a11 a12 : Int) (a13 : List (den (.int .u8))) (a14 : List (den erl)) (a15 a16 a17 : Bool) (a18 a19 a20 a21 a22 a23 : Int) (at' : Int) (hok : earB a11 a12 a13 a14 = true) (hl : a14.length ≤ 1048576) (hk : a14.length < k) (hk4 : 4 ≤ k) :
  F66 k a0 a1 a2 a3 a4 a5 a6 a7 a8 a9 a10 a11 a12 a13 a14 a15 a16 a17 a18 a19 a20 a21 a22 a23 at' = some (a2, a4, seqOf at', seqOf (waitE a11 a18), a12 - ((a13.length : Nat) : Int), false, true, false, false, (rgs a14).map sq, []) := by
 obtain ⟨_, h1, h2, _⟩ := ear_iff.1 hok
 have hw : F93 k a0 a1 a2 a3 a4 a5 a6 a7 a8 a9 a10 a11 a12 a13 a14 a15 a16 a17 a18 a19 a20 a21 a22 a23 = some (waitE a11 a18) := by unfold F93 waitE; rw [some_cond]
 have hf : F76 k a11 a12 a13 a14 = some (a12 - ((a13.length : Nat) : Int)) := by unfold F76; rw [i64_in _ (by omega)]
 unfold F66 F66_T
 refine (bs (seqI k at')).trans ?_
 refine (bs hw).trans ?_
 refine (bs (seqI k _)).trans ?_
 refine (bs hf).trans ?_
 refine (bs (F94_eq k a11 a12 a13 a14 hok hl hk)).trans ?_
 exact F66_l k a0 a1 a2 a3 a4 a5 a6 a7 a8 a9 a10 a11 a12 a13 a14 a15 a16 a17 a18 a19 a20 a21 a22 a23 at' _ _ _ (rgs a14) (rgs_len _) hk4
end Go.Proofs.YtgbmdojleednhaaGreat.Gn
end
