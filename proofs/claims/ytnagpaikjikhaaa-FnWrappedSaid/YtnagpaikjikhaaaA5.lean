/-
  What the proof of this row needs, part 5: the typed evaluator of the translated code, the functions that the law reaches as plain functions, and what they answer.
-/
import Derived.Test.YtnagpaikjikhaaaA4
section
namespace Go.Proofs.Ytnagpaikjikhaaa.Gn
open Go.Rf Go.IntWalk
set_option linter.unusedVariables false
set_option linter.unusedSimpArgs false
def inB (a b c : Int) : Bool := decide (b ≤ a) && decide (a ≤ c)
theorem F51_eq (k : Nat) (a b c : Int) : F51 k a b c = some (inB a b c) := by
  unfold F51 inB
  have : decide (a ≥ b) = decide (b ≤ a) := rfl
  rw [this]
  cases decide (b ≤ a) <;> rfl
theorem F45_eq (k : Nat) (a b c : Int) : F45 k a b c = some (inB a b c) := F51_eq k a b c
theorem F54_eq (k : Nat) (a : Int) : F54 k a = some (inB a 1 255) := by unfold F54; rw [F45_eq]; rfl
theorem F55_eq (k : Nat) (a : Int) : F55 k a = some (inB a 0 65535) := by unfold F55; rw [F45_eq]; rfl
abbrev u8L : Type := List (den (.int .u8))
abbrev rgL : Type := List (den rng)
theorem ml : maxLen = 9223372036854775807 := rfl
theorem some_cond {α : Type} (c : Bool) (a b : α) : cond c (some a) (some b) = some (cond c a b) := by cases c <;> rfl
theorem F113_eq (k : Nat) (l : rgL) : F113 k l = some l := by
  simp only [F113, F113_T]
  rw [decide_eq_true (by omega : (0 : Int) ≤ ((l.length : Nat) : Int))]
  simp
theorem F114_eq (k : Nat) (l : u8L) : F114 k l = some l := by
  simp only [F114, F114_T]
  rw [decide_eq_true (by omega : (0 : Int) ≤ ((l.length : Nat) : Int))]
  simp
theorem F87_eq (k : Nat) (l : rgL) (h : l.length ≤ 4194304) : F87 k l = some l := by
  simp only [F87, F87_T, F113_eq, List.nil_append, List.length_nil, Nat.zero_add]
  rw [decide_eq_true (by omega : l.length * 16 ≤ 140737488355328)]
  cases l with
  | nil => rfl
  | cons a r => rw [show ((((a :: r).length : Nat) : Int) == 0) = false by rw [beq_eq_false_iff_ne]; simp only [List.length_cons]; omega]; rfl
theorem F88_eq (k : Nat) (l : u8L) (h : l.length ≤ 4194304) : F88 k l = some l := by
  simp only [F88, F88_T, F114_eq, List.nil_append, List.length_nil, Nat.zero_add]
  rw [decide_eq_true (by omega : l.length * 1 ≤ 140737488355328)]
  cases l with
  | nil => rfl
  | cons a r => rw [show ((((a :: r).length : Nat) : Int) == 0) = false by rw [beq_eq_false_iff_ne]; simp only [List.length_cons]; omega]; rfl
theorem eqD_rng (a b : den rng) : eqD rng a b = decide (a = b) := by
  obtain ⟨a1, a2⟩ := a
  obtain ⟨b1, b2⟩ := b
  simp only [eqD]
  have e : ((a1, a2) = (b1, b2)) ↔ (a1 = b1 ∧ a2 = b2) := Prod.mk.injEq .. ▸ Iff.rfl
  by_cases h1 : a1 = b1 <;> by_cases h2 : a2 = b2 <;> simp [h1, h2, e]
def gB (x : Int) (a : den (.int .u8)) : den (.int .u8) := IntKind.u8.wrap x
theorem bs {α β : Type} {o : Option α} {f : α → Option β} {x : α} (h : o = some x) : o.bind f = f x := by rw [h]; rfl
theorem cf {α : Type} {c : Bool} {a b : α} (h : c = false) : cond c a b = b := by rw [h]; rfl
theorem ct {α : Type} {c : Bool} {a b : α} (h : c = true) : cond c a b = a := by rw [h]; rfl
def rgB (a : den rng) : Bool := inB a.1 0 65535 && inB a.2 0 65535
def okT (a3 a4 : Int) (a5 a6 a7 a8 : Bool) (a9 : rgL) (a10 : u8L) : Bool :=
  cond (!a6) (cond (a3 != 0) false (cond (a4 != 0) false (cond (decide (((a9.length : Nat) : Int) > 0)) false (cond (!a8) true (cond (!a5) (cond (!a7) (((a10.length : Nat) : Int) == 0) false) false)))))
    (cond (!a8) true (cond (!a5) (cond (!a7) (((a10.length : Nat) : Int) == 0) false) false))
def okS (a0 a1 a2 a3 a4 : Int) (a5 a6 a7 a8 : Bool) (a9 : List (den rng)) (a10 : List (den (.int .u8))) : Bool :=
  inB a0 1 255 && inB a1 1 255 && inB a2 0 65535 && inB a3 0 65535 && inB a4 0 255 && !(decide (((a9.length : Nat) : Int) > 2)) && !(decide (((a10.length : Nat) : Int) > 12)) && (a9.all rgB && okT a3 a4 a5 a6 a7 a8 a9 a10)
theorem F50_l (k : Nat) (a0 a1 a2 a3 a4 : Int) (a5 a6 a7 a8 : Bool) (a9 : List (den rng)) (a10 : List (den (.int .u8))) (h9 : a9.length ≤ 1048576) (k9 : a9.length < k) : F50_l0 k a0 a1 a2 a3 a4 a5 a6 a7 a8 a9 a10 k 0 = some (a9.all rgB && okT a3 a4 a5 a6 a7 a8 a9 a10) := by
  have := scanLoop a9 (fun n (_ : Unit) j => F50_l0 k a0 a1 a2 a3 a4 a5 a6 a7 a8 a9 a10 n j) (fun _ _ a => cond (rgB a) (.inl ()) (.inr false)) (fun _ => okT a3 a4 a5 a6 a7 a8 a9 a10)
    (fun n s j h => by
      simp only [F50_l0, F50_l0_T]
      rw [atI_get a9 j h, F51_eq, F51_eq, up1 j (by omega)]
      simp only [Option.bind_some]
      rw [decide_eq_true (by omega : ((j : Nat) : Int) < (a9.length : Nat)), decide_eq_true (by omega : (0 : Int) ≤ (j : Nat))]
      unfold rgB
      cases inB a9[j].1 0 65535 <;> cases inB a9[j].2 0 65535 <;> rfl)
    (fun n s => by
      simp only [F50_l0, F50_l0_T]
      rw [decide_eq_false (by omega : ¬ ((a9.length : Nat) : Int) < (a9.length : Nat))]
      simp only [cond_false, some_cond, okT]) k () 0 (Nat.zero_le _) (by omega)
  rw [scan_all, List.drop_zero] at this
  exact this
theorem F50_eq (k : Nat) (a0 a1 a2 a3 a4 : Int) (a5 a6 a7 a8 : Bool) (a9 : List (den rng)) (a10 : List (den (.int .u8))) (h9 : a9.length ≤ 1048576) (k9 : a9.length < k) : F50 k a0 a1 a2 a3 a4 a5 a6 a7 a8 a9 a10 = some (okS a0 a1 a2 a3 a4 a5 a6 a7 a8 a9 a10) := by
  simp only [F50, F50_T]
  rw [F50_l k a0 a1 a2 a3 a4 a5 a6 a7 a8 a9 a10 h9 k9]
  simp only [F51_eq, Option.bind_some, okS]
  cases inB a0 1 255 <;> try rfl
  cases inB a1 1 255 <;> try rfl
  cases inB a2 0 65535 <;> try rfl
  cases inB a3 0 65535 <;> try rfl
  cases inB a4 0 255 <;> try rfl
  cases decide (((a9.length : Nat) : Int) > 2) <;> try rfl
  cases decide (((a10.length : Nat) : Int) > 12) <;> rfl
theorem F57_eq (k : Nat) (a b : Int) : F57 k a b = some (!(rgB (a, b))) := by
  unfold F57 rgB
  rw [F55_eq, F55_eq]
  simp only [Option.bind_some]
  cases inB a 0 65535 <;> cases inB b 0 65535 <;> rfl
theorem F56_eq (k : Nat) (l : rgL) (h9 : l.length ≤ 1048576) (k9 : l.length < k) : F56 k l = some (!(l.all rgB)) := by
  have := scanLoop l (fun n (_ : Unit) j => F90_l0 k l n j) (fun _ j a => cond (rgB a) (.inl ()) (.inr (j : Int))) (fun _ => -1)
    (fun n s j h => by
      simp only [F90_l0, F90_l0_T]
      rw [atI_get l j h, F57_eq, up1 j (by omega)]
      simp only [Option.bind_some]
      rw [decide_eq_true (by omega : ((j : Nat) : Int) < (l.length : Nat)), decide_eq_true (by omega : (0 : Int) ≤ (j : Nat))]
      show cond true (cond true (cond true (cond (!rgB l[j]) _ _) _) _) _ = _
      cases rgB l[j] <;> rfl)
    (fun n s => by
      simp only [F90_l0, F90_l0_T]
      rw [decide_eq_false (by omega : ¬ ((l.length : Nat) : Int) < (l.length : Nat))]; rfl) k () 0 (Nat.zero_le _) (by omega)
  rw [List.drop_zero] at this
  have hs : ∀ (r : rgL) (j : Nat), (decide (scan (fun (_ : Unit) j a => cond (rgB a) (.inl ()) (.inr (j : Int))) (fun _ => (-1 : Int)) () j r ≥ 0)) = !(r.all rgB) := by
    intro r
    induction r with
    | nil => intro j; rfl
    | cons a r ih =>
      intro j
      rw [scan, List.all_cons]
      cases rgB a with
      | true => simpa using ih (j + 1)
      | false => simp
  simp only [F56, F90, F90_T]
  have this2 : F90_l0 k l k 0 = _ := this
  rw [this2, Option.bind_some, hs l 0]
theorem F14_eq (k : Nat) (a0 a1 a2 a3 a4 : Int) (a5 a6 a7 a8 : Bool) (a9 : List (den rng)) (a10 : List (den (.int .u8))) (h9 : a9.length ≤ 1048576) (k9 : a9.length < k) : F14 k a0 a1 a2 a3 a4 a5 a6 a7 a8 a9 a10 = some (okS a0 a1 a2 a3 a4 a5 a6 a7 a8 a9 a10) := by
  simp only [F14, F14_T]
  rw [F56_eq k a9 h9 k9]
  simp only [F54_eq, F55_eq, F45_eq, Option.bind_some, some_cond, okS]
  cases inB a0 1 255 <;> try rfl
  cases inB a1 1 255 <;> try rfl
  cases inB a2 0 65535 <;> try rfl
  cases inB a3 0 65535 <;> try rfl
  cases inB a4 0 255 <;> try rfl
  cases decide (((a9.length : Nat) : Int) > 2) <;> try rfl
  cases decide (((a10.length : Nat) : Int) > 12) <;> try rfl
  cases a9.all rgB <;> rfl
theorem F46_eq (k : Nat) (a0 a1 a2 a3 a4 : Int) (a5 a6 a7 a8 : Bool) (a9 : List (den rng)) (a10 : List (den (.int .u8))) (h9 : a9.length ≤ 4194304) (h10 : a10.length ≤ 4194304) : F46 k a0 a1 a2 a3 a4 a5 a6 a7 a8 a9 a10 = some (a0, a1, a2, a3, a4, a5, a6, a7, a8, a9, a10) := by
  simp only [F46, F46_T]
  rw [F87_eq k a9 h9, F88_eq k a10 h10]; rfl
theorem F92_eq (k : Nat) (a : Int) (h : 0 ≤ a ∧ a ≤ 16777216) : F92 k a = some [] := by
  simp only [F92, F92_T]
  rw [decide_eq_false (by omega : ¬ a < 0), i64_in _ (by omega)]
  by_cases h0 : a = 0
  · subst h0; rfl
  · rw [decide_eq_true (by omega : a - 0 > 0), decide_eq_true (by omega : (a - 0) * (1 : Nat) ≤ 140737488355328)]
    rw [decide_eq_true (by omega : (0 : Int) ≤ (((List.replicate ((a - 0).toNat) (dflt (.int .u8))).length : Nat) : Int))]
    rfl
def Sm {β : Type} (o : Option β) (P : β → Prop) : Prop := ∃ r, o = some r ∧ P r
theorem Sm.bind {α β : Type} {o : Option α} {f : α → Option β} {P : α → Prop} {Q : β → Prop} (h : Sm o P) (g : ∀ r, P r → Sm (f r) Q) : Sm (o.bind f) Q := by
  obtain ⟨r, e, p⟩ := h
  rw [e]
  exact g r p
theorem Sm.cond {β : Type} {c : Bool} {a b : Option β} {Q : β → Prop} (h1 : c = true → Sm a Q) (h2 : c = false → Sm b Q) : Sm (cond c a b) Q := by
  cases c
  · exact h2 rfl
  · exact h1 rfl
theorem Sm.ct {β : Type} {c : Bool} {a b : Option β} {Q : β → Prop} (hc : c = true) (h : Sm a Q) : Sm (_root_.cond c a b) Q := by rw [hc]; exact h
theorem Sm.cf {β : Type} {c : Bool} {a b : Option β} {Q : β → Prop} (hc : c = false) (h : Sm b Q) : Sm (_root_.cond c a b) Q := by rw [hc]; exact h
theorem wrapR (x : Int) : -9223372036854775808 ≤ IntKind.i64.wrap x ∧ IntKind.i64.wrap x ≤ 9223372036854775807 := by rw [IntKind.wrap_i64]; omega
def BOk (b : u8L) : Prop := ∀ x ∈ b, @LE.le Int _ 0 x ∧ @LE.le Int _ x 255
theorem atI_mem {t : Ty} {l : List (den t)} {i : Int} (h0 : 0 ≤ i) (h1 : i < (l.length : Nat)) : atI l i ∈ l := by
  obtain ⟨j, rfl⟩ := Int.eq_ofNat_of_zero_le h0
  rw [atI_get l j (by omega)]
  exact List.getElem_mem _
theorem xor_bound (x y : Int) (hx : 0 ≤ x ∧ x < 2 ^ 50) (hy : 0 ≤ y ∧ y < 2 ^ 50) : 0 ≤ bitsOf .xor .i64 x y ∧ bitsOf .xor .i64 x y < 2 ^ 50 := by
  obtain ⟨a, rfl⟩ := Int.eq_ofNat_of_zero_le hx.1
  obtain ⟨b, rfl⟩ := Int.eq_ofNat_of_zero_le hy.1
  have ha : a < 2 ^ 50 := by omega
  have hb : b < 2 ^ 50 := by omega
  have h1 : (BitVec.ofInt 64 (a : Int) ^^^ BitVec.ofInt 64 (b : Int)).toNat = a ^^^ b := by
    rw [BitVec.toNat_xor]
    simp only [BitVec.ofInt_natCast, BitVec.toNat_ofNat]
    rw [Nat.mod_eq_of_lt (by omega), Nat.mod_eq_of_lt (by omega)]
  have h2 : a ^^^ b < 2 ^ 50 := Nat.xor_lt_two_pow ha hb
  have h3 : bitsOf .xor .i64 (a : Int) (b : Int) = ((a ^^^ b : Nat) : Int) := by
    show IntKind.i64.wrap (((BitVec.ofInt 64 (a : Int) ^^^ BitVec.ofInt 64 (b : Int)).toNat : Nat) : Int) = _
    rw [h1, i64_in _ (by omega)]
  rw [h3]
  omega
theorem pick_ok (k : Nat) (b : u8L) (hb : BOk b) (hl : b.length ≤ 2000) (p n : Int) (hp : 0 ≤ p) (hp2 : p < 2 ^ 30) : ∃ r, F43 k b p n = some (r, b, p + 1) ∧ 0 ≤ r ∧ (1 ≤ n → r < n) ∧ (n < 1 → r = 0) := by
  unfold F43 F43_T
  rw [i64_in (p + 1) (by omega), show p + 1 - 1 = p by omega, i64_in p (by omega)]
  by_cases hn : n < 1
  · rw [decide_eq_true hn]; exact ⟨0, rfl, by omega, by omega, fun _ => rfl⟩
  · rw [decide_eq_false hn, cond_false]
    by_cases h0 : b.length = 0
    · have : (((b.length : Nat) : Int) == 0) = true := by simp [h0]
      rw [this]; exact ⟨0, rfl, by omega, by omega, fun _ => rfl⟩
    · have : (((b.length : Nat) : Int) == 0) = false := by simp [h0]
      rw [this, cond_false]
      have hpos : 0 < ((b.length : Nat) : Int) := by omega
      by_cases hlt : p < ((b.length : Nat) : Int)
      · rw [decide_eq_true hlt, decide_eq_true hp, decide_eq_false (by omega : ¬ n = 0)]
        simp only [cond_true, cond_false]
        have hm := hb _ (atI_mem hp hlt)
        rw [i64_in (atI b p) ⟨Int.le_trans (by decide) hm.1, Int.le_trans hm.2 (by decide)⟩]
        exact ⟨_, rfl, Int.tmod_nonneg _ hm.1, fun h => Int.tmod_lt_of_pos _ (by omega), by omega⟩
      · rw [decide_eq_false hlt, decide_eq_false (by omega : ¬ ((b.length : Nat) : Int) = 0)]
        simp only [cond_false]
        rw [i64_in (p * 7) (by omega), i64_in (p * 7 + 3) (by omega)]
        have m1 : 0 ≤ p.tmod ((b.length : Nat) : Int) := Int.tmod_nonneg _ hp
        have m2 : p.tmod ((b.length : Nat) : Int) < ((b.length : Nat) : Int) := Int.tmod_lt_of_pos _ hpos
        have m3 : 0 ≤ (p * 7 + 3).tmod ((b.length : Nat) : Int) := Int.tmod_nonneg _ (by omega)
        have m4 : (p * 7 + 3).tmod ((b.length : Nat) : Int) < ((b.length : Nat) : Int) := Int.tmod_lt_of_pos _ hpos
        have m5 : 0 ≤ p.tdiv ((b.length : Nat) : Int) := Int.tdiv_nonneg hp (by omega)
        have m6 : p.tdiv ((b.length : Nat) : Int) ≤ p := Int.tdiv_le_self _ hp
        rw [decide_eq_true m1, decide_eq_true m2, decide_eq_true m3, decide_eq_true m4, decide_eq_false (by omega : ¬ n = 0)]
        simp only [cond_true, cond_false]
        have g1 := hb _ (atI_mem m1 m2)
        have g2 := hb _ (atI_mem m3 m4)
        obtain ⟨x1, hx1⟩ : ∃ x : Int, x = atI b (p.tmod ((b.length : Nat) : Int)) := ⟨_, rfl⟩
        obtain ⟨x2, hx2⟩ : ∃ x : Int, x = atI b ((p * 7 + 3).tmod ((b.length : Nat) : Int)) := ⟨_, rfl⟩
        rw [← hx1] at g1 ⊢
        rw [← hx2] at g2 ⊢
        generalize p.tdiv ((b.length : Nat) : Int) = q at *
        have g1 : 0 ≤ x1 ∧ x1 ≤ 255 := g1
        have g2 : 0 ≤ x2 ∧ x2 ≤ 255 := g2
        rw [i64_in x1 (by omega), i64_in x2 (by omega), i64_in (x1 * 131) (by omega), i64_in (x2 * 1117) (by omega), i64_in (x1 * 131 + x2 * 1117) (by omega), i64_in (p * 29) (by omega), i64_in (x1 * 131 + x2 * 1117 + p * 29) (by omega),
          i64_in q (by omega), i64_in (q * 53) (by omega), i64_in (x1 * 131 + x2 * 1117 + p * 29 + q * 53) (by omega)]
        generalize hX : x1 * 131 + x2 * 1117 + p * 29 + q * 53 = X
        have hX1 : 0 ≤ X ∧ X < 2 ^ 50 := by omega
        have d1 : 0 ≤ X.tdiv 64 := Int.tdiv_nonneg hX1.1 (by omega)
        have d2 : X.tdiv 64 ≤ X := Int.tdiv_le_self _ hX1.1
        rw [i64_in (X.tdiv 64) (by omega)]
        have hxo := xor_bound X (X.tdiv 64) hX1 (by omega)
        exact ⟨_, rfl, Int.tmod_nonneg _ hxo.1, fun h => Int.tmod_lt_of_pos _ (by omega), by omega⟩
theorem pk {β : Type} (k : Nat) {b : u8L} (hb : BOk b) (hl : b.length ≤ 2000) {p n : Int} (hp : 0 ≤ p) (hp2 : p < 1000000) (hn : 1 ≤ n) {f : Int × u8L × Int → Option β} {Q : β → Prop}
    (h : ∀ x : Int, 0 ≤ x → x < n → Sm (f (x, b, p + 1)) Q) : Sm ((F43 k b p n).bind f) Q := by
  obtain ⟨r, e, h0, h1, _⟩ := pick_ok k b hb hl p n hp (by omega)
  rw [e]
  exact h r h0 (h1 hn)
theorem open_ok (k : Nat) (b : u8L) (hb : BOk b) : ∃ b', F41 k b = some (b', 0) ∧ BOk b' ∧ b'.length ≤ 2000 := by
  unfold F41 F41_T
  by_cases h : ((b.length : Nat) : Int) > 2000
  · rw [decide_eq_true h, cond_true]
    rw [decide_eq_true (by omega : (2000 : Int) ≤ ((b.length : Nat) : Int))]
    exact ⟨_, rfl, fun x hx => hb x (List.mem_of_mem_take hx), by simp; omega⟩
  · rw [decide_eq_false h, cond_false]
    exact ⟨_, rfl, hb, by omega⟩
theorem BOk.of {b : u8L} (h : Wf (.sl (.int .u8)) b) : BOk b := fun x hx => by
  have := h.2 x hx
  unfold Wf Lit.wf at this
  simp only [Bool.and_eq_true, decide_eq_true_eq] at this
  exact this
def by2 (v : Int) : u8L := [v / 256, v % 256]
theorem u8W (v : Int) (h : 0 ≤ v ∧ v ≤ 255) : IntKind.u8.wrap v = v := u8_in v h
theorem u8M (v : Int) : IntKind.u8.wrap v = v % 256 := by rw [IntKind.wrap_u8]
theorem F91_eq (n : Nat) (v : Int) (h : 0 ≤ v ∧ v ≤ 65535) : F91 (n + 4) v 2 = some (by2 v) := by
  have w1 : IntKind.i64.wrap (2 - 1) = 1 := by decide
  have w0 : IntKind.i64.wrap (1 - 1) = 0 := by decide
  have wm : IntKind.i64.wrap (0 - 1) = -1 := by decide
  have hd : v.fdiv 256 = v / 256 := Int.fdiv_eq_ediv_of_nonneg v (by omega)
  have e8 : ((2 : Int) ^ 8) = 256 := by decide
  unfold F91 F91_T
  rw [w1]
  refine (ct (by decide)).trans ?_
  have aux : ∀ k m : Nat, F91_l0 k v 2 (m + 1 + 1 + 1) v 1 (List.replicate (Int.toNat 2) (dflt (.int .u8))) = some (by2 v) := fun k m => by
    rw [F91_l0]
    unfold F91_l0_T
    refine (ct (by decide)).trans ((ct (by decide)).trans ((ct (by decide)).trans ?_))
    dsimp only
    rw [w0, F91_l0]
    unfold F91_l0_T
    refine (ct (by decide)).trans ((ct (by decide)).trans ((ct (by simp)).trans ?_))
    dsimp only
    rw [wm, F91_l0]
    unfold F91_l0_T
    refine (cf (by decide)).trans ?_
    rw [e8, hd, u8M, u8W (v / 256) (by omega)]
    rfl
  exact aux (n + 4) (n + 1)
theorem F95_eq (n : Nat) (v : Int) (h : 0 ≤ v ∧ v ≤ 65535) : F95 (n + 4) v 2 = some (by2 v) := by
  have w1 : IntKind.i64.wrap (2 - 1) = 1 := by decide
  have w0 : IntKind.i64.wrap (1 - 1) = 0 := by decide
  have wm : IntKind.i64.wrap (0 - 1) = -1 := by decide
  have hd : v.fdiv 256 = v / 256 := Int.fdiv_eq_ediv_of_nonneg v (by omega)
  have hd1 : v.fdiv 1 = v := by simp
  have e1 : ((2 : Int) ^ (min (IntKind.i64.wrap (8 * 1)).toNat 64)) = 256 := by decide
  have e0 : ((2 : Int) ^ (min (IntKind.i64.wrap (8 * 0)).toNat 64)) = 1 := by decide
  have i1 : inB 2 1 4 = true := by decide
  have i2 : inB v 0 (IntKind.i64.wrap ((IntKind.i64.wrap (1 * 2 ^ (min (IntKind.i64.wrap (8 * 2)).toNat 64))) - 1)) = true := by
    rw [show IntKind.i64.wrap ((IntKind.i64.wrap (1 * 2 ^ (min (IntKind.i64.wrap (8 * 2)).toNat 64))) - 1) = 65535 by decide]
    unfold inB
    rw [decide_eq_true h.1, decide_eq_true h.2]
    rfl
  unfold F95 F95_T
  rw [F51_eq, i1, Option.bind_some, w1]
  refine (cf rfl).trans ((cf (by decide)).trans ?_)
  rw [F51_eq, i2, Option.bind_some]
  refine (cf rfl).trans ?_
  have aux : ∀ k m : Nat, F95_l0 k v 2 (m + 1 + 1 + 1) 1 [] = some (by2 v) := fun k m => by
    rw [F95_l0]
    unfold F95_l0_T
    refine (ct (by decide)).trans ((cf (by decide)).trans ((ct (by simp)).trans ?_))
    dsimp only
    rw [w0, F95_l0]
    unfold F95_l0_T
    refine (ct (by decide)).trans ((cf (by decide)).trans ((ct (by simp)).trans ?_))
    dsimp only
    rw [wm, F95_l0]
    unfold F95_l0_T
    refine (cf (by decide)).trans ?_
    rw [e1, e0, hd, hd1, Int.tmod_eq_of_lt (by omega) (by omega), Int.tmod_eq_emod_of_nonneg h.1, u8W (v / 256) (by omega), u8W (v % 256) (by omega)]
    rfl
  exact aux (n + 4) (n + 1)
def red (n : Int) : Int := if n > 65535 then n - 65535 else n
def smV : Int → u8L → Int
  | s, [] => s
  | s, [x] => red (s + x * 256)
  | s, x :: y :: r => smV (red (s + (x * 256 + y))) r
theorem red_in {n : Int} (h : 0 ≤ n ∧ n ≤ 131070) : 0 ≤ red n ∧ red n ≤ 65535 := by unfold red; split <;> omega
theorem red_two {s x y : Int} (hs : 0 ≤ s ∧ s ≤ 65535) (hx : 0 ≤ x ∧ x ≤ 255) (hy : 0 ≤ y ∧ y ≤ 255) : red (red (s + x * 256) + y) = red (s + (x * 256 + y)) := by
  unfold red
  split <;> split <;> split <;> omega
theorem byt {l : u8L} (hb : BOk l) (j : Nat) (h : j < l.length) : @LE.le Int _ 0 l[j] ∧ @LE.le Int _ l[j] 255 := hb _ (List.getElem_mem h)
theorem l1Sum_l (k : Nat) (l : u8L) (hb : BOk l) (hl : l.length ≤ 1048576) : ∀ (n j : Nat) (s : Int), j % 2 = 0 → j ≤ l.length → l.length - j < n → (0 ≤ s ∧ s ≤ 65535) → F116_l0 k l n s (j : Int) = some (smV s (l.drop j))
  | 0, j, s, _, _, h, _ => by omega
  | 1, j, s, h2, hj, h, hs => by
    have : j = l.length := by omega
    subst this
    rw [F116_l0, List.drop_length]
    unfold F116_l0_T
    exact (cf (decide_eq_false (by omega))).trans rfl
  | n + 2, j, s, h2, hj, h, hs => by
    rw [F116_l0]
    unfold F116_l0_T
    rcases Nat.lt_or_ge j l.length with hlt | hge
    · obtain ⟨x, hx⟩ : ∃ x : Int, x = l[j] := ⟨_, rfl⟩
      have bx : 0 ≤ x ∧ x ≤ 255 := by rw [hx]; exact byt hb j hlt
      have d1 : decide ((j : Int) < ((l.length : Nat) : Int)) = true := decide_eq_true (by omega)
      have d0 : decide ((0 : Int) ≤ ((j : Nat) : Int)) = true := decide_eq_true (by omega)
      have ev : (((j : Int).tmod 2) == 0) = true := by rw [Int.tmod_eq_emod_of_nonneg (by omega)]; exact beq_iff_eq.2 (by omega)
      have nxt : ∀ s1 : Int, s1 = red (s + x * 256) → F116_l0 k l (n + 1) s1 ((j + 1 : Nat) : Int) = some (smV s (l.drop j)) := fun s1 hs1 => by
        have b1 := red_in (n := s + x * 256) (by omega)
        rw [← hs1] at b1
        rw [F116_l0]
        unfold F116_l0_T
        rcases Nat.lt_or_ge (j + 1) l.length with hlt' | hge'
        · obtain ⟨y, hy⟩ : ∃ y : Int, y = l[j + 1] := ⟨_, rfl⟩
          have by_ : 0 ≤ y ∧ y ≤ 255 := by rw [hy]; exact byt hb (j + 1) hlt'
          have od : ((((j + 1 : Nat) : Int).tmod 2) == 0) = false := by rw [Int.tmod_eq_emod_of_nonneg (by omega)]; exact beq_eq_false_iff_ne.2 (by omega)
          have e2 : smV s (l.drop j) = smV (red (s + (x * 256 + y))) (l.drop (j + 2)) := by
            rw [List.drop_eq_getElem_cons hlt, List.drop_eq_getElem_cons hlt', smV, ← hx, ← hy]
          have b2 := red_in (n := s1 + y) (by omega)
          rw [e2, ← red_two hs bx by_, ← hs1]
          refine (ct (decide_eq_true (by omega))).trans ((cf od).trans ((ct (decide_eq_true (by omega))).trans ((ct (decide_eq_true (by omega))).trans ?_)))
          rw [atI_get l (j + 1) hlt', ← hy, i64_in y (by omega), i64_in (s1 + y) (by omega), i64_in (s1 + y - 65535) (by omega), up1 (j + 1) (by omega)]
          unfold red at b2 ⊢
          by_cases c : s1 + y > 65535
          · rw [if_pos c] at b2 ⊢
            exact (ct (decide_eq_true c)).trans (l1Sum_l k l hb hl n (j + 2) _ (by omega) (by omega) (by omega) b2)
          · rw [if_neg c] at b2 ⊢
            exact (cf (decide_eq_false c)).trans (l1Sum_l k l hb hl n (j + 2) _ (by omega) (by omega) (by omega) b2)
        · have e1 : l.drop j = [l[j]] := by
            rw [List.drop_eq_getElem_cons hlt, List.drop_eq_nil_of_le (by omega)]
          rw [e1, smV, ← hx, ← hs1]
          exact (cf (decide_eq_false (by omega))).trans rfl
      refine (ct d1).trans ((ct ev).trans ((ct d0).trans ((ct d1).trans ?_)))
      rw [atI_get l j hlt, ← hx, i64_in x (by omega), i64_in (x * 256) (by omega), i64_in (s + x * 256) (by omega), i64_in (s + x * 256 - 65535) (by omega), up1 j (by omega)]
      by_cases c : s + x * 256 > 65535
      · exact (ct (decide_eq_true c)).trans (nxt _ (by unfold red; rw [if_pos c]))
      · exact (cf (decide_eq_false c)).trans (nxt _ (by unfold red; rw [if_neg c]))
    · have : j = l.length := by omega
      subst this
      rw [List.drop_length]
      exact (cf (decide_eq_false (by omega))).trans rfl
theorem pieces_nil {α : Type} {N : Nat} (hN : 1 ≤ N) : pieces N ([] : List α) = [] := by
  unfold pieces
  rw [show (([] : List α).length + N - 1) / N = 0 from Nat.div_eq_of_lt (by simp; omega)]
  rfl
theorem pieces_step {α : Type} {N : Nat} (hN : 1 ≤ N) (l : List α) (h : l ≠ []) : pieces N l = l.take N :: pieces N (l.drop N) := by
  have hl : 1 ≤ l.length := List.length_pos_iff.2 h
  have hc : (l.length + N - 1) / N = ((l.drop N).length + N - 1) / N + 1 := by
    rw [List.length_drop]
    by_cases hle : N ≤ l.length
    · rw [show l.length + N - 1 = (l.length - N + N - 1) + N by omega, Nat.add_div_right _ (by omega)]
    · rw [show l.length - N = 0 by omega, Nat.zero_add, Nat.div_eq_of_lt (show N - 1 < N by omega)]
      exact Nat.div_eq_of_lt_le (by omega) (by omega)
  unfold pieces
  rw [hc, List.range_succ_eq_map, List.map_cons, List.map_map]
  congr 1
  · simp [piece]
  · refine List.map_congr_left fun j _ => ?_
    simp only [Function.comp, piece, List.drop_drop]
    congr 2
    rw [Nat.succ_mul]
    omega
theorem or_bytes (x y : Int) (hx : 0 ≤ x ∧ x ≤ 255) (hy : 0 ≤ y ∧ y ≤ 255) : bitsOf .or .i64 (x * 256) y = x * 256 + y := by
  obtain ⟨a, rfl⟩ := Int.eq_ofNat_of_zero_le hx.1
  obtain ⟨b, rfl⟩ := Int.eq_ofNat_of_zero_le hy.1
  have ha : a ≤ 255 := by omega
  have hb : b ≤ 255 := by omega
  have e : ((a : Int) * 256) = ((a * 256 : Nat) : Int) := by omega
  rw [e]
  have h1 : (BitVec.ofInt 64 ((a * 256 : Nat) : Int) ||| BitVec.ofInt 64 (b : Int)).toNat = a * 256 + b := by
    rw [BitVec.toNat_or]
    simp only [BitVec.ofInt_natCast, BitVec.toNat_ofNat]
    rw [Nat.mod_eq_of_lt (by omega), Nat.mod_eq_of_lt (by omega)]
    have := Nat.shiftLeft_add_eq_or_of_lt (show b < 2 ^ 8 by omega) a
    rw [Nat.shiftLeft_eq] at this
    exact this.symm
  show IntKind.i64.wrap (((BitVec.ofInt 64 ((a * 256 : Nat) : Int) ||| BitVec.ofInt 64 (b : Int)).toNat : Nat) : Int) = _
  rw [h1, i64_in _ (by omega)]
  omega
theorem byt2 {l : u8L} (hb : BOk l) {x : den (.int .u8)} (h : x ∈ l) : ∃ v : Int, v = x ∧ (0 ≤ v ∧ v ≤ 255) := ⟨x, rfl, hb x h⟩
theorem F117_eq (n : Nat) (s m : Int) (hs : 0 ≤ s ∧ s ≤ 65535) (hm : 0 ≤ m ∧ m ≤ 65535) : F117 (n + 4) [s, m] = some (red (s + m)) := by
  have aux : ∀ k q : Nat, F117_l0 k [s, m] (q + 1 + 1 + 1) 0 0 = some (red (s + m)) := fun k q => by
    rw [F117_l0]
    unfold F117_l0_T
    refine (ct rfl).trans ((ct rfl).trans ((ct rfl).trans ?_))
    rw [show atI (t := .int .i64) [s, m] 0 = s from rfl, Int.zero_add, i64_in s (by omega)]
    refine (cf (decide_eq_false (by omega))).trans ?_
    dsimp only
    rw [show IntKind.i64.wrap (0 + 1) = 1 by decide, F117_l0]
    unfold F117_l0_T
    refine (ct rfl).trans ((ct rfl).trans ((ct rfl).trans ?_))
    rw [show atI (t := .int .i64) [s, m] 1 = m from rfl, i64_in (s + m) (by omega), i64_in (s + m - 65535) (by omega), show IntKind.i64.wrap (1 + 1) = 2 by decide]
    have fin : ∀ r : Int, F117_l0 k [s, m] (q + 1) r 2 = some r := fun r => by
      rw [F117_l0]
      unfold F117_l0_T
      exact (cf rfl).trans rfl
    unfold red
    by_cases c : s + m > 65535
    · rw [if_pos c]
      exact (ct (decide_eq_true c)).trans (fin _)
    · rw [if_neg c]
      exact (cf (decide_eq_false c)).trans (fin _)
  exact aux (n + 4) (n + 1)
theorem sumOf_l (n : Nat) (a0 : u8L) : ∀ (m : Nat) (l : u8L) (s : Int), l.length ≤ m → BOk l → (0 ≤ s ∧ s ≤ 65535) → F103_l0 (n + 4) a0 (pieces 2 l) s = some (65535 - smV s l)
  | _, [], s, _, _, hs => by
    rw [pieces_nil (by omega), F103_l0, smV, i64_in _ (by omega)]
  | 0, _ :: _, _, h, _, _ => by simp at h
  | m + 1, [x], s, h, hb, hs => by
    obtain ⟨x, rfl, bx⟩ := byt2 hb (x := x) (by simp)
    have e8 : ((2 : Int) ^ 8) = 256 := by decide
    have b1 := red_in (n := s + x * 256) (by omega)
    rw [pieces_step (by omega) [x] (by simp)]
    simp only [List.take_succ_cons, List.take_nil, List.drop_succ_cons, List.drop_nil]
    rw [F103_l0]
    refine (ct (by simp)).trans ((cf (by simp)).trans ?_)
    rw [show atI (t := .int .u8) [x] 0 = x from rfl, e8, i64_in x (by omega), i64_in (x * 256) (by omega), F117_eq n s (x * 256) hs (by omega), Option.bind_some, pieces_nil (by omega), F103_l0, smV, i64_in _ (by omega)]
  | m + 1, x :: y :: r, s, h, hb, hs => by
    obtain ⟨x, rfl, bx⟩ := byt2 hb (x := x) (by simp)
    obtain ⟨y, rfl, by_⟩ := byt2 hb (x := y) (by simp)
    have e8 : ((2 : Int) ^ 8) = 256 := by decide
    have b1 := red_in (n := s + (x * 256 + y)) (by omega)
    rw [pieces_step (by omega) (x :: y :: r) (by simp)]
    simp only [List.take_succ_cons, List.take_zero, List.drop_succ_cons, List.drop_zero]
    rw [F103_l0]
    refine (ct (by simp)).trans ((ct (by simp)).trans ((ct (by simp)).trans ?_))
    rw [show atI (t := .int .u8) [x, y] 0 = x from rfl, show atI (t := .int .u8) [x, y] 1 = y from rfl, e8, i64_in x (by omega), i64_in y (by omega), i64_in (x * 256) (by omega), or_bytes x y bx by_, F117_eq n s (x * 256 + y) hs (by omega), Option.bind_some, smV]
    exact sumOf_l n a0 m r _ (by simp only [List.length_cons] at h; omega) (fun z hz => hb z (by simp [hz])) b1
theorem smV_in : ∀ (l : u8L) (s : Int), BOk l → (0 ≤ s ∧ s ≤ 65535) → 0 ≤ smV s l ∧ smV s l ≤ 65535
  | [], s, _, hs => hs
  | [x], s, hb, hs => by
    obtain ⟨x, rfl, bx⟩ := byt2 hb (x := x) (by simp)
    exact red_in (by omega)
  | x :: y :: r, s, hb, hs => by
    obtain ⟨x, rfl, bx⟩ := byt2 hb (x := x) (by simp)
    obtain ⟨y, rfl, by_⟩ := byt2 hb (x := y) (by simp)
    exact smV_in r _ (fun z hz => hb z (by simp [hz])) (red_in (by omega))
def sumV (l : u8L) : Int := 65535 - smV 0 l
theorem F103_eq (n : Nat) (l : u8L) (hb : BOk l) (hl : l.length ≤ 1048576) : F103 (n + 4) l = some (sumV l) := by
  unfold F103
  rw [decide_eq_true (by omega : l.length ≤ 140737488355328)]
  exact sumOf_l n l l.length l 0 (Nat.le_refl _) hb (by omega)
theorem F100_eq (k : Nat) (l : u8L) (hb : BOk l) (hl : l.length ≤ 1048576) (hk : 1048576 < k) : F100 k l = some (sumV l) := by
  have := l1Sum_l k l hb hl k 0 0 rfl (Nat.zero_le _) (by omega) (by omega)
  have h2 := smV_in l 0 hb (by omega)
  unfold F100 F116 F116_T
  refine (bs this).trans ?_
  rw [List.drop_zero, i64_in _ (by omega)]
  rfl
theorem cat_l2 (k : Nat) (l : List u8L) (hl : l.length ≤ 1048576) : ∀ (n j : Nat) (m : u8L), j ≤ l.length → l.length - j < n → m.length + (l.drop j).flatten.length ≤ 4194304 → F62_l2 k l n (j : Int) m = some (m ++ (l.drop j).flatten)
  | 0, j, m, _, h, _ => by omega
  | n + 1, j, m, hj, h, hm => by
    rw [F62_l2]
    unfold F62_l2_T
    rcases Nat.lt_or_ge j l.length with hlt | hge
    · rw [List.drop_eq_getElem_cons hlt, List.flatten_cons, List.length_append] at hm
      rw [List.drop_eq_getElem_cons hlt, List.flatten_cons, atI_get (t := .sl (.int .u8)) l j hlt, up1 j (by omega)]
      refine (ct (decide_eq_true (by omega))).trans ((ct (decide_eq_true (by omega))).trans ((ct (decide_eq_true (by omega))).trans ((ct (decide_eq_true (by omega))).trans ?_)))
      dsimp only
      rw [cat_l2 k l hl n (j + 1) (m ++ l[j]) hlt (by omega) (by rw [List.length_append]; omega), List.append_assoc]
    · have : j = l.length := by omega
      subst this
      rw [List.drop_length]
      refine (cf (decide_eq_false (by omega))).trans ?_
      simp
theorem cat_l0 (k : Nat) (l : List u8L) (hk : l.length < k) (hl : l.length ≤ 1048576) (ht : l.flatten.length ≤ 4194304) : ∀ (n j : Nat) (s : Int), j ≤ l.length → l.length - j < n → (0 ≤ s ∧ s + ((l.drop j).flatten.length : Int) ≤ 4194304) → F62_l0 k l n s (j : Int) = some l.flatten
  | 0, j, s, _, h, _ => by omega
  | n + 1, j, s, hj, h, hm => by
    rw [F62_l0]
    unfold F62_l0_T
    rcases Nat.lt_or_ge j l.length with hlt | hge
    · rw [List.drop_eq_getElem_cons hlt, List.flatten_cons, List.length_append] at hm
      rw [atI_get (t := .sl (.int .u8)) l j hlt, up1 j (by omega), i64_in (s + ((l[j].length : Nat) : Int)) (by omega)]
      refine (ct (decide_eq_true (by omega))).trans ((ct (decide_eq_true (by omega))).trans ((ct (decide_eq_true (by omega))).trans ((cf (decide_eq_false (by omega))).trans ?_)))
      exact cat_l0 k l hk hl ht n (j + 1) _ hlt (by omega) (by omega)
    · have : j = l.length := by omega
      subst this
      rw [List.drop_length] at hm
      refine (cf (decide_eq_false (by omega))).trans ?_
      refine (bs (F92_eq k s (by simp at hm; omega))).trans ?_
      have := cat_l2 k l hl k 0 [] (Nat.zero_le _) (by omega) (by rw [List.drop_zero]; simpa using ht)
      simpa using this
theorem cat_eq (k : Nat) (l : List u8L) (hk : l.length < k) (hl : l.length ≤ 1048576) (ht : l.flatten.length ≤ 4194304) : F62 k l = some l.flatten := by
  unfold F62 F62_T
  exact cat_l0 k l hk hl ht k 0 0 (Nat.zero_le _) (by omega) (by rw [List.drop_zero]; omega)
def u8v (v : Int) : den (.int .u8) := IntKind.u8.wrap v
def mkS (a5 a6 a7 a8 : Bool) : Int := (if a5 then 1 else 0) + (if a6 then 2 else 0) + (if a7 then 4 else 0) + (if a8 then 8 else 0)
def rgsB : rgL → u8L
  | [] => []
  | r :: l => by2 r.1 ++ by2 r.2 ++ rgsB l
def hdS (a0 a1 a2 a3 a4 : Int) (a5 a6 a7 a8 : Bool) (a9 : List (den rng)) (a10 : List (den (.int .u8))) : u8L := [u8v a0, u8v a1] ++ by2 a2 ++ by2 a3 ++ [u8v a4, u8v (mkS a5 a6 a7 a8), u8v ((a9.length : Nat) : Int)]
def bdS (a0 a1 a2 a3 a4 : Int) (a5 a6 a7 a8 : Bool) (a9 : List (den rng)) (a10 : List (den (.int .u8))) : u8L := hdS a0 a1 a2 a3 a4 a5 a6 a7 a8 a9 a10 ++ rgsB a9 ++ [u8v ((a10.length : Nat) : Int)] ++ a10
def sgB (a0 a1 a2 a3 a4 : Int) (a5 a6 a7 a8 : Bool) (a9 : List (den rng)) (a10 : List (den (.int .u8))) (f t : Int) : u8L := cond (okS a0 a1 a2 a3 a4 a5 a6 a7 a8 a9 a10 && inB f 0 65535 && inB t 0 65535) (bdS a0 a1 a2 a3 a4 a5 a6 a7 a8 a9 a10 ++ by2 (sumV (by2 f ++ by2 t ++ bdS a0 a1 a2 a3 a4 a5 a6 a7 a8 a9 a10))) []
theorem by2_len (v : Int) : (by2 v).length = 2 := rfl
theorem rgsB_len : ∀ l : rgL, (rgsB l).length = 4 * l.length
  | [] => rfl
  | r :: l => by
    have e : (rgsB (r :: l)).length = (rgsB l).length + 4 := rfl
    rw [e, rgsB_len l, List.length_cons]
    omega
theorem BOk.app {x y : u8L} (hx : BOk x) (hy : BOk y) : BOk (x ++ y) := fun z hz => (List.mem_append.1 hz).elim (hx z) (hy z)
theorem BOk.nil : BOk [] := fun z hz => by cases hz
theorem BOk.cons {v : Int} {x : u8L} (hx : BOk x) : BOk (u8v v :: x) := fun z hz => by
  rcases List.mem_cons.1 hz with rfl | hz
  · have e : u8v v = v % 256 := u8M v
    rw [e]
    exact ⟨show (0 : Int) ≤ v % 256 by omega, show v % 256 ≤ (255 : Int) by omega⟩
  · exact hx z hz
theorem by2_BOk {v : Int} (h : 0 ≤ v ∧ v ≤ 65535) : BOk (by2 v) := fun z hz => by
  rcases List.mem_cons.1 hz with rfl | hz
  · exact ⟨show (0 : Int) ≤ v / 256 by omega, show v / 256 ≤ (255 : Int) by omega⟩
  · obtain rfl := List.mem_singleton.1 hz
    exact ⟨show (0 : Int) ≤ v % 256 by omega, show v % 256 ≤ (255 : Int) by omega⟩
theorem rgsB_BOk : ∀ l : rgL, l.all rgB = true → BOk (rgsB l)
  | [], _ => BOk.nil
  | r :: l, h => by
    simp only [List.all_cons, Bool.and_eq_true, rgB, inB, decide_eq_true_eq] at h
    exact ((by2_BOk h.1.1).app (by2_BOk h.1.2)).app (rgsB_BOk l h.2)
theorem okS_all {a0 a1 a2 a3 a4 : Int} {a5 a6 a7 a8 : Bool} {a9 : List (den rng)} {a10 : List (den (.int .u8))} (h : okS a0 a1 a2 a3 a4 a5 a6 a7 a8 a9 a10 = true) : (1 ≤ a0 ∧ a0 ≤ 255) ∧ (1 ≤ a1 ∧ a1 ≤ 255) ∧ (0 ≤ a2 ∧ a2 ≤ 65535) ∧ (0 ≤ a3 ∧ a3 ≤ 65535) ∧ (0 ≤ a4 ∧ a4 ≤ 255) ∧ a9.length ≤ 2 ∧ a10.length ≤ 12 ∧ a9.all rgB = true := by
  unfold okS inB at h
  simp only [Bool.and_eq_true, Bool.not_eq_true', decide_eq_false_iff_not, decide_eq_true_eq] at h
  obtain ⟨⟨⟨⟨⟨⟨⟨q0, q1⟩, q2⟩, q3⟩, q4⟩, q5⟩, q6⟩, q7, _⟩ := h
  exact ⟨q0, q1, q2, q3, q4, by omega, by omega, q7⟩
theorem bdS_ok (a0 a1 a2 a3 a4 : Int) (a5 a6 a7 a8 : Bool) (a9 : List (den rng)) (a10 : List (den (.int .u8))) (h : okS a0 a1 a2 a3 a4 a5 a6 a7 a8 a9 a10 = true) (hb : BOk a10) : BOk (bdS a0 a1 a2 a3 a4 a5 a6 a7 a8 a9 a10) ∧ (bdS a0 a1 a2 a3 a4 a5 a6 a7 a8 a9 a10).length ≤ 30 := by
  obtain ⟨_, _, q2, q3, _, q5, q6, q7⟩ := okS_all h
  refine ⟨?_, ?_⟩
  · exact ((((((BOk.nil.cons.cons).app (by2_BOk q2)).app (by2_BOk q3)).app BOk.nil.cons.cons.cons).app (rgsB_BOk a9 q7)).app BOk.nil.cons).app hb
  · have hh : (hdS a0 a1 a2 a3 a4 a5 a6 a7 a8 a9 a10).length = 9 := rfl
    have hr := rgsB_len a9
    unfold bdS
    rw [List.length_append, List.length_append, List.length_append, hh, hr]
    show 9 + 4 * a9.length + 1 + a10.length ≤ 30
    omega
theorem F96_eq (k : Nat) (a0 a1 a2 a3 a4 : Int) (a5 a6 a7 a8 : Bool) (a9 : List (den rng)) (a10 : List (den (.int .u8))) : F96 k a0 a1 a2 a3 a4 a5 a6 a7 a8 a9 a10 = some (mkS a5 a6 a7 a8) := by
  unfold F96 F96_T mkS
  cases a5 <;> cases a6 <;> cases a7 <;> cases a8 <;> rfl
theorem F59_eq (k : Nat) (b : Bool) (v : Int) : F59 k b v = some (if b then v else 0) := by
  unfold F59
  cases b <;> rfl
theorem F97_eq (q : Nat) (f t : Int) (b : u8L) (hf : 0 ≤ f ∧ f ≤ 65535) (ht : 0 ≤ t ∧ t ≤ 65535) (hb : BOk b) (hl : b.length ≤ 1000) (hk : 1048576 < q + 4) : F97 (q + 4) f t b = some (sumV (by2 f ++ by2 t ++ b)) := by
  unfold F97 F97_T
  refine (bs (F95_eq q f hf)).trans ?_
  refine (bs (F95_eq q t ht)).trans ?_
  refine (ct (by rfl)).trans ?_
  have h4 : (by2 f ++ by2 t).length = 4 := rfl
  refine (ct (decide_eq_true (by rw [h4]; omega))).trans ?_
  refine (bs (F100_eq (q + 4) (by2 f ++ by2 t ++ b) (((by2_BOk hf).app (by2_BOk ht)).app hb) (by rw [List.length_append, h4]; omega) hk)).trans rfl
theorem sumV_in {l : u8L} (hb : BOk l) : 0 ≤ sumV l ∧ sumV l ≤ 65535 := by
  have := smV_in l 0 hb (by omega)
  unfold sumV
  omega
theorem specB_l (q : Nat) (a0 a1 a2 a3 a4 : Int) (a5 a6 a7 a8 : Bool) (a9 : List (den rng)) (a10 : List (den (.int .u8))) (f t : Int) (ho : okS a0 a1 a2 a3 a4 a5 a6 a7 a8 a9 a10 = true) (hb : BOk a10) (hf : 0 ≤ f ∧ f ≤ 65535) (ht : 0 ≤ t ∧ t ≤ 65535) (hk : 1048576 < q + 4) : ∀ (n j : Nat) (m : u8L), j ≤ a9.length → a9.length - j < n → BOk m → m.length + 4 * (a9.length - j) ≤ 90 →
    F71_l0 (q + 4) a0 a1 a2 a3 a4 a5 a6 a7 a8 a9 a10 f t n (j : Int) m = some ((m ++ rgsB (a9.drop j) ++ [u8v ((a10.length : Nat) : Int)] ++ a10) ++ by2 (sumV (by2 f ++ by2 t ++ (m ++ rgsB (a9.drop j) ++ [u8v ((a10.length : Nat) : Int)] ++ a10))))
  | 0, j, m, _, h, _, _ => by omega
  | n + 1, j, m, hj, h, hm, hml => by
    obtain ⟨_, _, q2, q3, _, q5, q6, q7⟩ := okS_all ho
    rw [F71_l0]
    unfold F71_l0_T
    rcases Nat.lt_or_ge j a9.length with hlt | hge
    · have hr : rgB a9[j] = true := List.all_eq_true.1 q7 _ (List.getElem_mem hlt)
      simp only [Bool.and_eq_true, rgB, inB, decide_eq_true_eq] at hr
      have d1 : decide ((j : Int) < ((a9.length : Nat) : Int)) = true := decide_eq_true (by omega)
      have d0 : decide ((0 : Int) ≤ ((j : Nat) : Int)) = true := decide_eq_true (by omega)
      rw [atI_get a9 j hlt, up1 j (by omega)]
      have l1 : ∀ v : Int, (m ++ by2 v).length = m.length + 2 := fun v => by rw [List.length_append]; rfl
      refine (ct d1).trans ((ct d0).trans ((ct d1).trans ?_))
      refine (bs (F95_eq q a9[j].1 hr.1)).trans ?_
      refine (ct (decide_eq_true (by show (m.length + 2) * 1 ≤ _; omega))).trans ((ct d0).trans ((ct d1).trans ?_))
      refine (bs (F95_eq q a9[j].2 hr.2)).trans ?_
      refine (ct (decide_eq_true (by rw [l1]; show (m.length + 2 + 2) * 1 ≤ _; omega))).trans ?_
      have := specB_l q a0 a1 a2 a3 a4 a5 a6 a7 a8 a9 a10 f t ho hb hf ht hk n (j + 1) (m ++ by2 a9[j].1 ++ by2 a9[j].2) hlt (by omega) ((hm.app (by2_BOk hr.1)).app (by2_BOk hr.2)) (by rw [List.length_append, l1]; show m.length + 2 + 2 + 4 * (a9.length - (j + 1)) ≤ 90; omega)
      dsimp only
      rw [this, List.drop_eq_getElem_cons hlt]
      simp only [rgsB, List.append_assoc]
    · have : j = a9.length := by omega
      subst this
      rw [List.drop_length]
      refine (cf (decide_eq_false (by omega))).trans ?_
      have e0 : (m ++ rgsB [] ++ [u8v ((a10.length : Nat) : Int)] ++ a10) = (m ++ [IntKind.u8.wrap ((a10.length : Nat) : Int)]) ++ a10 := by simp [rgsB, u8v]
      rw [e0]
      have hl1 : (m ++ [IntKind.u8.wrap ((a10.length : Nat) : Int)]).length = m.length + 1 := by rw [List.length_append]; rfl
      have hl2 : ((m ++ [IntKind.u8.wrap ((a10.length : Nat) : Int)]) ++ a10).length = m.length + 1 + a10.length := by rw [List.length_append, hl1]
      have hB : BOk ((m ++ [IntKind.u8.wrap ((a10.length : Nat) : Int)]) ++ a10) := (hm.app (BOk.nil.cons (v := ((a10.length : Nat) : Int)))).app hb
      refine (ct (decide_eq_true (by show (m.length + 1) * 1 ≤ _; omega))).trans ?_
      refine (ct (decide_eq_true (by rw [hl1]; omega))).trans ?_
      refine (bs (F97_eq q f t _ hf ht hB (by rw [hl2]; omega) hk)).trans ?_
      refine (bs (F95_eq q _ (sumV_in (((by2_BOk hf).app (by2_BOk ht)).app hB)))).trans ?_
      exact (ct (decide_eq_true (by rw [hl2]; show (m.length + 1 + a10.length + 2) * 1 ≤ _; omega))).trans rfl
theorem F71_eq (q : Nat) (a0 a1 a2 a3 a4 : Int) (a5 a6 a7 a8 : Bool) (a9 : List (den rng)) (a10 : List (den (.int .u8))) (f t : Int) (h9 : a9.length ≤ 1048576) (hb : BOk a10) (hk : 1048576 < q + 4) : F71 (q + 4) a0 a1 a2 a3 a4 a5 a6 a7 a8 a9 a10 f t = some (sgB a0 a1 a2 a3 a4 a5 a6 a7 a8 a9 a10 f t) := by
  unfold F71 F71_T sgB
  refine (bs (F50_eq (q + 4) a0 a1 a2 a3 a4 a5 a6 a7 a8 a9 a10 h9 (by omega))).trans ?_
  cases ho : okS a0 a1 a2 a3 a4 a5 a6 a7 a8 a9 a10 with
  | false => rfl
  | true =>
    refine (cf rfl).trans ?_
    refine (bs (F51_eq (q + 4) f 0 65535)).trans ?_
    cases hf : inB f 0 65535 with
    | false => rfl
    | true =>
      refine (cf rfl).trans ?_
      refine (bs (F51_eq (q + 4) t 0 65535)).trans ?_
      cases ht : inB t 0 65535 with
      | false => rfl
      | true =>
        have hf : 0 ≤ f ∧ f ≤ 65535 := by simpa [inB] using hf
        have ht : 0 ≤ t ∧ t ≤ 65535 := by simpa [inB] using ht
        obtain ⟨_, _, q2, q3, _, q5, q6, q7⟩ := okS_all ho
        refine (cf rfl).trans ?_
        refine (bs (F95_eq q a2 q2)).trans ?_
        refine (ct rfl).trans ?_
        refine (bs (F95_eq q a3 q3)).trans ?_
        refine (ct rfl).trans ?_
        refine (bs (F96_eq (q + 4) a0 a1 a2 a3 a4 a5 a6 a7 a8 a9 a10)).trans ?_
        refine (ct rfl).trans ?_
        have hh : (hdS a0 a1 a2 a3 a4 a5 a6 a7 a8 a9 a10).length = 9 := rfl
        have hB : BOk (hdS a0 a1 a2 a3 a4 a5 a6 a7 a8 a9 a10) := (((BOk.nil.cons.cons).app (by2_BOk q2)).app (by2_BOk q3)).app BOk.nil.cons.cons.cons
        have := specB_l q a0 a1 a2 a3 a4 a5 a6 a7 a8 a9 a10 f t ho hb hf ht hk (q + 4) 0 (hdS a0 a1 a2 a3 a4 a5 a6 a7 a8 a9 a10) (Nat.zero_le _) (by omega) hB (by rw [hh]; omega)
        rw [List.drop_zero] at this
        exact this
theorem F104_eq (q : Nat) (f t : Int) (hf : 0 ≤ f ∧ f ≤ 65535) (ht : 0 ≤ t ∧ t ≤ 65535) : F104 (q + 4) f t = some (by2 f ++ by2 t) := by
  unfold F104
  refine (bs (F91_eq q f hf)).trans ?_
  refine (bs (F91_eq q t ht)).trans ?_
  have := cat_eq (q + 4) [by2 f, by2 t] (show 2 < q + 4 by omega) (by show 2 ≤ 1048576; omega) (by show 4 ≤ 4194304; omega)
  refine (bs this).trans ?_
  simp
theorem body_l (q : Nat) (a0 a1 a2 a3 a4 : Int) (a5 a6 a7 a8 : Bool) (a9 : List (den rng)) (a10 : List (den (.int .u8))) (ho : okS a0 a1 a2 a3 a4 a5 a6 a7 a8 a9 a10 = true) (hq : 10 < q) : ∀ (n j : Nat) (m : u8L), j ≤ a9.length → a9.length - j < n → m.length + 4 * (a9.length - j) ≤ 90 →
    F102_l0 (q + 4) a0 a1 a2 a3 a4 a5 a6 a7 a8 a9 a10 n (j : Int) m = some (m ++ rgsB (a9.drop j) ++ [u8v ((a10.length : Nat) : Int)] ++ a10)
  | 0, j, m, _, h, _ => by omega
  | n + 1, j, m, hj, h, hml => by
    obtain ⟨_, _, q2, q3, _, q5, q6, q7⟩ := okS_all ho
    rw [F102_l0]
    unfold F102_l0_T
    rcases Nat.lt_or_ge j a9.length with hlt | hge
    · have hr : rgB a9[j] = true := List.all_eq_true.1 q7 _ (List.getElem_mem hlt)
      simp only [Bool.and_eq_true, rgB, inB, decide_eq_true_eq] at hr
      have d1 : decide ((j : Int) < ((a9.length : Nat) : Int)) = true := decide_eq_true (by omega)
      have d0 : decide ((0 : Int) ≤ ((j : Nat) : Int)) = true := decide_eq_true (by omega)
      rw [atI_get a9 j hlt, up1 j (by omega)]
      have fl : [m, by2 a9[j].1, by2 a9[j].2].flatten = m ++ by2 a9[j].1 ++ by2 a9[j].2 := by simp
      have fll : (m ++ by2 a9[j].1 ++ by2 a9[j].2).length = m.length + 4 := by rw [List.length_append, List.length_append]; rfl
      refine (ct d1).trans ((ct d0).trans ((ct d1).trans ?_))
      refine (bs (F91_eq q a9[j].1 hr.1)).trans ?_
      refine (bs (F91_eq q a9[j].2 hr.2)).trans ?_
      have := cat_eq (q + 4) [m, by2 a9[j].1, by2 a9[j].2] (show 3 < q + 4 by omega) (by show 3 ≤ 1048576; omega) (by rw [fl, fll]; omega)
      rw [fl] at this
      refine (bs this).trans ?_
      have := body_l q a0 a1 a2 a3 a4 a5 a6 a7 a8 a9 a10 ho hq n (j + 1) (m ++ by2 a9[j].1 ++ by2 a9[j].2) hlt (by omega) (by rw [fll]; omega)
      dsimp only
      rw [this, List.drop_eq_getElem_cons hlt]
      simp only [rgsB, List.append_assoc]
    · have : j = a9.length := by omega
      subst this
      rw [List.drop_length]
      refine (cf (decide_eq_false (by omega))).trans ?_
      have fl : [m, [IntKind.u8.wrap ((a10.length : Nat) : Int)], a10].flatten = m ++ rgsB [] ++ [u8v ((a10.length : Nat) : Int)] ++ a10 := by simp [rgsB, u8v]
      have fll : (m ++ rgsB [] ++ [u8v ((a10.length : Nat) : Int)] ++ a10).length = m.length + 1 + a10.length := by rw [List.length_append, List.length_append, List.length_append]; rfl
      have := cat_eq (q + 4) [m, [IntKind.u8.wrap ((a10.length : Nat) : Int)], a10] (show 3 < q + 4 by omega) (by show 3 ≤ 1048576; omega) (by rw [fl, fll]; omega)
      rw [fl] at this
      exact (bs this).trans rfl
theorem F102_eq (q : Nat) (a0 a1 a2 a3 a4 : Int) (a5 a6 a7 a8 : Bool) (a9 : List (den rng)) (a10 : List (den (.int .u8))) (ho : okS a0 a1 a2 a3 a4 a5 a6 a7 a8 a9 a10 = true) (hq : 10 < q) : F102 (q + 4) a0 a1 a2 a3 a4 a5 a6 a7 a8 a9 a10 = some (bdS a0 a1 a2 a3 a4 a5 a6 a7 a8 a9 a10) := by
  obtain ⟨_, _, q2, q3, _, q5, q6, q7⟩ := okS_all ho
  unfold F102 F102_T
  simp only [F59_eq, Option.bind_some]
  refine (bs (F91_eq q a2 q2)).trans ?_
  refine (bs (F91_eq q a3 q3)).trans ?_
  have hm : IntKind.i64.wrap ((IntKind.i64.wrap ((IntKind.i64.wrap ((if a5 = true then 1 else 0) + (if a6 = true then 2 else 0))) + (if a7 = true then 4 else 0))) + (if a8 = true then 8 else 0)) = mkS a5 a6 a7 a8 := by
    unfold mkS
    cases a5 <;> cases a6 <;> cases a7 <;> cases a8 <;> decide
  rw [hm]
  have := cat_eq (q + 4) [[IntKind.u8.wrap a0, IntKind.u8.wrap a1], by2 a2, by2 a3, [IntKind.u8.wrap a4, IntKind.u8.wrap (mkS a5 a6 a7 a8), IntKind.u8.wrap ((a9.length : Nat) : Int)]] (show 4 < q + 4 by omega) (by show 4 ≤ 1048576; omega) (by show 9 ≤ 4194304; omega)
  refine (bs this).trans ?_
  have hh : (hdS a0 a1 a2 a3 a4 a5 a6 a7 a8 a9 a10).length = 9 := rfl
  have e : [[IntKind.u8.wrap a0, IntKind.u8.wrap a1], by2 a2, by2 a3, [IntKind.u8.wrap a4, IntKind.u8.wrap (mkS a5 a6 a7 a8), IntKind.u8.wrap ((a9.length : Nat) : Int)]].flatten = hdS a0 a1 a2 a3 a4 a5 a6 a7 a8 a9 a10 := rfl
  rw [e]
  have := body_l q a0 a1 a2 a3 a4 a5 a6 a7 a8 a9 a10 ho hq (q + 4) 0 (hdS a0 a1 a2 a3 a4 a5 a6 a7 a8 a9 a10) (Nat.zero_le _) (by omega) (by rw [hh]; omega)
  rw [List.drop_zero] at this
  exact this
theorem F74_eq (q : Nat) (a0 a1 a2 a3 a4 : Int) (a5 a6 a7 a8 : Bool) (a9 : List (den rng)) (a10 : List (den (.int .u8))) (f t : Int) (h9 : a9.length ≤ 1048576) (hb : BOk a10) (hk : 1048576 < q + 4) : F74 (q + 4) a0 a1 a2 a3 a4 a5 a6 a7 a8 a9 a10 f t = some (sgB a0 a1 a2 a3 a4 a5 a6 a7 a8 a9 a10 f t) := by
  unfold F74 F74_T sgB
  refine (bs (F14_eq (q + 4) a0 a1 a2 a3 a4 a5 a6 a7 a8 a9 a10 h9 (by omega))).trans ?_
  cases ho : okS a0 a1 a2 a3 a4 a5 a6 a7 a8 a9 a10 with
  | false => rfl
  | true =>
    refine (cf rfl).trans ?_
    refine (bs (F55_eq (q + 4) f)).trans ?_
    cases hf : inB f 0 65535 with
    | false => rfl
    | true =>
      refine (cf rfl).trans ?_
      refine (bs (F55_eq (q + 4) t)).trans ?_
      cases ht : inB t 0 65535 with
      | false => rfl
      | true =>
        have hf : 0 ≤ f ∧ f ≤ 65535 := by simpa [inB] using hf
        have ht : 0 ≤ t ∧ t ≤ 65535 := by simpa [inB] using ht
        obtain ⟨hB, hL⟩ := bdS_ok a0 a1 a2 a3 a4 a5 a6 a7 a8 a9 a10 ho hb
        refine (cf rfl).trans ?_
        refine (bs (F102_eq q a0 a1 a2 a3 a4 a5 a6 a7 a8 a9 a10 ho (by omega))).trans ?_
        refine (bs (F104_eq q f t hf ht)).trans ?_
        have h4 : (by2 f ++ by2 t).length = 4 := rfl
        have f1 : [by2 f ++ by2 t, bdS a0 a1 a2 a3 a4 a5 a6 a7 a8 a9 a10].flatten = by2 f ++ by2 t ++ bdS a0 a1 a2 a3 a4 a5 a6 a7 a8 a9 a10 := by simp
        have l1 : (by2 f ++ by2 t ++ bdS a0 a1 a2 a3 a4 a5 a6 a7 a8 a9 a10).length = 4 + (bdS a0 a1 a2 a3 a4 a5 a6 a7 a8 a9 a10).length := by rw [List.length_append, h4]
        have B1 : BOk (by2 f ++ by2 t ++ bdS a0 a1 a2 a3 a4 a5 a6 a7 a8 a9 a10) := ((by2_BOk hf).app (by2_BOk ht)).app hB
        have c1 := cat_eq (q + 4) [by2 f ++ by2 t, bdS a0 a1 a2 a3 a4 a5 a6 a7 a8 a9 a10] (show 2 < q + 4 by omega) (by show 2 ≤ 1048576; omega) (by rw [f1, l1]; omega)
        rw [f1] at c1
        refine (bs c1).trans ?_
        refine (bs (F103_eq q _ B1 (by rw [l1]; omega))).trans ?_
        refine (bs (F91_eq q _ (sumV_in B1))).trans ?_
        have f2 : ∀ v, [bdS a0 a1 a2 a3 a4 a5 a6 a7 a8 a9 a10, by2 v].flatten = bdS a0 a1 a2 a3 a4 a5 a6 a7 a8 a9 a10 ++ by2 v := fun v => by simp
        have l2 : ∀ v, (bdS a0 a1 a2 a3 a4 a5 a6 a7 a8 a9 a10 ++ by2 v).length = (bdS a0 a1 a2 a3 a4 a5 a6 a7 a8 a9 a10).length + 2 := fun v => by rw [List.length_append]; rfl
        have c2 := cat_eq (q + 4) [bdS a0 a1 a2 a3 a4 a5 a6 a7 a8 a9 a10, by2 (sumV (by2 f ++ by2 t ++ bdS a0 a1 a2 a3 a4 a5 a6 a7 a8 a9 a10))] (show 2 < q + 4 by omega) (by show 2 ≤ 1048576; omega) (by rw [f2, l2]; omega)
        rw [f2] at c2
        exact (bs c2).trans rfl
def pkOk (p0 p1 p2 p3 p4 p5 : Int) (p6 p7 : Bool) (p8 : u8L) : Bool :=
  inB p0 0 65535 && inB p1 0 65535 && inB p2 0 255 && inB p3 0 255 && inB p4 0 255 && inB p5 0 255 && decide (((p8.length : Nat) : Int) ≤ 48) && (!p6 || decide (((p8.length : Nat) : Int) > 0)) && (!p7 || (p5 == 0 && !p6))
theorem F98_eq (k : Nat) (p0 p1 p2 p3 p4 p5 : Int) (p6 p7 : Bool) (p8 : u8L) : F98 k p0 p1 p2 p3 p4 p5 p6 p7 p8 = some (pkOk p0 p1 p2 p3 p4 p5 p6 p7 p8) := by
  simp only [F98, F98_T, F51_eq, Option.bind_some, pkOk]
  cases inB p0 0 65535 <;> try rfl
  cases inB p1 0 65535 <;> try rfl
  cases inB p2 0 255 <;> try rfl
  cases inB p3 0 255 <;> try rfl
  cases inB p4 0 255 <;> try rfl
  cases inB p5 0 255 <;> try rfl
  cases decide (((p8.length : Nat) : Int) ≤ 48) <;> try rfl
  cases p6 <;> cases p7 <;> cases decide (((p8.length : Nat) : Int) > 0) <;> cases (p5 == 0) <;> rfl
theorem F105_eq (k : Nat) (p0 p1 p2 p3 p4 p5 : Int) (p6 p7 : Bool) (p8 : u8L) : F105 k p0 p1 p2 p3 p4 p5 p6 p7 p8 = some (pkOk p0 p1 p2 p3 p4 p5 p6 p7 p8) := by
  simp only [F105, F105_T, F55_eq, F45_eq, Option.bind_some, pkOk]
  cases inB p0 0 65535 <;> try rfl
  cases inB p1 0 65535 <;> try rfl
  cases inB p2 0 255 <;> try rfl
  cases inB p3 0 255 <;> try rfl
  cases inB p4 0 255 <;> try rfl
  cases inB p5 0 255 <;> try rfl
  cases decide (((p8.length : Nat) : Int) ≤ 48) <;> try rfl
  cases p6 <;> cases p7 <;> cases decide (((p8.length : Nat) : Int) > 0) <;> cases (p5 == 0) <;> rfl
def flP (p6 p7 : Bool) : Int := (if p6 then 1 else 0) + (if p7 then 2 else 0)
def hdP (p0 p1 p2 p3 p4 p5 : Int) (p6 p7 : Bool) (p8 : u8L) : u8L := by2 p0 ++ by2 p1 ++ [u8v p2, u8v p3, u8v p4, u8v p5, u8v (flP p6 p7), u8v ((p8.length : Nat) : Int)]
def pkB (p0 p1 p2 p3 p4 p5 : Int) (p6 p7 : Bool) (p8 : u8L) : u8L := cond (pkOk p0 p1 p2 p3 p4 p5 p6 p7 p8) (hdP p0 p1 p2 p3 p4 p5 p6 p7 p8 ++ by2 (sumV (hdP p0 p1 p2 p3 p4 p5 p6 p7 p8)) ++ p8) []
theorem hdP_ok {p0 p1 : Int} (p2 p3 p4 p5 : Int) (p6 p7 : Bool) (p8 : u8L) (h0 : 0 ≤ p0 ∧ p0 ≤ 65535) (h1 : 0 ≤ p1 ∧ p1 ≤ 65535) : BOk (hdP p0 p1 p2 p3 p4 p5 p6 p7 p8) := ((by2_BOk h0).app (by2_BOk h1)).app BOk.nil.cons.cons.cons.cons.cons.cons
theorem F72_eq (q : Nat) (p0 p1 p2 p3 p4 p5 : Int) (p6 p7 : Bool) (p8 : u8L) (hk : 1048576 < q + 4) : F72 (q + 4) p0 p1 p2 p3 p4 p5 p6 p7 p8 = some (pkB p0 p1 p2 p3 p4 p5 p6 p7 p8) := by
  unfold F72 F72_T F99 F99_T pkB
  refine (bs (F98_eq (q + 4) p0 p1 p2 p3 p4 p5 p6 p7 p8)).trans ?_
  cases ho : pkOk p0 p1 p2 p3 p4 p5 p6 p7 p8 with
  | false => rfl
  | true =>
    have hb : (0 ≤ p0 ∧ p0 ≤ 65535) ∧ (0 ≤ p1 ∧ p1 ≤ 65535) ∧ p8.length ≤ 48 := by
      simp only [pkOk, inB, Bool.and_eq_true, decide_eq_true_eq] at ho
      omega
    obtain ⟨h0, h1, h8⟩ := hb
    have hB := hdP_ok p2 p3 p4 p5 p6 p7 p8 h0 h1
    have hL : (hdP p0 p1 p2 p3 p4 p5 p6 p7 p8).length = 10 := rfl
    have fl : F115 (q + 4) p0 p1 p2 p3 p4 p5 p6 p7 p8 = some (flP p6 p7) := by unfold F115 flP; cases p6 <;> cases p7 <;> rfl
    refine (cf rfl).trans ?_
    have hd : ((F95 (q + 4) p0 2).bind fun b1 => (F95 (q + 4) p1 2).bind fun b2 => cond (decide ((b1.length + b2.length) * 1 ≤ 140737488355328)) ((F115 (q + 4) p0 p1 p2 p3 p4 p5 p6 p7 p8).bind fun b3 =>
        cond (decide (((b1 ++ b2).length + [IntKind.u8.wrap p2, IntKind.u8.wrap p3, IntKind.u8.wrap p4, IntKind.u8.wrap p5, IntKind.u8.wrap b3, IntKind.u8.wrap ((p8.length : Nat) : Int)].length) * 1 ≤ 140737488355328))
          (some ((b1 ++ b2) ++ [IntKind.u8.wrap p2, IntKind.u8.wrap p3, IntKind.u8.wrap p4, IntKind.u8.wrap p5, IntKind.u8.wrap b3, IntKind.u8.wrap ((p8.length : Nat) : Int)])) none) none) = some (hdP p0 p1 p2 p3 p4 p5 p6 p7 p8) := by
      refine (bs (F95_eq q p0 h0)).trans ?_
      refine (bs (F95_eq q p1 h1)).trans ?_
      refine (ct rfl).trans ?_
      refine (bs fl).trans ?_
      exact (ct rfl).trans rfl
    refine (bs hd).trans ?_
    refine (bs (F100_eq (q + 4) _ hB (by rw [hL]; omega) hk)).trans ?_
    refine (bs (F95_eq q _ (sumV_in hB))).trans ?_
    refine (ct (decide_eq_true (by rw [hL]; show (10 + 2) * 1 ≤ 140737488355328; omega))).trans ?_
    have h12 : ∀ v, (hdP p0 p1 p2 p3 p4 p5 p6 p7 p8 ++ by2 v).length = 12 := fun v => rfl
    exact (ct (decide_eq_true (by rw [h12]; omega))).trans rfl
theorem F75_eq (q : Nat) (p0 p1 p2 p3 p4 p5 : Int) (p6 p7 : Bool) (p8 : u8L) (hq : 10 < q) : F75 (q + 4) p0 p1 p2 p3 p4 p5 p6 p7 p8 = some (pkB p0 p1 p2 p3 p4 p5 p6 p7 p8) := by
  unfold F75 F75_T pkB
  refine (bs (F105_eq (q + 4) p0 p1 p2 p3 p4 p5 p6 p7 p8)).trans ?_
  cases ho : pkOk p0 p1 p2 p3 p4 p5 p6 p7 p8 with
  | false => rfl
  | true =>
    have hb : (0 ≤ p0 ∧ p0 ≤ 65535) ∧ (0 ≤ p1 ∧ p1 ≤ 65535) ∧ p8.length ≤ 48 := by
      simp only [pkOk, inB, Bool.and_eq_true, decide_eq_true_eq] at ho
      omega
    obtain ⟨h0, h1, h8⟩ := hb
    have hB := hdP_ok p2 p3 p4 p5 p6 p7 p8 h0 h1
    have hL : (hdP p0 p1 p2 p3 p4 p5 p6 p7 p8).length = 10 := rfl
    refine (cf rfl).trans ?_
    have pk : F106 (q + 4) p0 p1 p2 p3 p4 p5 p6 p7 p8 = some (hdP p0 p1 p2 p3 p4 p5 p6 p7 p8 ++ by2 (sumV (hdP p0 p1 p2 p3 p4 p5 p6 p7 p8)) ++ p8) := by
      unfold F106 F106_T
      refine (bs (F91_eq q p0 h0)).trans ?_
      refine (bs (F91_eq q p1 h1)).trans ?_
      refine (bs (F59_eq (q + 4) p6 1)).trans ?_
      refine (bs (F59_eq (q + 4) p7 2)).trans ?_
      have hm : IntKind.i64.wrap ((if p6 = true then 1 else 0) + (if p7 = true then 2 else 0)) = flP p6 p7 := by unfold flP; cases p6 <;> cases p7 <;> decide
      rw [hm]
      have c1 := cat_eq (q + 4) [by2 p0, by2 p1, [IntKind.u8.wrap p2, IntKind.u8.wrap p3, IntKind.u8.wrap p4, IntKind.u8.wrap p5, IntKind.u8.wrap (flP p6 p7), IntKind.u8.wrap ((p8.length : Nat) : Int)]] (show 3 < q + 4 by omega) (by show 3 ≤ 1048576; omega) (by show 10 ≤ 4194304; omega)
      have e1 : [by2 p0, by2 p1, [IntKind.u8.wrap p2, IntKind.u8.wrap p3, IntKind.u8.wrap p4, IntKind.u8.wrap p5, IntKind.u8.wrap (flP p6 p7), IntKind.u8.wrap ((p8.length : Nat) : Int)]].flatten = hdP p0 p1 p2 p3 p4 p5 p6 p7 p8 := rfl
      rw [e1] at c1
      refine (bs c1).trans ?_
      refine (bs (F103_eq q _ hB (by rw [hL]; omega))).trans ?_
      refine (bs (F91_eq q _ (sumV_in hB))).trans ?_
      have f2 : ∀ v, [hdP p0 p1 p2 p3 p4 p5 p6 p7 p8, by2 v, p8].flatten = hdP p0 p1 p2 p3 p4 p5 p6 p7 p8 ++ by2 v ++ p8 := fun v => by simp
      have h12 : ∀ v, (hdP p0 p1 p2 p3 p4 p5 p6 p7 p8 ++ by2 v).length = 12 := fun v => rfl
      have c2 := cat_eq (q + 4) [hdP p0 p1 p2 p3 p4 p5 p6 p7 p8, by2 (sumV (hdP p0 p1 p2 p3 p4 p5 p6 p7 p8)), p8] (show 3 < q + 4 by omega) (by show 3 ≤ 1048576; omega) (by rw [f2, List.length_append, h12]; omega)
      rw [f2] at c2
      exact (bs c2).trans rfl
    exact (bs pk).trans rfl
end Go.Proofs.Ytnagpaikjikhaaa.Gn
end

section
namespace Go.Proofs.Ytnagpaikjikhaaa.Gn
open Go.Rf Go.IntWalk
set_option linter.unusedVariables false
set_option linter.unusedSimpArgs false
def frOk (f0 f1 f2 : Int) (f3 : u8L) : Bool := inB f0 0 255 && inB f1 0 254 && inB f2 0 255 && decide (((f3.length : Nat) : Int) ≤ 64)
theorem F101_eq (k : Nat) (f0 f1 f2 : Int) (f3 : u8L) : F101 k f0 f1 f2 f3 = some (frOk f0 f1 f2 f3) := by
  simp only [F101, F101_T, F51_eq, Option.bind_some, frOk]
  cases inB f0 0 255 <;> try rfl
  cases inB f1 0 254 <;> try rfl
  cases inB f2 0 255 <;> rfl
theorem F107_eq (k : Nat) (f0 f1 f2 : Int) (f3 : u8L) : F107 k f0 f1 f2 f3 = some (frOk f0 f1 f2 f3) := by
  simp only [F107, F107_T, F45_eq, Option.bind_some, frOk]
  cases inB f0 0 255 <;> try rfl
  cases inB f1 0 254 <;> try rfl
  cases inB f2 0 255 <;> rfl
def hdF (f0 f1 f2 : Int) (f3 : u8L) : u8L := [u8v f0, u8v f1, u8v f2, u8v ((f3.length : Nat) : Int)] ++ f3
def frB (f0 f1 f2 : Int) (f3 : u8L) : u8L := cond (frOk f0 f1 f2 f3) (hdF f0 f1 f2 f3 ++ by2 (sumV (hdF f0 f1 f2 f3))) []
theorem hdF_ok (f0 f1 f2 : Int) {f3 : u8L} (hb : BOk f3) : BOk (hdF f0 f1 f2 f3) := (BOk.nil.cons.cons.cons.cons).app hb
theorem hdF_len (f0 f1 f2 : Int) (f3 : u8L) : (hdF f0 f1 f2 f3).length = f3.length + 4 := by unfold hdF; rw [List.length_append]; exact Nat.add_comm _ _
theorem F73_eq (q : Nat) (f0 f1 f2 : Int) (f3 : u8L) (hb : BOk f3) (hk : 1048576 < q + 4) : F73 (q + 4) f0 f1 f2 f3 = some (frB f0 f1 f2 f3) := by
  unfold F73 F73_T frB
  refine (bs (F101_eq (q + 4) f0 f1 f2 f3)).trans ?_
  cases ho : frOk f0 f1 f2 f3 with
  | false => rfl
  | true =>
    have h3 : f3.length ≤ 64 := by
      simp only [frOk, Bool.and_eq_true, decide_eq_true_eq] at ho
      omega
    have hB := hdF_ok f0 f1 f2 hb
    have hL := hdF_len f0 f1 f2 f3
    have e : [IntKind.u8.wrap f0, IntKind.u8.wrap f1, IntKind.u8.wrap f2, IntKind.u8.wrap ((f3.length : Nat) : Int)] ++ f3 = hdF f0 f1 f2 f3 := rfl
    refine (cf rfl).trans ?_
    refine (ct (decide_eq_true (by show (4 + f3.length) * 1 ≤ 140737488355328; omega))).trans ?_
    rw [e]
    refine (bs (F100_eq (q + 4) _ hB (by rw [hL]; omega) hk)).trans ?_
    refine (bs (F95_eq q _ (sumV_in hB))).trans ?_
    exact (ct (decide_eq_true (by rw [hL, by2_len]; omega))).trans rfl
theorem F76_eq (q : Nat) (f0 f1 f2 : Int) (f3 : u8L) (hb : BOk f3) (hq : 10 < q) : F76 (q + 4) f0 f1 f2 f3 = some (frB f0 f1 f2 f3) := by
  unfold F76 F76_T frB
  refine (bs (F107_eq (q + 4) f0 f1 f2 f3)).trans ?_
  cases ho : frOk f0 f1 f2 f3 with
  | false => rfl
  | true =>
    have h3 : f3.length ≤ 64 := by
      simp only [frOk, Bool.and_eq_true, decide_eq_true_eq] at ho
      omega
    have hB := hdF_ok f0 f1 f2 hb
    have hL := hdF_len f0 f1 f2 f3
    have e : [IntKind.u8.wrap f0, IntKind.u8.wrap f1, IntKind.u8.wrap f2, IntKind.u8.wrap ((f3.length : Nat) : Int)] ++ f3 = hdF f0 f1 f2 f3 := rfl
    refine (cf rfl).trans ?_
    refine (ct (decide_eq_true (by show (4 + f3.length) * 1 ≤ 140737488355328; omega))).trans ?_
    rw [e]
    refine (bs (F103_eq q _ hB (by rw [hL]; omega))).trans ?_
    refine (bs (F91_eq q _ (sumV_in hB))).trans ?_
    have fl : [hdF f0 f1 f2 f3, by2 (sumV (hdF f0 f1 f2 f3))].flatten = hdF f0 f1 f2 f3 ++ by2 (sumV (hdF f0 f1 f2 f3)) := by simp
    have c1 := cat_eq (q + 4) [hdF f0 f1 f2 f3, by2 (sumV (hdF f0 f1 f2 f3))] (show 2 < q + 4 by omega) (by show 2 ≤ 1048576; omega) (by rw [fl, List.length_append, hL, by2_len]; omega)
    rw [fl] at c1
    exact (bs c1).trans rfl
theorem sgB_ok (a0 a1 a2 a3 a4 : Int) (a5 a6 a7 a8 : Bool) (a9 : List (den rng)) (a10 : List (den (.int .u8))) (f t : Int) (hb : BOk a10) : BOk (sgB a0 a1 a2 a3 a4 a5 a6 a7 a8 a9 a10 f t) ∧ (sgB a0 a1 a2 a3 a4 a5 a6 a7 a8 a9 a10 f t).length ≤ 32 := by
  unfold sgB
  cases ho : okS a0 a1 a2 a3 a4 a5 a6 a7 a8 a9 a10 with
  | false => exact ⟨BOk.nil, by simp⟩
  | true =>
    cases hf : inB f 0 65535 with
    | false => exact ⟨BOk.nil, by simp⟩
    | true =>
      cases ht : inB t 0 65535 with
      | false => exact ⟨BOk.nil, by simp⟩
      | true =>
        have hf : 0 ≤ f ∧ f ≤ 65535 := by simpa [inB] using hf
        have ht : 0 ≤ t ∧ t ≤ 65535 := by simpa [inB] using ht
        obtain ⟨hB, hL⟩ := bdS_ok a0 a1 a2 a3 a4 a5 a6 a7 a8 a9 a10 ho hb
        have B1 : BOk (by2 f ++ by2 t ++ bdS a0 a1 a2 a3 a4 a5 a6 a7 a8 a9 a10) := ((by2_BOk hf).app (by2_BOk ht)).app hB
        refine ⟨hB.app (by2_BOk (sumV_in B1)), ?_⟩
        show (bdS a0 a1 a2 a3 a4 a5 a6 a7 a8 a9 a10 ++ by2 _).length ≤ 32
        rw [List.length_append, by2_len]
        omega
theorem pkB_ok (p0 p1 p2 p3 p4 p5 : Int) (p6 p7 : Bool) {p8 : u8L} (hb : BOk p8) : BOk (pkB p0 p1 p2 p3 p4 p5 p6 p7 p8) ∧ (pkB p0 p1 p2 p3 p4 p5 p6 p7 p8).length ≤ 60 := by
  unfold pkB
  cases ho : pkOk p0 p1 p2 p3 p4 p5 p6 p7 p8 with
  | false => exact ⟨BOk.nil, by simp⟩
  | true =>
    have h : (0 ≤ p0 ∧ p0 ≤ 65535) ∧ (0 ≤ p1 ∧ p1 ≤ 65535) ∧ p8.length ≤ 48 := by
      simp only [pkOk, inB, Bool.and_eq_true, decide_eq_true_eq] at ho
      omega
    have hB := hdP_ok p2 p3 p4 p5 p6 p7 p8 h.1 h.2.1
    have hL : (hdP p0 p1 p2 p3 p4 p5 p6 p7 p8).length = 10 := rfl
    refine ⟨(hB.app (by2_BOk (sumV_in hB))).app hb, ?_⟩
    show (hdP p0 p1 p2 p3 p4 p5 p6 p7 p8 ++ by2 _ ++ p8).length ≤ 60
    rw [List.length_append, List.length_append, by2_len, hL]
    omega
theorem frB_ok (f0 f1 f2 : Int) {f3 : u8L} (hb : BOk f3) : BOk (frB f0 f1 f2 f3) ∧ (frB f0 f1 f2 f3).length ≤ 70 := by
  unfold frB
  cases ho : frOk f0 f1 f2 f3 with
  | false => exact ⟨BOk.nil, by simp⟩
  | true =>
    have h3 : f3.length ≤ 64 := by
      simp only [frOk, Bool.and_eq_true, decide_eq_true_eq] at ho
      omega
    have hB := hdF_ok f0 f1 f2 hb
    refine ⟨hB.app (by2_BOk (sumV_in hB)), ?_⟩
    show (hdF f0 f1 f2 f3 ++ by2 _).length ≤ 70
    rw [List.length_append, by2_len, hdF_len]
    omega
def wrB (a0 a1 a2 a3 a4 : Int) (a5 a6 a7 a8 : Bool) (a9 : List (den rng)) (a10 : List (den (.int .u8))) (f t l o : Int) : u8L := cond (((sgB a0 a1 a2 a3 a4 a5 a6 a7 a8 a9 a10 f t).length : Int) == 0) [] (frB o l 8 (pkB f t 6 64 0 0 false false (sgB a0 a1 a2 a3 a4 a5 a6 a7 a8 a9 a10 f t)))
theorem wrB_ok (a0 a1 a2 a3 a4 : Int) (a5 a6 a7 a8 : Bool) (a9 : List (den rng)) (a10 : List (den (.int .u8))) (f t l o : Int) (hb : BOk a10) : BOk (wrB a0 a1 a2 a3 a4 a5 a6 a7 a8 a9 a10 f t l o) ∧ (wrB a0 a1 a2 a3 a4 a5 a6 a7 a8 a9 a10 f t l o).length ≤ 70 := by
  unfold wrB
  cases (((sgB a0 a1 a2 a3 a4 a5 a6 a7 a8 a9 a10 f t).length : Int) == 0) with
  | true => exact ⟨BOk.nil, by simp⟩
  | false => exact frB_ok _ _ _ (pkB_ok _ _ _ _ _ _ _ _ (sgB_ok a0 a1 a2 a3 a4 a5 a6 a7 a8 a9 a10 f t hb).1).1
theorem F29_eq (q : Nat) (a0 a1 a2 a3 a4 : Int) (a5 a6 a7 a8 : Bool) (a9 : List (den rng)) (a10 : List (den (.int .u8))) (f t l o : Int) (h9 : a9.length ≤ 1048576) (hb : BOk a10) (hk : 1048576 < q + 4) : F29 (q + 4) a0 a1 a2 a3 a4 a5 a6 a7 a8 a9 a10 f t l o = some (wrB a0 a1 a2 a3 a4 a5 a6 a7 a8 a9 a10 f t l o) := by
  unfold F29 F29_T wrB
  refine (bs (F71_eq q a0 a1 a2 a3 a4 a5 a6 a7 a8 a9 a10 f t h9 hb hk)).trans ?_
  have hs := (sgB_ok a0 a1 a2 a3 a4 a5 a6 a7 a8 a9 a10 f t hb).1
  cases (((sgB a0 a1 a2 a3 a4 a5 a6 a7 a8 a9 a10 f t).length : Int) == 0) with
  | true => rfl
  | false =>
    refine (cf rfl).trans ?_
    refine (bs (F72_eq q f t 6 64 0 0 false false _ hk)).trans ?_
    exact (bs (F73_eq q o l 8 _ (pkB_ok _ _ _ _ _ _ _ _ hs).1 hk)).trans rfl
theorem F30_eq (q : Nat) (a0 a1 a2 a3 a4 : Int) (a5 a6 a7 a8 : Bool) (a9 : List (den rng)) (a10 : List (den (.int .u8))) (f t l o : Int) (h9 : a9.length ≤ 1048576) (hb : BOk a10) (hk : 1048576 < q + 4) : F30 (q + 4) a0 a1 a2 a3 a4 a5 a6 a7 a8 a9 a10 f t l o = some (wrB a0 a1 a2 a3 a4 a5 a6 a7 a8 a9 a10 f t l o) := by
  unfold F30 F30_T wrB
  refine (bs (F74_eq q a0 a1 a2 a3 a4 a5 a6 a7 a8 a9 a10 f t h9 hb hk)).trans ?_
  have hs := (sgB_ok a0 a1 a2 a3 a4 a5 a6 a7 a8 a9 a10 f t hb).1
  cases (((sgB a0 a1 a2 a3 a4 a5 a6 a7 a8 a9 a10 f t).length : Int) == 0) with
  | true => rfl
  | false =>
    refine (cf rfl).trans ?_
    refine (bs (F75_eq q f t 6 64 0 0 false false _ (by omega))).trans ?_
    exact (bs (F76_eq q o l 8 _ (pkB_ok _ _ _ _ _ _ _ _ hs).1 (by omega))).trans rfl
end Go.Proofs.Ytnagpaikjikhaaa.Gn
end

section
namespace Go.Proofs.Ytnagpaikjikhaaa.Gn
open Go.Rf Go.IntWalk
set_option linter.unusedVariables false
set_option linter.unusedSimpArgs false
def a8 (b : u8L) (j : Nat) : Int := atI b (j : Int)
def n2 (b : u8L) (j : Nat) : Int := a8 b j * 256 + a8 b (j + 1)
theorem a8_in {b : u8L} (hb : BOk b) {j : Nat} (h : j < b.length) : 0 ≤ a8 b j ∧ a8 b j ≤ 255 := by
  unfold a8; rw [atI_get b j h]; exact byt hb j h
theorem n2_in {b : u8L} (hb : BOk b) {j : Nat} (h : j + 2 ≤ b.length) : 0 ≤ n2 b j ∧ n2 b j ≤ 65535 := by
  have h1 := a8_in hb (j := j) (by omega)
  have h2 := a8_in hb (j := j + 1) (by omega)
  unfold n2; omega
theorem cut2 (b : u8L) (j : Nat) (h : j + 2 ≤ b.length) : (b.take (j + 2)).drop j = [a8 b j, a8 b (j + 1)] := by
  have h1 : j < (b.take (j + 2)).length := by rw [List.length_take]; omega
  have h2 : j + 1 < (b.take (j + 2)).length := by rw [List.length_take]; omega
  rw [List.drop_eq_getElem_cons h1, List.drop_eq_getElem_cons h2, List.drop_eq_nil_of_le (by rw [List.length_take]; omega)]
  unfold a8
  rw [atI_get b j (by omega), atI_get b (j + 1) (by omega), List.getElem_take, List.getElem_take]
theorem F110_eq (q : Nat) (b : u8L) (hb : BOk b) (hl : b.length ≤ 1048576) (j : Nat) (h : j + 2 ≤ b.length) : F110 (q + 4) b (j : Int) 2 = some (n2 b j) := by
  have b1 := a8_in hb (j := j) (by omega)
  have b2 := a8_in hb (j := j + 1) (by omega)
  have i1 : inB 2 1 4 = true := by decide
  have e8 : ((2 : Int) ^ 8) = 256 := by decide
  have w1 : IntKind.i64.wrap (0 + 1) = 1 := by decide
  have w2 : IntKind.i64.wrap (1 + 1) = 2 := by decide
  have w3 : IntKind.i64.wrap (0 * 256) = 0 := by decide
  have e2 : IntKind.i64.wrap ((j : Int) + 2) = ((j + 2 : Nat) : Int) := by rw [i64_in _ (by omega)]; omega
  have c2 := cut2 b j h
  unfold F110 F110_T
  refine (bs (F45_eq (q + 4) 2 1 4)).trans ?_
  rw [i1]
  refine (cf rfl).trans ?_
  refine (cf (decide_eq_false (by omega))).trans ?_
  refine (cf (decide_eq_false (by rw [i64_in _ (by omega)]; omega))).trans ?_
  rw [e2]
  refine (ct (by rw [decide_eq_true (by omega), decide_eq_true (by omega)]; rfl)).trans ?_
  refine (ct (by rw [decide_eq_true (by omega), decide_eq_true (by omega)]; rfl)).trans ?_
  have aux : ∀ k m : Nat, F110_l0 k b (j : Int) 2 (m + 1 + 1 + 1) 0 0 = some (n2 b j) := fun k m => by
    rw [F110_l0]
    unfold F110_l0_T
    rw [e2, Int.toNat_natCast, Int.toNat_natCast, c2, e8, w1, w3]
    refine (ct rfl).trans ((ct rfl).trans ((ct rfl).trans ?_))
    rw [show @Eq Int (atI (t := .int .u8) [a8 b j, a8 b (j + 1)] 0) (a8 b j) from rfl, i64_in (a8 b j) (by omega), show (0 : Int) = 0 * 256 from rfl, or_bytes 0 (a8 b j) (by omega) b1]
    rw [show (0 : Int) * 256 + a8 b j = a8 b j by omega]
    dsimp only
    rw [F110_l0]
    unfold F110_l0_T
    rw [e2, Int.toNat_natCast, Int.toNat_natCast, c2, e8, w2]
    refine (ct rfl).trans ((ct rfl).trans ((ct rfl).trans ?_))
    rw [show @Eq Int (atI (t := .int .u8) [a8 b j, a8 b (j + 1)] 1) (a8 b (j + 1)) from rfl, i64_in (a8 b (j + 1)) (by omega), i64_in (a8 b j * 256) (by omega), or_bytes (a8 b j) (a8 b (j + 1)) b1 b2]
    dsimp only
    rw [F110_l0]
    unfold F110_l0_T
    rw [e2, Int.toNat_natCast, Int.toNat_natCast, c2]
    exact (cf rfl).trans rfl
  exact aux (q + 4) (q + 1)
theorem F108_eq (k : Nat) (a b : u8L) (h9 : a.length ≤ 4194304) (k9 : a.length < k) : F108 k a b = some (decide (a = b)) := by
  unfold F108 F108_T
  by_cases hlen : a.length = b.length
  · have := eqLoop a b (fun n j => F108_l0 k a b n j) hlen
      (fun n j h h' => by
        simp only [F108_l0, F108_l0_T]
        rw [atI_get a j h, atI_get b j h', up1 j (by omega)]
        rw [decide_eq_true (by omega : ((j : Nat) : Int) < (a.length : Nat)), decide_eq_true (by omega : ((j : Nat) : Int) < (b.length : Nat)), decide_eq_true (by omega : (0 : Int) ≤ (j : Nat))]
        by_cases hc : a[j] = b[j]
        · rw [if_pos hc, hc]; simp
        · rw [if_neg hc, (bne_iff_ne (a := (a[j] : Int)) (b := b[j])).2 hc]; rfl)
      (fun n => by
        simp only [F108_l0, F108_l0_T]
        rw [decide_eq_false (by omega : ¬ ((a.length : Nat) : Int) < (a.length : Nat))]; rfl) k 0 (Nat.zero_le _) (by omega)
    refine (cf (by rw [hlen]; simp)).trans ?_
    simpa using this
  · refine (ct (by rw [bne_iff_ne]; omega)).trans ?_
    rw [decide_eq_false (fun h => hlen (by rw [h]))]
theorem split6 (b : u8L) (h : 6 ≤ b.length) : ∃ (b0 b1 b2 b3 : den (.int .u8)) (m : u8L) (x y : den (.int .u8)), b = b0 :: b1 :: b2 :: b3 :: (m ++ [x, y]) := by
  obtain _ | ⟨b0, b⟩ := b
  · simp at h
  obtain _ | ⟨b1, b⟩ := b
  · simp at h
  obtain _ | ⟨b2, b⟩ := b
  · simp at h
  obtain _ | ⟨b3, b⟩ := b
  · simp at h
  simp only [List.length_cons] at h
  have h2 : (b.drop (b.length - 2)).length = 2 := by rw [List.length_drop]; omega
  obtain ⟨x, y, e⟩ : ∃ x y, b.drop (b.length - 2) = [x, y] := by
    rcases hr : b.drop (b.length - 2) with _ | ⟨x, _ | ⟨y, _ | ⟨z, r⟩⟩⟩
    · rw [hr] at h2; simp at h2
    · rw [hr] at h2; simp at h2
    · exact ⟨x, y, rfl⟩
    · rw [hr] at h2; simp at h2
  exact ⟨b0, b1, b2, b3, b.take (b.length - 2), x, y, by rw [← e, List.take_append_drop]⟩
def midF (b : u8L) : u8L := (b.take (b.length - 2)).drop 4
def frF (b : u8L) : Bool := decide (6 ≤ b.length) && frOk (a8 b 0) (a8 b 1) (a8 b 2) (midF b) && (a8 b 3 == (((midF b).length : Nat) : Int)) && (n2 b (b.length - 2) == sumV (b.take (b.length - 2)))
def frR (b : u8L) : Int × Int × Int × u8L × Bool := cond (frF b) (a8 b 0, a8 b 1, a8 b 2, midF b, true) (0, 0, 0, [], false)
theorem by2_n2 {x y v : Int} (hx : 0 ≤ x ∧ x ≤ 255) (hy : 0 ≤ y ∧ y ≤ 255) (hv : 0 ≤ v ∧ v ≤ 65535) : by2 v = [x, y] ↔ x * 256 + y = v := by
  unfold by2
  constructor
  · intro h
    injection h with h1 h2
    injection h2 with h2 _
    have h1 : v / 256 = x := h1
    have h2 : v % 256 = y := h2
    omega
  · intro h
    have h1 : v / 256 = x := by omega
    have h2 : v % 256 = y := by omega
    rw [h1, h2]
theorem frB_iff (b : u8L) (hb : BOk b) (h : 6 ≤ b.length) : decide (frB (a8 b 0) (a8 b 1) (a8 b 2) (midF b) = b) = frF b := by
  obtain ⟨b0, b1, b2, b3, m, x, y, rfl⟩ := split6 b h
  have hl : (b0 :: b1 :: b2 :: b3 :: (m ++ [x, y])).length - 2 = m.length + 4 := by simp
  have tk : (b0 :: b1 :: b2 :: b3 :: (m ++ [x, y])).take (m.length + 4) = b0 :: b1 :: b2 :: b3 :: m := by simp
  have md : midF (b0 :: b1 :: b2 :: b3 :: (m ++ [x, y])) = m := by
    unfold midF
    rw [hl, tk]; rfl
  have hx := hb x (by simp)
  have hy := hb y (by simp)
  have h0 := hb b0 (by simp)
  have h1 := hb b1 (by simp)
  have h2 := hb b2 (by simp)
  have h3 := hb b3 (by simp)
  have hm : BOk (b0 :: b1 :: b2 :: b3 :: m) := fun z hz => hb z (by simp only [List.mem_cons, List.mem_append] at hz ⊢; rcases hz with h | h | h | h | h <;> simp [h])
  have n2e : n2 (b0 :: b1 :: b2 :: b3 :: (m ++ [x, y])) (m.length + 4) = @HAdd.hAdd Int Int Int _ (@HMul.hMul Int Int Int _ x 256) y := by
    unfold n2 a8
    rw [atI_get _ (m.length + 4) (by simp), atI_get _ (m.length + 4 + 1) (by simp)]
    simp
  have q0 : a8 (b0 :: b1 :: b2 :: b3 :: (m ++ [x, y])) 0 = b0 := rfl
  have q1 : a8 (b0 :: b1 :: b2 :: b3 :: (m ++ [x, y])) 1 = b1 := rfl
  have q2 : a8 (b0 :: b1 :: b2 :: b3 :: (m ++ [x, y])) 2 = b2 := rfl
  have q3 : a8 (b0 :: b1 :: b2 :: b3 :: (m ++ [x, y])) 3 = b3 := rfl
  unfold frF
  rw [decide_eq_true h, Bool.true_and, hl, tk, md, n2e, q0, q1, q2, q3]
  unfold frB
  cases ho : frOk b0 b1 b2 m with
  | false => rw [decide_eq_false (by intro hh; cases hh)]; rfl
  | true =>
    have hml : m.length ≤ 64 := by
      simp only [frOk, Bool.and_eq_true, decide_eq_true_eq] at ho
      omega
    have hw : hdF b0 b1 b2 m = b0 :: b1 :: b2 :: (((m.length : Nat) : Int) :: m) := by
      unfold hdF u8v
      rw [u8W b0 h0, u8W b1 h1, u8W b2 h2, u8W _ (by omega)]
      rfl
    rw [cond_true, Bool.true_and, hw]
    by_cases e3 : (b3 : Int) = ((m.length : Nat) : Int)
    · have e3' : b3 = ((m.length : Nat) : Int) := e3
      rw [← e3', (beq_iff_eq (a := (b3 : Int)) (b := b3)).2 rfl, Bool.true_and]
      have key := by2_n2 hx hy (sumV_in hm)
      generalize sumV (b0 :: b1 :: b2 :: b3 :: m) = v at *
      by_cases ev : (@HAdd.hAdd Int Int Int _ (@HMul.hMul Int Int Int _ x 256) y) = v
      · rw [beq_iff_eq.2 ev, key.2 ev]
        exact decide_eq_true (by simp)
      · rw [beq_eq_false_iff_ne.2 ev]
        refine decide_eq_false (fun hh => ev (key.1 ?_))
        simpa using hh
    · rw [beq_eq_false_iff_ne.2 e3, Bool.false_and]
      refine decide_eq_false (fun hh => e3 ?_)
      simp only [List.cons_append, List.cons.injEq] at hh
      exact hh.2.2.2.1.symm
theorem BOk.take {b : u8L} (hb : BOk b) (n : Nat) : BOk (b.take n) := fun z hz => hb z (List.mem_of_mem_take hz)
theorem BOk.drop {b : u8L} (hb : BOk b) (n : Nat) : BOk (b.drop n) := fun z hz => hb z (List.mem_of_mem_drop hz)
theorem w8 {b : u8L} (hb : BOk b) (j : Nat) (h : j < b.length) : IntKind.i64.wrap (atI b (j : Int)) = a8 b j := i64_in (a8 b j) (by have := a8_in hb h; omega)
theorem midF_ok {b : u8L} (hb : BOk b) : BOk (midF b) := (hb.take _).drop _
theorem F77_eq (q : Nat) (b : u8L) (hb : BOk b) (hl : b.length ≤ 1048576) (hk : 1048576 < q + 4) : F77 (q + 4) b = some (frR b) := by
  unfold F77 F77_T frR
  by_cases h6 : b.length < 6
  · refine (ct (decide_eq_true (by omega))).trans ?_
    unfold frF
    rw [decide_eq_false (by omega)]; rfl
  · have w : IntKind.i64.wrap (((b.length : Nat) : Int) - 2) = ((b.length - 2 : Nat) : Int) := by rw [i64_in _ (by omega)]; omega
    have z0 : IntKind.i64.wrap (atI b 0) = a8 b 0 := w8 hb 0 (by omega)
    have z1 : IntKind.i64.wrap (atI b 1) = a8 b 1 := w8 hb 1 (by omega)
    have z2 : IntKind.i64.wrap (atI b 2) = a8 b 2 := w8 hb 2 (by omega)
    have zm : (b.take (b.length - 2)).drop 4 = midF b := rfl
    have fl := (frB_ok (a8 b 0) (a8 b 1) (a8 b 2) (midF_ok hb)).2
    have ml : (midF b).length ≤ 4194304 := by unfold midF; rw [List.length_drop, List.length_take]; omega
    rw [w, z0, z1, z2, Int.toNat_natCast, zm]
    refine (cf (decide_eq_false (by omega))).trans ?_
    refine (ct (decide_eq_true (by omega))).trans ?_
    refine (ct (decide_eq_true (by omega))).trans ?_
    refine (ct (decide_eq_true (by omega))).trans ?_
    refine (ct (by rw [decide_eq_true (by omega), decide_eq_true (by omega)]; rfl)).trans ?_
    refine (ct (by rw [decide_eq_true (by omega), decide_eq_true (by omega)]; rfl)).trans ?_
    refine (bs (F88_eq (q + 4) (midF b) ml)).trans ?_
    refine (bs (F76_eq q (a8 b 0) (a8 b 1) (a8 b 2) (midF b) (midF_ok hb) (by omega))).trans ?_
    refine (bs (F108_eq (q + 4) _ b (by omega) (by omega))).trans ?_
    rw [frB_iff b hb (by omega)]
    cases frF b <;> rfl
theorem F78_eq (k : Nat) (f0 f1 f2 : Int) (f3 : u8L) (l : Int) : F78 k f0 f1 f2 f3 l = some (frOk f0 f1 f2 f3 && inB l 0 254 && (f0 == l || f0 == 255 && f1 != l)) := by
  unfold F78 F78_T
  refine (bs (F107_eq k f0 f1 f2 f3)).trans ?_
  cases frOk f0 f1 f2 f3 <;> try rfl
  refine (ct rfl).trans ?_
  refine (bs (F45_eq k l 0 254)).trans ?_
  cases inB l 0 254 <;> try rfl
  cases f0 == l <;> cases f0 == 255 <;> rfl
def fits (l : u8L) (s : Int) : Bool := s % 65535 == sumV l % 65535
theorem F109_eq (q : Nat) (l : u8L) (s : Int) (hb : BOk l) (hl : l.length ≤ 1048576) (hs : 0 ≤ s ∧ s ≤ 65535) : F109 (q + 4) l s = some (fits l s) := by
  have hv := sumV_in hb
  unfold F109 F109_T fits
  refine (bs (F103_eq q l hb hl)).trans ?_
  refine (bs (F55_eq (q + 4) s)).trans ?_
  rw [show inB s 0 65535 = true by unfold inB; rw [decide_eq_true hs.1, decide_eq_true hs.2]; rfl]
  refine (ct rfl).trans ?_
  rw [Int.tmod_eq_emod_of_nonneg hs.1, Int.tmod_eq_emod_of_nonneg hv.1]
  generalize sumV l = v at *
  by_cases e : s = v
  · subst e
    refine (ct (by simp)).trans ?_
    simp
  · refine (cf (beq_eq_false_iff_ne.2 e)).trans ?_
    by_cases e2 : s % 65535 = 0
    · refine (ct (beq_iff_eq.2 e2)).trans ?_
      rw [e2]
      congr 1
      rw [Bool.eq_iff_iff, beq_iff_eq, beq_iff_eq]
      exact eq_comm
    · refine (cf (beq_eq_false_iff_ne.2 e2)).trans ?_
      rw [beq_eq_false_iff_ne.2 (by omega)]
def pkF (b : u8L) : Bool := decide (12 ≤ b.length) && (decide (a8 b 8 ≤ 3) && ((a8 b 9 == ((b.length - 12 : Nat) : Int)) && (pkOk (n2 b 0) (n2 b 2) (a8 b 4) (a8 b 5) (a8 b 6) (a8 b 7) (a8 b 8 % 2 == 1) (decide (2 ≤ a8 b 8)) (b.drop 12) && fits (b.take 10) (n2 b 10))))
def pkR (b : u8L) : Int × Int × Int × Int × Int × Int × Bool × Bool × u8L × Bool := cond (pkF b) (n2 b 0, n2 b 2, a8 b 4, a8 b 5, a8 b 6, a8 b 7, a8 b 8 % 2 == 1, decide (2 ≤ a8 b 8), b.drop 12, true) (0, 0, 0, 0, 0, 0, false, false, [], false)
theorem flg (v : Int) (h : 0 ≤ v ∧ v ≤ 3) : ((v.tmod 2 == 1) = (v % 2 == 1)) ∧ ((IntKind.u8.wrap (v.tdiv 2) == 1) = decide (2 ≤ v)) ∧ ((bitsOf .and .u8 v 1 != 0) = (v % 2 == 1)) ∧ ((bitsOf .and .u8 v 2 != 0) = decide (2 ≤ v)) := by
  obtain rfl | rfl | rfl | rfl : v = 0 ∨ v = 1 ∨ v = 2 ∨ v = 3 := by omega
  all_goals decide
theorem F79_eq (q : Nat) (b : u8L) (hb : BOk b) (hl : b.length ≤ 1048576) (hk : 1048576 < q + 4) : F79 (q + 4) b = some (pkR b) := by
  unfold F79 F79_T pkR
  by_cases h6 : b.length < 12
  · refine (ct (decide_eq_true (by omega))).trans ?_
    unfold pkF
    rw [decide_eq_false (by omega)]; rfl
  · have b8 := a8_in hb (j := 8) (by omega)
    have b9 := a8_in hb (j := 9) (by omega)
    have z4 : IntKind.i64.wrap (atI b 4) = a8 b 4 := w8 hb 4 (by omega)
    have z5 : IntKind.i64.wrap (atI b 5) = a8 b 5 := w8 hb 5 (by omega)
    have z6 : IntKind.i64.wrap (atI b 6) = a8 b 6 := w8 hb 6 (by omega)
    have z7 : IntKind.i64.wrap (atI b 7) = a8 b 7 := w8 hb 7 (by omega)
    have z9 : IntKind.i64.wrap (atI b 9) = a8 b 9 := w8 hb 9 (by omega)
    have z8 : @Eq Int (atI b 8) (a8 b 8) := rfl
    rw [z4, z5, z6, z7, z9, z8, i64_in (12 + a8 b 9) (by omega)]
    refine (cf (decide_eq_false (by omega))).trans ?_
    refine (ct (by rw [decide_eq_true (by omega), decide_eq_true (by omega)]; rfl)).trans ?_
    refine (bs (F110_eq q b hb hl 10 (by omega))).trans ?_
    refine (bs (F109_eq q (b.take 10) (n2 b 10) (hb.take _) (by rw [List.length_take]; omega) (n2_in hb (by omega)))).trans ?_
    unfold pkF
    rw [decide_eq_true (by omega : 12 ≤ b.length), Bool.true_and]
    cases fits (b.take 10) (n2 b 10) with
    | false => simp only [Bool.and_false, cond_false]; rfl
    | true =>
      rw [Bool.and_true]
      refine (cf rfl).trans ?_
      refine (ct (decide_eq_true (by omega))).trans ?_
      by_cases e9 : a8 b 9 = ((b.length - 12 : Nat) : Int)
      · refine (cf (by rw [bne_eq_false_iff_eq]; omega)).trans ?_
        rw [beq_iff_eq.2 e9, Bool.true_and]
        refine (ct (decide_eq_true (by omega))).trans ?_
        by_cases h3 : a8 b 8 > 3
        · refine (ct (decide_eq_true h3)).trans ?_
          rw [decide_eq_false (by omega)]; rfl
        · obtain ⟨_, _, g1, g2⟩ := flg (a8 b 8) (by omega)
          refine (cf (decide_eq_false h3)).trans ?_
          rw [g1, g2, decide_eq_true (by omega : a8 b 8 ≤ 3), Bool.true_and]
          refine (bs (F110_eq q b hb hl 0 (by omega))).trans ?_
          refine (bs (F110_eq q b hb hl 2 (by omega))).trans ?_
          refine (ct (decide_eq_true (by omega))).trans ?_
          refine (ct (decide_eq_true (by omega))).trans ?_
          refine (ct (decide_eq_true (by omega))).trans ?_
          refine (ct (decide_eq_true (by omega))).trans ?_
          refine (ct (decide_eq_true (by omega))).trans ?_
          refine (ct (decide_eq_true (by omega))).trans ?_
          refine (ct (by rw [decide_eq_true (by omega), decide_eq_true (by omega)]; rfl)).trans ?_
          refine (bs (F88_eq (q + 4) (b.drop 12) (by rw [List.length_drop]; omega))).trans ?_
          refine (bs (F105_eq (q + 4) (n2 b 0) (n2 b 2) (a8 b 4) (a8 b 5) (a8 b 6) (a8 b 7) (a8 b 8 % 2 == 1) (decide (2 ≤ a8 b 8)) (b.drop 12))).trans ?_
          cases pkOk (n2 b 0) (n2 b 2) (a8 b 4) (a8 b 5) (a8 b 6) (a8 b 7) (a8 b 8 % 2 == 1) (decide (2 ≤ a8 b 8)) (b.drop 12) <;> rfl
      · refine (ct (bne_iff_ne.2 (by omega))).trans ?_
        rw [beq_eq_false_iff_ne.2 e9, Bool.false_and, Bool.and_false]; rfl
end Go.Proofs.Ytnagpaikjikhaaa.Gn
end

section
namespace Go.Proofs.Ytnagpaikjikhaaa.Gn
open Go.Rf Go.IntWalk
set_option linter.unusedVariables false
set_option linter.unusedSimpArgs false
def rgF (b : u8L) (j : Nat) : Nat → rgL
  | 0 => []
  | n + 1 => rgF b j n ++ [(n2 b (j + 4 * n), n2 b (j + 4 * n + 2))]
theorem rgF_len (b : u8L) (j : Nat) : ∀ n, (rgF b j n).length = n
  | 0 => rfl
  | n + 1 => by rw [rgF, List.length_append, rgF_len b j n]; rfl
theorem rgsB_app : ∀ (l : rgL) (x y : Int), rgsB (l ++ [(x, y)]) = rgsB l ++ (by2 x ++ by2 y)
  | [], x, y => by simp [rgsB]
  | r :: l, x, y => by simp only [List.cons_append, rgsB, rgsB_app l x y, List.append_assoc]
theorem by2_of {b : u8L} (hb : BOk b) {j : Nat} (h : j + 2 ≤ b.length) : by2 (n2 b j) = (b.take (j + 2)).drop j := by
  rw [cut2 b j h]
  have h1 := a8_in hb (j := j) (by omega)
  have h2 := a8_in hb (j := j + 1) (by omega)
  exact (by2_n2 h1 h2 (n2_in hb h)).2 rfl
theorem td_app {α : Type} (b : List α) (i j k : Nat) (h1 : i ≤ j) (h2 : j ≤ k) : (b.take j).drop i ++ (b.take k).drop j = (b.take k).drop i := by
  rw [List.drop_take, List.drop_take, List.drop_take]
  rw [show k - i = (j - i) + (k - j) by omega, List.take_add, List.drop_drop, show i + (j - i) = j by omega]
theorem rgsB_of {b : u8L} (hb : BOk b) (j : Nat) : ∀ n, j + 4 * n ≤ b.length → rgsB (rgF b j n) = (b.take (j + 4 * n)).drop j
  | 0, h => by rw [rgF, rgsB, List.drop_eq_nil_of_le (by rw [List.length_take]; omega)]
  | n + 1, h => by
    rw [show j + 4 * (n + 1) = j + 4 * n + 2 + 2 by omega, rgF, rgsB_app, rgsB_of hb j n (by omega), by2_of hb (j := j + 4 * n) (by omega), by2_of hb (j := j + 4 * n + 2) (by omega), td_app b _ _ _ (by omega) (by omega), td_app b _ _ _ (by omega) (by omega)]
def manyF (b : u8L) : Nat := (a8 b 8).toNat
def datF (b : u8L) : u8L := (b.take (b.length - 2)).drop (9 + 4 * manyF b + 1)
def sgS (b : u8L) : den seg := (a8 b 0, a8 b 1, n2 b 2, n2 b 4, a8 b 6, a8 b 7 % 2 == 1, a8 b 7 / 2 % 2 == 1, a8 b 7 / 4 % 2 == 1, a8 b 7 / 8 % 2 == 1, rgF b 9 (manyF b), datF b)
def okB (x : den seg) : Bool := okS x.1 x.2.1 x.2.2.1 x.2.2.2.1 x.2.2.2.2.1 x.2.2.2.2.2.1 x.2.2.2.2.2.2.1 x.2.2.2.2.2.2.2.1 x.2.2.2.2.2.2.2.2.1 x.2.2.2.2.2.2.2.2.2.1 x.2.2.2.2.2.2.2.2.2.2
def sgF (b : u8L) (f t : Int) : Bool := decide (12 ≤ b.length) && (inB f 0 65535 && (inB t 0 65535 && (decide (a8 b 7 ≤ 15) && (decide (a8 b 8 ≤ 2) && (decide (12 + 4 * manyF b ≤ b.length) &&
  ((a8 b (9 + 4 * manyF b) == (((datF b).length : Nat) : Int)) && (okB (sgS b) && (n2 b (b.length - 2) == sumV (by2 f ++ by2 t ++ b.take (b.length - 2))))))))))
abbrev SegR : Type := Int × Int × Int × Int × Int × Bool × Bool × Bool × Bool × rgL × u8L × Bool
def sgR (b : u8L) (f t : Int) : SegR := cond (sgF b f t) (a8 b 0, a8 b 1, n2 b 2, n2 b 4, a8 b 6, a8 b 7 % 2 == 1, a8 b 7 / 2 % 2 == 1, a8 b 7 / 4 % 2 == 1, a8 b 7 / 8 % 2 == 1, rgF b 9 (manyF b), datF b, true) (0, 0, 0, 0, 0, false, false, false, false, [], [], false)
theorem andB (v : Int) (h : 0 ≤ v ∧ v ≤ 255) : ((bitsOf .and .u8 v 1 != 0) = (v % 2 == 1)) ∧ ((bitsOf .and .u8 v 2 != 0) = (v / 2 % 2 == 1)) ∧ ((bitsOf .and .u8 v 4 != 0) = (v / 4 % 2 == 1)) ∧ ((bitsOf .and .u8 v 8 != 0) = (v / 8 % 2 == 1)) := by
  have key : ∀ w : Fin 256, ((bitsOf .and .u8 (w.val : Int) 1 != 0) = ((w.val : Int) % 2 == 1)) ∧ ((bitsOf .and .u8 (w.val : Int) 2 != 0) = ((w.val : Int) / 2 % 2 == 1)) ∧ ((bitsOf .and .u8 (w.val : Int) 4 != 0) = ((w.val : Int) / 4 % 2 == 1)) ∧ ((bitsOf .and .u8 (w.val : Int) 8 != 0) = ((w.val : Int) / 8 % 2 == 1)) := by decide +kernel
  obtain ⟨n, rfl⟩ := Int.eq_ofNat_of_zero_le h.1
  exact key ⟨n, by omega⟩
theorem mkS_of (v : Int) (h : 0 ≤ v) : mkS (v % 2 == 1) (v / 2 % 2 == 1) (v / 4 % 2 == 1) (v / 8 % 2 == 1) = v % 16 := by
  have key : ∀ w : Fin 16, mkS ((w.val : Int) % 2 == 1) ((w.val : Int) / 2 % 2 == 1) ((w.val : Int) / 4 % 2 == 1) ((w.val : Int) / 8 % 2 == 1) = (w.val : Int) := by decide +kernel
  have h2 := key ⟨(v % 16).toNat, by omega⟩
  have e : (((v % 16).toNat : Nat) : Int) = v % 16 := by omega
  simp only [e] at h2
  rw [← h2]
  have a1 : v % 2 = v % 16 % 2 := by omega
  have a2 : v / 2 % 2 = v % 16 / 2 % 2 := by omega
  have a3 : v / 4 % 2 = v % 16 / 4 % 2 := by omega
  have a4 : v / 8 % 2 = v % 16 / 8 % 2 := by omega
  rw [a1, a2, a3, a4]
theorem parts9 (b : u8L) (n : Nat) (h : 12 + 4 * n ≤ b.length) : b = (b.take 7) ++ (a8 b 7 :: a8 b 8 :: ((b.take (9 + 4 * n)).drop 9 ++ (a8 b (9 + 4 * n) :: ((b.take (b.length - 2)).drop (9 + 4 * n + 1) ++ [a8 b (b.length - 2), a8 b (b.length - 2 + 1)])))) := by
  have st : ∀ j (hj : j < b.length), b.drop j = a8 b j :: b.drop (j + 1) := fun j hj => by
    rw [List.drop_eq_getElem_cons hj]
    unfold a8
    rw [atI_get b j hj]
  have e1 : b.drop 9 = (b.take (9 + 4 * n)).drop 9 ++ b.drop (9 + 4 * n) := by
    have := td_app b 9 (9 + 4 * n) b.length (by omega) (by omega)
    rw [List.take_length] at this
    exact this.symm
  have e2 : b.drop (9 + 4 * n + 1) = (b.take (b.length - 2)).drop (9 + 4 * n + 1) ++ b.drop (b.length - 2) := by
    have := td_app b (9 + 4 * n + 1) (b.length - 2) b.length (by omega) (by omega)
    rw [List.take_length] at this
    exact this.symm
  have e3 : b.drop (b.length - 2) = [a8 b (b.length - 2), a8 b (b.length - 2 + 1)] := by
    rw [st _ (by omega), st _ (by omega), List.drop_eq_nil_of_le (by omega)]
  rw [← e3, ← e2, ← st _ (by omega), ← e1, ← st 8 (by omega), ← st 7 (by omega), List.take_append_drop]
theorem parts9_eq {α : Type} (P R D : List α) (a c d x y a' c' d' x' y' : α) : (P ++ (a :: c :: (R ++ (d :: (D ++ [x, y])))) = P ++ (a' :: c' :: (R ++ (d' :: (D ++ [x', y']))))) ↔ a = a' ∧ c = c' ∧ d = d' ∧ x = x' ∧ y = y' := by
  simp only [List.append_cancel_left_eq, List.cons.injEq, and_true]
theorem sgB_iff (b : u8L) (hb : BOk b) (f t : Int) (h : 12 + 4 * manyF b ≤ b.length) (h12 : 12 ≤ b.length) : decide (sgB (a8 b 0) (a8 b 1) (n2 b 2) (n2 b 4) (a8 b 6) (a8 b 7 % 2 == 1) (a8 b 7 / 2 % 2 == 1) (a8 b 7 / 4 % 2 == 1) (a8 b 7 / 8 % 2 == 1) (rgF b 9 (manyF b)) (datF b) f t = b) = sgF b f t := by
  have eok : okB (sgS b) = okS (a8 b 0) (a8 b 1) (n2 b 2) (n2 b 4) (a8 b 6) (a8 b 7 % 2 == 1) (a8 b 7 / 2 % 2 == 1) (a8 b 7 / 4 % 2 == 1) (a8 b 7 / 8 % 2 == 1) (rgF b 9 (manyF b)) (datF b) := rfl
  have nz : b ≠ [] := fun e => by rw [e] at h12; simp at h12
  have p7 := a8_in hb (j := 7) (by omega)
  have p8 := a8_in hb (j := 8) (by omega)
  unfold sgF sgB
  rw [eok, decide_eq_true h12, decide_eq_true h, Bool.true_and, Bool.true_and]
  cases ho : okS (a8 b 0) (a8 b 1) (n2 b 2) (n2 b 4) (a8 b 6) (a8 b 7 % 2 == 1) (a8 b 7 / 2 % 2 == 1) (a8 b 7 / 4 % 2 == 1) (a8 b 7 / 8 % 2 == 1) (rgF b 9 (manyF b)) (datF b) with
  | false => simp only [Bool.false_and, Bool.and_false, cond_false]; exact decide_eq_false (fun e => nz e.symm)
  | true =>
    cases hf : inB f 0 65535 with
    | false => simp only [Bool.false_and, Bool.and_false, cond_false]; exact decide_eq_false (fun e => nz e.symm)
    | true =>
      cases ht : inB t 0 65535 with
      | false => simp only [Bool.false_and, Bool.and_false, cond_false]; exact decide_eq_false (fun e => nz e.symm)
      | true =>
        have hf : 0 ≤ f ∧ f ≤ 65535 := by simpa [inB] using hf
        have ht : 0 ≤ t ∧ t ≤ 65535 := by simpa [inB] using ht
        obtain ⟨_, _, _, _, _, o9, o10, _⟩ := okS_all ho
        rw [rgF_len] at o9
        have hn : a8 b 8 ≤ 2 := by unfold manyF at o9; omega
        have e8 : ((manyF b : Nat) : Int) = a8 b 8 := by unfold manyF; omega
        obtain ⟨n, hnn⟩ : ∃ n, n = manyF b := ⟨_, rfl⟩
        have hBd : BOk (datF b) := (hb.take _).drop _
        obtain ⟨hB, hL⟩ := bdS_ok _ _ _ _ _ _ _ _ _ _ _ ho hBd
        have B1 := ((by2_BOk hf).app (by2_BOk ht)).app hB
        simp only [Bool.true_and, Bool.and_true, cond_true]
        rw [decide_eq_true hn, Bool.true_and]
        have hd : bdS (a8 b 0) (a8 b 1) (n2 b 2) (n2 b 4) (a8 b 6) (a8 b 7 % 2 == 1) (a8 b 7 / 2 % 2 == 1) (a8 b 7 / 4 % 2 == 1) (a8 b 7 / 8 % 2 == 1) (rgF b 9 (manyF b)) (datF b) =
            b.take 7 ++ (u8v (a8 b 7 % 16) :: a8 b 8 :: ((b.take (9 + 4 * manyF b)).drop 9 ++ (u8v (((datF b).length : Nat) : Int) :: datF b))) := by
          unfold bdS hdS
          rw [mkS_of _ p7.1, rgF_len, e8, rgsB_of hb 9 _ (by omega), by2_of hb (j := 2) (by omega), by2_of hb (j := 4) (by omega)]
          have b0 := a8_in hb (j := 0) (by omega)
          have b1 := a8_in hb (j := 1) (by omega)
          have b6 := a8_in hb (j := 6) (by omega)
          have t7 : b.take 7 = [u8v (a8 b 0), u8v (a8 b 1)] ++ (b.take (2 + 2)).drop 2 ++ (b.take (4 + 2)).drop 4 ++ [u8v (a8 b 6)] := by
            unfold u8v
            rw [u8W _ b0, u8W _ b1, u8W _ b6, cut2 b 2 (by omega), cut2 b 4 (by omega)]
            have st : ∀ j (hj : j < b.length), b.drop j = a8 b j :: b.drop (j + 1) := fun j hj => by
              rw [List.drop_eq_getElem_cons hj]
              unfold a8
              rw [atI_get b j hj]
            have e0 : b = b.drop 0 := rfl
            rw [e0, st 0 (by omega), st 1 (by omega), st 2 (by omega), st 3 (by omega), st 4 (by omega), st 5 (by omega), st 6 (by omega)]
            rfl
          rw [t7]
          have v8 : u8v (a8 b 8) = a8 b 8 := u8W _ p8
          rw [v8]
          simp only [List.append_assoc, List.cons_append, List.nil_append]
        rw [hd] at B1 ⊢
        have pb := parts9 b (manyF b) h
        have dd : (b.take (b.length - 2)).drop (9 + 4 * manyF b + 1) = datF b := rfl
        rw [dd] at pb
        have v := sumV_in B1
        have x1 := a8_in hb (j := b.length - 2) (by omega)
        have x2 := a8_in hb (j := b.length - 2 + 1) (by omega)
        have dl : ((datF b).length : Int) ≤ 255 := by omega
        have vl : u8v (((datF b).length : Nat) : Int) = (((datF b).length : Nat) : Int) := u8W _ (by omega)
        have vm : u8v (a8 b 7 % 16) = a8 b 7 % 16 := u8W _ (by omega)
        by_cases h15 : a8 b 7 ≤ 15
        · have m16 : a8 b 7 % 16 = a8 b 7 := by omega
          rw [decide_eq_true h15, Bool.true_and]
          by_cases h9 : a8 b (9 + 4 * manyF b) = (((datF b).length : Nat) : Int)
          · have tk : b.take (b.length - 2) = b.take 7 ++ (u8v (a8 b 7 % 16) :: a8 b 8 :: ((b.take (9 + 4 * manyF b)).drop 9 ++ (u8v (((datF b).length : Nat) : Int) :: datF b))) := by
              have hl2 : b.length - 2 = (b.take 7 ++ (a8 b 7 :: a8 b 8 :: ((b.take (9 + 4 * manyF b)).drop 9 ++ (a8 b (9 + 4 * manyF b) :: datF b)))).length := by
                have := congrArg List.length pb
                simp only [List.length_append, List.length_cons, List.length_nil] at this ⊢
                omega
              have pb2 : b = (b.take 7 ++ (a8 b 7 :: a8 b 8 :: ((b.take (9 + 4 * manyF b)).drop 9 ++ (a8 b (9 + 4 * manyF b) :: datF b)))) ++ [a8 b (b.length - 2), a8 b (b.length - 2 + 1)] := by
                rw [List.append_assoc]
                simp only [List.cons_append, List.append_assoc]
                exact pb
              rw [vl, vm, m16, ← h9]
              generalize (b.take 7 ++ (a8 b 7 :: a8 b 8 :: ((b.take (9 + 4 * manyF b)).drop 9 ++ (a8 b (9 + 4 * manyF b) :: datF b)))) = X at hl2 pb2
              rw [hl2]
              generalize [a8 b (b.length - 2), a8 b (b.length - 2 + 1)] = Y at pb2
              rw [pb2]
              exact List.take_left
            rw [beq_iff_eq.2 h9, Bool.true_and, ← tk]
            rw [← tk] at v
            have key := by2_n2 x1 x2 v
            have tkb : b.take (b.length - 2) ++ [a8 b (b.length - 2), a8 b (b.length - 2 + 1)] = b := by
              rw [tk, vl, vm, m16, ← h9]
              simp only [List.cons_append, List.append_assoc]
              exact pb.symm
            generalize sumV (by2 f ++ by2 t ++ b.take (b.length - 2)) = s at *
            have e2 : n2 b (b.length - 2) = a8 b (b.length - 2) * 256 + a8 b (b.length - 2 + 1) := rfl
            rw [e2]
            by_cases es : a8 b (b.length - 2) * 256 + a8 b (b.length - 2 + 1) = s
            · rw [beq_iff_eq.2 es, key.2 es]
              exact decide_eq_true tkb
            · rw [beq_eq_false_iff_ne.2 es]
              refine decide_eq_false (fun hh => es (key.1 ?_))
              exact List.append_cancel_left (hh.trans tkb.symm)
          · rw [beq_eq_false_iff_ne.2 h9, Bool.false_and]
            refine decide_eq_false (fun hh => h9 ?_)
            have hh := hh.trans pb
            simp only [List.append_assoc, List.cons_append] at hh
            have := (parts9_eq _ _ _ _ _ _ _ _ _ _ _ _ _).1 hh
            rw [vl] at this
            exact this.2.2.1.symm
        · rw [decide_eq_false h15, Bool.false_and]
          refine decide_eq_false (fun hh => h15 ?_)
          have hh := hh.trans pb
          simp only [List.append_assoc, List.cons_append] at hh
          have := (parts9_eq _ _ _ _ _ _ _ _ _ _ _ _ _).1 hh
          rw [vm] at this
          have := this.1
          have : a8 b 7 % 16 = a8 b 7 := this
          omega
theorem sgF_no {b : u8L} {f t : Int} (h : sgF b f t = false) : sgR b f t = (0, 0, 0, 0, 0, false, false, false, false, [], [], false) := by unfold sgR; rw [h]; rfl
theorem implF_l (q : Nat) (b : u8L) (f t : Int) (hb : BOk b) (hl : b.length ≤ 1048576) (h12 : 12 ≤ b.length) (h : 12 + 4 * manyF b ≤ b.length) (hk : 1048576 < q + 4) :
    ∀ (n j : Nat), j ≤ manyF b → manyF b - j < n → F80_l0 (q + 4) b f t n ((9 + 4 * j : Nat) : Int) (j : Int) (n2 b 2) (n2 b 4) (rgF b 9 j) = some (sgR b f t)
  | 0, j, _, h => by omega
  | n + 1, j, hj, hn => by
    have p7 := a8_in hb (j := 7) (by omega)
    have p8 := a8_in hb (j := 8) (by omega)
    have z0 : IntKind.i64.wrap (atI b 0) = a8 b 0 := w8 hb 0 (by omega)
    have z1 : IntKind.i64.wrap (atI b 1) = a8 b 1 := w8 hb 1 (by omega)
    have z6 : IntKind.i64.wrap (atI b 6) = a8 b 6 := w8 hb 6 (by omega)
    have z8 : IntKind.i64.wrap (atI b 8) = a8 b 8 := w8 hb 8 (by omega)
    have z7 : @Eq Int (atI b 7) (a8 b 7) := rfl
    have e8 : ((manyF b : Nat) : Int) = a8 b 8 := by unfold manyF; omega
    have w : IntKind.i64.wrap (((b.length : Nat) : Int) - 2) = ((b.length - 2 : Nat) : Int) := by rw [i64_in _ (by omega)]; omega
    have w1 : IntKind.i64.wrap (((9 + 4 * j : Nat) : Int) + 1) = ((9 + 4 * j + 1 : Nat) : Int) := by rw [i64_in _ (by omega)]; omega
    have w2 : IntKind.i64.wrap (((9 + 4 * j : Nat) : Int) + 2) = ((9 + 4 * j + 2 : Nat) : Int) := by rw [i64_in _ (by omega)]; omega
    have w4 : IntKind.i64.wrap (((9 + 4 * j : Nat) : Int) + 4) = ((9 + 4 * (j + 1) : Nat) : Int) := by rw [i64_in _ (by omega)]; omega
    obtain ⟨g1, g2, g3, g4⟩ := andB (a8 b 7) (by omega)
    rw [F80_l0]
    unfold F80_l0_T
    rw [z0, z1, z6, z8, z7, w, w1, w2, w4, up1 j (by omega), g1, g2, g3, g4, Int.toNat_natCast, Int.toNat_natCast]
    rcases Nat.lt_or_ge j (manyF b) with hlt | hge
    · refine (ct (decide_eq_true (by omega))).trans ?_
      refine (bs (F110_eq q b hb hl (9 + 4 * j) (by omega))).trans ?_
      refine (bs (F110_eq q b hb hl (9 + 4 * j + 2) (by omega))).trans ?_
      refine (ct (decide_eq_true (by rw [rgF_len]; show (j + 1) * 16 ≤ 140737488355328; omega))).trans ?_
      exact implF_l q b f t hb hl h12 h hk n (j + 1) hlt (by omega)
    · obtain rfl : j = manyF b := by omega
      have dd : (b.take (b.length - 2)).drop (9 + 4 * manyF b + 1) = datF b := rfl
      have dl : (datF b).length + (9 + 4 * manyF b + 1) = b.length - 2 := by unfold datF; rw [List.length_drop, List.length_take]; omega
      have dB : BOk (datF b) := (hb.take _).drop _
      have sl := (sgB_ok (a8 b 0) (a8 b 1) (n2 b 2) (n2 b 4) (a8 b 6) (a8 b 7 % 2 == 1) (a8 b 7 / 2 % 2 == 1) (a8 b 7 / 4 % 2 == 1) (a8 b 7 / 8 % 2 == 1) (rgF b 9 (manyF b)) (datF b) f t dB).2
      rw [dd]
      refine (cf (decide_eq_false (by omega))).trans ?_
      refine (ct (by rw [decide_eq_true (by omega), decide_eq_true (by omega)]; rfl)).trans ?_
      refine (ct (by rw [decide_eq_true (by omega), decide_eq_true (by omega)]; rfl)).trans ?_
      refine (bs (F74_eq q (a8 b 0) (a8 b 1) (n2 b 2) (n2 b 4) (a8 b 6) (a8 b 7 % 2 == 1) (a8 b 7 / 2 % 2 == 1) (a8 b 7 / 4 % 2 == 1) (a8 b 7 / 8 % 2 == 1) (rgF b 9 (manyF b)) (datF b) f t (by rw [rgF_len]; omega) dB hk)).trans ?_
      refine (bs (F108_eq (q + 4) _ b (by omega) (by omega))).trans ?_
      rw [sgB_iff b hb f t h h12]
      unfold sgR
      cases sgF b f t with
      | false => rfl
      | true =>
        refine (cf rfl).trans ?_
        exact (bs (F46_eq (q + 4) (a8 b 0) (a8 b 1) (n2 b 2) (n2 b 4) (a8 b 6) (a8 b 7 % 2 == 1) (a8 b 7 / 2 % 2 == 1) (a8 b 7 / 4 % 2 == 1) (a8 b 7 / 8 % 2 == 1) (rgF b 9 (manyF b)) (datF b) (by rw [rgF_len]; omega) (by omega))).trans rfl
theorem F80_eq (q : Nat) (b : u8L) (f t : Int) (hb : BOk b) (hl : b.length ≤ 1048576) (hk : 1048576 < q + 4) : F80 (q + 4) b f t = some (sgR b f t) := by
  unfold F80 F80_T
  by_cases h12 : b.length < 12
  · rw [sgF_no (by unfold sgF; rw [decide_eq_false (by omega)]; rfl)]
    exact (ct (decide_eq_true (by omega))).trans rfl
  · have p8 := a8_in hb (j := 8) (by omega)
    have e8 : ((manyF b : Nat) : Int) = a8 b 8 := by unfold manyF; omega
    have z8 : IntKind.i64.wrap (atI b 8) = a8 b 8 := w8 hb 8 (by omega)
    rw [z8, i64_in (4 * a8 b 8) (by omega), i64_in (12 + 4 * a8 b 8) (by omega)]
    refine (cf (decide_eq_false (by omega))).trans ?_
    refine (ct (decide_eq_true (by omega))).trans ?_
    by_cases h : b.length < 12 + 4 * manyF b
    · rw [sgF_no (by unfold sgF; rw [decide_eq_false (by omega : ¬ 12 + 4 * manyF b ≤ b.length)]; simp only [Bool.false_and, Bool.and_false])]
      exact (ct (decide_eq_true (by omega))).trans rfl
    · refine (cf (decide_eq_false (by omega))).trans ?_
      refine (ct (decide_eq_true (by omega))).trans ?_
      refine (ct (decide_eq_true (by omega))).trans ?_
      refine (ct (decide_eq_true (by omega))).trans ?_
      refine (bs (F110_eq q b hb hl 2 (by omega))).trans ?_
      refine (bs (F110_eq q b hb hl 4 (by omega))).trans ?_
      refine (ct (decide_eq_true (by omega))).trans ?_
      refine (ct (decide_eq_true (by omega))).trans ?_
      exact implF_l q b f t hb hl (by omega) (by omega) hk (q + 4) 0 (Nat.zero_le _) (by omega)
abbrev UnwR : Type := Int × Int × Int × Int × Int × Bool × Bool × Bool × Bool × rgL × u8L × Int × Bool
def noU : UnwR := (0, 0, 0, 0, 0, false, false, false, false, [], [], 0, false)
def uwR (b : u8L) (ad l : Int) : UnwR :=
  cond (frF b && (inB l 0 254 && (a8 b 0 == l || a8 b 0 == 255 && a8 b 1 != l)) && (a8 b 2 == 8) && pkF (midF b) && (n2 (midF b) 2 == ad) && (a8 (midF b) 4 == 6) && (a8 (midF b) 7 == 0) && !(a8 (midF b) 8 % 2 == 1) && sgF ((midF b).drop 12) (n2 (midF b) 0) ad)
    (let s := (midF b).drop 12; (a8 s 0, a8 s 1, n2 s 2, n2 s 4, a8 s 6, a8 s 7 % 2 == 1, a8 s 7 / 2 % 2 == 1, a8 s 7 / 4 % 2 == 1, a8 s 7 / 8 % 2 == 1, rgF s 9 (manyF s), datF s, n2 (midF b) 0, true)) noU
theorem frF_ok {b : u8L} (h : frF b = true) : frOk (a8 b 0) (a8 b 1) (a8 b 2) (midF b) = true ∧ 6 ≤ b.length := by
  unfold frF at h
  simp only [Bool.and_eq_true, decide_eq_true_eq] at h
  exact ⟨h.1.1.2, h.1.1.1⟩
theorem F36_eq (q : Nat) (b : u8L) (ad l : Int) (hb : BOk b) (hl : b.length ≤ 1048576) (hk : 1048576 < q + 4) : F36 (q + 4) b ad l = some (uwR b ad l) := by
  unfold F36 F36_T uwR
  have hm := midF_ok hb
  have ml : (midF b).length ≤ b.length := by unfold midF; rw [List.length_drop, List.length_take]; omega
  refine (bs (F77_eq q b hb hl hk)).trans ?_
  unfold frR
  cases hF : frF b with
  | false => rfl
  | true =>
    simp only [cond_true]
    refine (cf rfl).trans ?_
    refine (bs (F78_eq (q + 4) (a8 b 0) (a8 b 1) (a8 b 2) (midF b) l)).trans ?_
    rw [(frF_ok hF).1, Bool.true_and, Bool.true_and]
    cases (inB l 0 254 && (a8 b 0 == l || a8 b 0 == 255 && a8 b 1 != l)) with
    | false => rfl
    | true =>
      refine (cf rfl).trans ?_
      rw [Bool.true_and, show (a8 b 2 != 8) = !(a8 b 2 == 8) from rfl]
      cases a8 b 2 == 8 with
      | false => rfl
      | true =>
        refine (cf rfl).trans ?_
        refine (bs (F79_eq q (midF b) hm (by omega) hk)).trans ?_
        unfold pkR
        rw [Bool.true_and]
        cases hP : pkF (midF b) with
        | false => rfl
        | true =>
          simp only [cond_true, Bool.true_and]
          refine (cf rfl).trans ?_
          rw [show (n2 (midF b) 2 != ad) = !(n2 (midF b) 2 == ad) from rfl]
          cases n2 (midF b) 2 == ad with
          | false => rfl
          | true =>
            refine (cf rfl).trans ?_
            rw [Bool.true_and, show (a8 (midF b) 4 != 6) = !(a8 (midF b) 4 == 6) from rfl]
            cases a8 (midF b) 4 == 6 with
            | false => rfl
            | true =>
              refine (cf rfl).trans ?_
              rw [Bool.true_and, show (a8 (midF b) 7 != 0) = !(a8 (midF b) 7 == 0) from rfl]
              cases a8 (midF b) 7 == 0 with
              | false => rfl
              | true =>
                refine (cf rfl).trans ?_
                rw [Bool.true_and]
                cases a8 (midF b) 8 % 2 == 1 with
                | true => rfl
                | false =>
                  refine (cf rfl).trans ?_
                  refine (bs (F80_eq q _ (n2 (midF b) 0) ad (hm.drop 12) (by rw [List.length_drop]; omega) hk)).trans ?_
                  unfold sgR
                  cases sgF ((midF b).drop 12) (n2 (midF b) 0) ad <;> rfl
end Go.Proofs.Ytnagpaikjikhaaa.Gn
end

section
namespace Go.Proofs.Ytnagpaikjikhaaa.Gn
open Go.Rf Go.IntWalk
set_option linter.unusedVariables false
set_option linter.unusedSimpArgs false
theorem F60_self (k : Nat) (a : rgL) (h9 : a.length ≤ 4194304) (k9 : a.length < k) : F60 k a a = some true := by
  have := foldLoop a (fun n (_ : Unit) j => F60_l0 k a a n j) (fun s _ => s) (fun _ => true)
    (fun n s j h => by
      simp only [F60_l0, F60_l0_T]
      rw [atI_get a j h, up1 j (by omega), eqD_rng]
      simp [h])
    (fun n s => by simp [F60_l0, F60_l0_T]) k () 0 (Nat.zero_le _) (by omega)
  simp only [F60, F60_T, bne_self_eq_false, cond_false]
  exact this
theorem F18_self (k : Nat) (a0 a1 a2 a3 a4 : Int) (a5 a6 a7 a8 : Bool) (a9 : List (den rng)) (a10 : List (den (.int .u8))) (h9 : a9.length ≤ 4194304) (k9 : a9.length < k) : F18 k a0 a1 a2 a3 a4 a5 a6 a7 a8 a9 a10 a0 a1 a2 a3 a4 a5 a6 a7 a8 a9 a10 = some true := by
  unfold F18 F18_T
  simp only [beq_self_eq_true, cond_true, F60_self k a9 h9 k9, Option.bind_some, F35]
theorem F15_true (k : Nat) (hk : 100 ≤ k) : F15 k = some true := by
  obtain ⟨n, rfl⟩ : ∃ n, k = n + 2 := ⟨k - 2, by omega⟩
  unfold F15 F15_T F58 F58_T
  have h1 : inB 1 1 4 = true := by decide
  have h2 : inB 5 0 (IntKind.i64.wrap ((IntKind.i64.wrap (1 * 2 ^ (min (IntKind.i64.wrap (8 * 1)).toNat 64))) - 1)) = true := by decide
  have h3 : inB 256 0 (IntKind.i64.wrap ((IntKind.i64.wrap (1 * 2 ^ (min (IntKind.i64.wrap (8 * 1)).toNat 64))) - 1)) = false := by decide
  simp only [F45_eq, Option.bind_some, h1, h2, h3]
  rfl
theorem sqk2 {β : Type} (k : Nat) {b : u8L} (hb : BOk b) (hl : b.length ≤ 2000) {p : Int} (hp : 0 ≤ p) (hp2 : p < 999900) {f : Int × u8L × Int → Option β} {Q : β → Prop}
    (h : ∀ x : Int, 0 ≤ x → x ≤ 65535 → Sm (f (x, b, p + 6)) Q) : Sm ((F85 k b p).bind f) Q := by
  refine Sm.bind (P := fun r => 0 ≤ r.1 ∧ r.1 ≤ 65535 ∧ r.2 = (b, p + 6)) ?_ (fun r hr => ?_)
  · unfold F85 F85_T
    refine pk k hb hl (by omega) (by omega) (by omega) fun x1 _ _ => ?_
    dsimp only
    refine pk k hb hl (by omega) (by omega) (by omega) fun x2 _ _ => ?_
    dsimp only
    refine pk k hb hl (by omega) (by omega) (by omega) fun x3 _ _ => ?_
    dsimp only
    refine pk k hb hl (by omega) (by omega) (by omega) fun x4 _ _ => ?_
    dsimp only
    refine pk k hb hl (by omega) (by omega) (by omega) fun x5 _ _ => ?_
    dsimp only
    refine pk k hb hl (by omega) (by omega) (by omega) fun x6 h6 h7 => ?_
    dsimp only
    rw [i64_in (65535 - x2) (by omega), i64_in (32768 + x3) (by omega), i64_in (32768 + x3 - 2) (by omega), i64_in (x4 * 256) (by omega), i64_in (x4 * 256 + x5) (by omega)]
    refine Sm.ct (decide_eq_true h6) (Sm.ct (decide_eq_true (by simp only [List.length_cons, List.length_nil]; omega)) ⟨_, rfl, ?_⟩)
    have hc : x6 = 0 ∨ x6 = 1 ∨ x6 = 2 ∨ x6 = 3 := by omega
    rcases hc with rfl | rfl | rfl | rfl
    · exact ⟨show 0 ≤ x1 by omega, show x1 ≤ 65535 by omega, by simp only [Prod.mk.injEq, true_and]; omega⟩
    · exact ⟨show 0 ≤ 65535 - x2 by omega, show 65535 - x2 ≤ 65535 by omega, by simp only [Prod.mk.injEq, true_and]; omega⟩
    · exact ⟨show 0 ≤ 32768 + x3 - 2 by omega, show 32768 + x3 - 2 ≤ 65535 by omega, by simp only [Prod.mk.injEq, true_and]; omega⟩
    · exact ⟨show 0 ≤ x4 * 256 + x5 by omega, show x4 * 256 + x5 ≤ 65535 by omega, by simp only [Prod.mk.injEq, true_and]; omega⟩
  · obtain ⟨x, y⟩ := r
    obtain ⟨h0, h1, rfl⟩ := hr
    exact h x h0 h1
theorem bytes_l2 (k : Nat) (a0 : u8L) (a1 a2 : Int) {b : u8L} (hb : BOk b) (hl : b.length ≤ 2000) : ∀ (n c : Nat) (p : Int) (m : u8L), c < n → c ≤ 100 → 0 ≤ p → p + 2 * c < 999900 → m.length + c ≤ 1000 → BOk m →
    Sm (F44_l0 k a0 a1 a2 n (c : Int) b p m) fun r => (r.1.length = m.length + c ∧ BOk r.1) ∧ r.2 = (b, p + 2 * c)
  | 0, c, p, m, h, _, _, _, _, _ => by omega
  | n + 1, 0, p, m, h, hc, hp, hp2, hm, hB => by
    rw [F44_l0]
    unfold F44_l0_T
    refine Sm.cf (decide_eq_false (by omega)) ⟨_, rfl, ⟨by simp, hB⟩, ?_⟩
    simp
  | n + 1, c + 1, p, m, h, hc, hp, hp2, hm, hB => by
    rw [F44_l0]
    unfold F44_l0_T
    have e : IntKind.i64.wrap (((c + 1 : Nat) : Int) - 1) = (c : Int) := by rw [i64_in _ (by omega)]; omega
    rw [e]
    have fin : ∀ v : Int, Sm (F44_l0 k a0 a1 a2 n (c : Int) b (p + 1 + 1) (m ++ [u8v v])) fun r => (r.1.length = m.length + (c + 1) ∧ BOk r.1) ∧ r.2 = (b, p + 2 * ((c + 1 : Nat) : Int)) := fun v => by
      obtain ⟨r, e1, ⟨e2, e4⟩, e3⟩ := bytes_l2 k a0 a1 a2 hb hl n c (p + 1 + 1) (m ++ [u8v v]) (by omega) (by omega) (by omega) (by omega) (by
        simp only [List.length_append, List.length_singleton]
        omega) (hB.app BOk.nil.cons)
      refine ⟨r, e1, ⟨by rw [e2]; simp only [List.length_append, List.length_singleton]; omega, e4⟩, ?_⟩
      rw [e3]
      simp only [Prod.mk.injEq, true_and]
      omega
    refine Sm.ct (decide_eq_true (by omega)) ?_
    refine pk k hb hl (by omega) (by omega) (by omega) fun x1 _ _ => ?_
    dsimp only
    refine Sm.cond (fun _ => ?_) (fun _ => ?_)
    · refine pk k hb hl (by omega) (by omega) (by omega) fun x2 _ _ => ?_
      dsimp only
      exact Sm.ct (decide_eq_true (by simp only [List.length_singleton]; omega)) (fin _)
    · refine pk k hb hl (by omega) (by omega) (by omega) fun x2 _ _ => ?_
      dsimp only
      exact Sm.ct (decide_eq_true (by simp only [List.length_singleton]; omega)) (fin _)
theorem btk2 {β : Type} (k : Nat) (hk : 100 < k) {b : u8L} (hb : BOk b) (hl : b.length ≤ 2000) {p n : Int} (hp : 0 ≤ p) (hp2 : p < 999000) (hn : 0 ≤ n ∧ n ≤ 100) {f : u8L × u8L × Int → Option β} {Q : β → Prop}
    (h : ∀ x : u8L, (x.length : Int) = n → BOk x → Sm (f (x, b, p + 2 * n)) Q) : Sm ((F44 k b p n).bind f) Q := by
  obtain ⟨c, rfl⟩ := Int.eq_ofNat_of_zero_le hn.1
  obtain ⟨⟨x, y⟩, e, ⟨e1, e4⟩, e2⟩ := bytes_l2 k b p (c : Int) hb hl k c p [] (by omega) (by omega) (by omega) (by omega) (by simp; omega) BOk.nil
  dsimp only at e1 e2 e4
  subst e2
  rw [show F44 k b p (c : Int) = some (x, b, p + 2 * (c : Int)) from e]
  exact h x (by rw [e1]; simp) e4
theorem odk2 {β : Type} (k : Nat) {b : u8L} (hb : BOk b) (hl : b.length ≤ 2000) {p n : Int} (hp : 0 ≤ p) (hp2 : p < 1000000) {f : Bool × u8L × Int → Option β} {Q : β → Prop}
    (h : ∀ (x : Bool) (p' : Int), p ≤ p' → p' ≤ p + 1 → (n < 1 → x = false) → Sm (f (x, b, p')) Q) : Sm ((F86 k b p n).bind f) Q := by
  unfold F86 F86_T
  by_cases hn : n > 0
  · rw [decide_eq_true hn, cond_true]
    obtain ⟨r, e, _⟩ := pick_ok k b hb hl p n hp (by omega)
    rw [e]
    exact h _ (p + 1) (by omega) (by omega) (by omega)
  · rw [decide_eq_false hn]
    exact h _ _ (by omega) (by omega) (fun _ => rfl)
theorem okS_mk {a0 a1 a2 a3 a4 : Int} {a5 a6 a7 a8 : Bool} {a9 : List (den rng)} {a10 : List (den (.int .u8))} (h0 : 1 ≤ a0 ∧ a0 ≤ 255) (h1 : 1 ≤ a1 ∧ a1 ≤ 255) (h2 : 0 ≤ a2 ∧ a2 ≤ 65535) (h3 : 0 ≤ a3 ∧ a3 ≤ 65535) (h4 : 0 ≤ a4 ∧ a4 ≤ 255) (h9 : a9.length ≤ 2) (h10 : a10.length ≤ 12) (hr : a9.all rgB = true) (hT : okT a3 a4 a5 a6 a7 a8 a9 a10 = true) : okS a0 a1 a2 a3 a4 a5 a6 a7 a8 a9 a10 = true := by
  unfold okS inB
  rw [hr, hT, decide_eq_true h0.1, decide_eq_true h0.2, decide_eq_true h1.1, decide_eq_true h1.2, decide_eq_true h2.1, decide_eq_true h2.2, decide_eq_true h3.1, decide_eq_true h3.2, decide_eq_true h4.1, decide_eq_true h4.2, decide_eq_false (by omega), decide_eq_false (by omega)]
  rfl
theorem zrep_BOk (n : Nat) : BOk (List.replicate n (dflt (.int .u8))) := fun z hz => by
  rw [List.eq_of_mem_replicate hz]
  exact ⟨Int.le_refl _, by decide⟩
def Sd2 (n : Int) (b : u8L) (p q : Int) (r : Int × Int × Int × Int × Int × Bool × Bool × Bool × Bool × rgL × u8L × u8L × Int) : Prop :=
  (-9223372036854775808 ≤ r.2.2.1 ∧ r.2.2.1 ≤ 9223372036854775807) ∧ r.2.2.2.2.2.2.2.2.2.1.length ≤ 2 ∧ r.2.2.2.2.2.2.2.2.2.2.1.length ≤ 14 ∧ BOk r.2.2.2.2.2.2.2.2.2.2.1 ∧
  (n < 1 → okS r.1 r.2.1 r.2.2.1 r.2.2.2.1 r.2.2.2.2.1 r.2.2.2.2.2.1 r.2.2.2.2.2.2.1 r.2.2.2.2.2.2.2.1 r.2.2.2.2.2.2.2.2.1 r.2.2.2.2.2.2.2.2.2.1 r.2.2.2.2.2.2.2.2.2.2.1 = true) ∧
  r.2.2.2.2.2.2.2.2.2.2.2.1 = b ∧ p ≤ r.2.2.2.2.2.2.2.2.2.2.2.2 ∧ r.2.2.2.2.2.2.2.2.2.2.2.2 ≤ q
theorem seg_l2 (k : Nat) (a0 : u8L) (a1 a2 : Int) {b : u8L} (hb : BOk b) (hl : b.length ≤ 2000) (m0 m1 m2 m3 m4 : Int) (m5 m7 : Bool) (m10 : u8L) (h0 : 1 ≤ m0 ∧ m0 ≤ 255) (h1 : 1 ≤ m1 ∧ m1 ≤ 255) (hm2 : 0 ≤ m2 ∧ m2 ≤ 65535) (hm3 : 0 ≤ m3 ∧ m3 ≤ 65535) (hm4 : 0 ≤ m4 ∧ m4 ≤ 255) (hm10 : m10.length ≤ 12) (hB : BOk m10) :
    ∀ (n c : Nat) (p : Int) (m9 : rgL), c < n → c ≤ 2 → 0 ≤ p → p + 12 * c < 990000 → m9.length + c ≤ 2 → m9.all rgB = true →
    Sm (F42_l0 k a0 a1 a2 n (c : Int) b p m0 m1 m2 m3 m4 m5 m7 m9 m10) (Sd2 a2 b p (p + 12 * c + 10))
  | 0, c, p, m9, h, _, _, _, _, _ => by omega
  | n + 1, 0, p, m9, h, hc, hp, hp2, hm, hr => by
    rw [F42_l0]
    unfold F42_l0_T
    refine Sm.cf (decide_eq_false (by omega)) ?_
    refine pk k hb hl (by omega) (by omega) (by omega) fun x8 _ _ => ?_
    dsimp only
    refine Sm.cond (fun _ => ?_) (fun _ => ?_)
    all_goals
      refine odk2 k hb hl (by omega) (by omega) fun xo p' _ _ ho => ?_
      dsimp only
      refine Sm.cond (fun hx => ?_) (fun hx => ?_)
    case refine_1.refine_2 => exact ⟨_, rfl, by dsimp only; omega, by dsimp only; omega, Nat.zero_le _, BOk.nil, fun _ => okS_mk h0 h1 hm2 hm3 hm4 (by omega) (Nat.zero_le _) hr rfl, rfl, by dsimp only; omega, by dsimp only; omega⟩
    case refine_2.refine_2 => exact ⟨_, rfl, by dsimp only; omega, by dsimp only; omega, by dsimp only; omega, hB, fun _ => okS_mk h0 h1 hm2 hm3 hm4 (by omega) hm10 hr rfl, rfl, by dsimp only; omega, by dsimp only; omega⟩
    all_goals
      have hno : ∀ {P : Prop}, (a2 < 1 → P) := fun h => by rw [ho h] at hx; cases hx
      repeat' (first
        | (refine pk k hb hl (by omega) (by omega) (by omega) fun x _ _ => ?_; dsimp only)
        | refine Sm.ct (by rw [decide_eq_true (by omega), decide_eq_true (by omega), decide_eq_true (by omega)]; rfl) ?_
        | refine Sm.cond (fun _ => ?_) (fun _ => ?_))
    all_goals exact ⟨_, rfl, by first | exact wrapR _ | (dsimp only; omega), by dsimp only; omega, by (try simp only [List.length_nil, List.length_replicate]); omega, by first | exact hB | exact BOk.nil | exact zrep_BOk _, hno, rfl, by dsimp only; omega, by dsimp only; omega⟩
  | n + 1, c + 1, p, m9, h, hc, hp, hp2, hm, hr => by
    rw [F42_l0]
    unfold F42_l0_T
    have e : IntKind.i64.wrap (((c + 1 : Nat) : Int) - 1) = (c : Int) := by rw [i64_in _ (by omega)]; omega
    rw [e]
    refine Sm.ct (decide_eq_true (by omega)) ?_
    refine sqk2 k hb hl (by omega) (by omega) fun x hx0 hx1 => ?_
    dsimp only
    refine sqk2 k hb hl (by omega) (by omega) fun y hy0 hy1 => ?_
    dsimp only
    refine Sm.ct (decide_eq_true (by simp only [List.length_singleton]; omega)) ?_
    have hr2 : (m9 ++ [((x, y) : Int × Int)]).all rgB = true := by
      rw [List.all_append, hr, Bool.true_and]
      show (rgB _ && true) = true
      unfold rgB inB
      rw [decide_eq_true hx0, decide_eq_true hx1, decide_eq_true hy0, decide_eq_true hy1]
      rfl
    obtain ⟨r, e1, q1, q2, q3, q4, q5, q6, q7, q8⟩ := seg_l2 k a0 a1 a2 hb hl m0 m1 m2 m3 m4 m5 m7 m10 h0 h1 hm2 hm3 hm4 hm10 hB n c (p + 6 + 6) (m9 ++ [(x, y)]) (by omega) (by omega) (by omega) (by omega) (by simp only [List.length_append, List.length_singleton]; omega) hr2
    exact ⟨r, e1, q1, q2, q3, q4, q5, q6, by omega, by omega⟩
theorem seg_ok2 (k : Nat) (hk : 100 < k) {b : u8L} (hb : BOk b) (hl : b.length ≤ 2000) (p n : Int) (hp : 0 ≤ p) (hp2 : p < 980000) : Sm (F42 k b p n) (Sd2 n b p (p + 100)) := by
  unfold F42 F42_T
  refine pk k hb hl (by omega) (by omega) (by omega) fun x1 _ _ => ?_
  dsimp only
  refine pk k hb hl (by omega) (by omega) (by omega) fun x2 _ _ => ?_
  dsimp only
  refine sqk2 k hb hl (by omega) (by omega) fun x3 _ _ => ?_
  dsimp only
  refine pk k hb hl (by omega) (by omega) (by omega) fun x4 _ _ => ?_
  dsimp only
  refine btk2 k hk hb hl (by omega) (by omega) (by omega) fun x5 _ hB => ?_
  dsimp only
  refine pk k hb hl (by omega) (by omega) (by omega) fun x6 _ _ => ?_
  dsimp only
  refine pk k hb hl (by omega) (by omega) (by omega) fun x7 _ _ => ?_
  dsimp only
  refine pk k hb hl (by omega) (by omega) (by omega) fun x8 _ _ => ?_
  dsimp only
  rw [i64_in (1 + x1) (by omega), i64_in (1 + x2) (by omega)]
  have h0 : 1 ≤ 1 + x1 ∧ 1 + x1 ≤ 255 := by omega
  have h1 : 1 ≤ 1 + x2 ∧ 1 + x2 ≤ 255 := by omega
  generalize 1 + x1 = v1 at *
  generalize 1 + x2 = v2 at *
  refine Sm.cond (fun _ => ?_) (fun _ => ?_)
  · refine sqk2 k hb hl (by omega) (by omega) fun x9 _ _ => ?_
    dsimp only
    refine pk k hb hl (by omega) (by omega) (by omega) fun x10 _ _ => ?_
    dsimp only
    refine pk k hb hl (by omega) (by omega) (by omega) fun x11 h11 h12 => ?_
    dsimp only
    obtain ⟨c, rfl⟩ := Int.eq_ofNat_of_zero_le h11
    obtain ⟨r, e1, q1, q2, q3, q4, q5, q6, q7, q8⟩ := seg_l2 k b p n hb hl v1 v2 x3 x9 x10 (x6 == 0) (x7 == 0) x5 h0 h1 (by omega) (by omega) (by omega) (by omega) hB k c (p + 1 + 1 + 6 + 1 + 2 * x4 + 1 + 1 + 1 + 6 + 1 + 1) [] (by omega) (by omega) (by omega) (by omega) (by simp; omega) rfl
    exact ⟨r, e1, q1, q2, q3, q4, q5, q6, by omega, by omega⟩
  · refine pk k hb hl (by omega) (by omega) (by omega) fun x9 _ _ => ?_
    dsimp only
    have h2 : 0 ≤ x3 ∧ x3 ≤ 65535 := by omega
    have hz : (0 : Int) ≤ 0 ∧ (0 : Int) ≤ 65535 := by omega
    have hz4 : (0 : Int) ≤ 0 ∧ (0 : Int) ≤ 255 := by omega
    have h12 : x5.length ≤ 12 := by omega
    refine Sm.cond (fun _ => ?_) (fun _ => ?_)
    all_goals
      refine odk2 k hb hl (by omega) (by omega) fun xo p' _ _ ho => ?_
      dsimp only
      refine Sm.cond (fun hx => ?_) (fun hx => ?_)
    case refine_1.refine_2 => exact ⟨_, rfl, by dsimp only; omega, Nat.zero_le _, Nat.zero_le _, BOk.nil, fun _ => okS_mk h0 h1 h2 hz hz4 (Nat.zero_le _) (Nat.zero_le _) rfl rfl, rfl, by dsimp only; omega, by dsimp only; omega⟩
    case refine_2.refine_2 => exact ⟨_, rfl, by dsimp only; omega, Nat.zero_le _, by dsimp only; omega, hB, fun _ => okS_mk h0 h1 h2 hz hz4 (Nat.zero_le _) h12 rfl rfl, rfl, by dsimp only; omega, by dsimp only; omega⟩
    all_goals
      have hno : ∀ {P : Prop}, (n < 1 → P) := fun h => by rw [ho h] at hx; cases hx
      repeat' (first
        | (refine pk k hb hl (by omega) (by omega) (by omega) fun x _ _ => ?_; dsimp only)
        | refine Sm.ct (by rw [decide_eq_true (by omega), decide_eq_true (by omega), decide_eq_true (by omega)]; rfl) ?_
        | refine Sm.cond (fun _ => ?_) (fun _ => ?_))
    all_goals exact ⟨_, rfl, by first | exact wrapR _ | (dsimp only; omega), Nat.zero_le _, by (try simp only [List.length_nil, List.length_replicate]); omega, by first | exact hB | exact BOk.nil | exact zrep_BOk _, hno, rfl, by dsimp only; omega, by dsimp only; omega⟩
theorem rt_bools (a5 a6 a7 a8 : Bool) : (u8v (mkS a5 a6 a7 a8) % 2 == 1) = a5 ∧ (u8v (mkS a5 a6 a7 a8) / 2 % 2 == 1) = a6 ∧ (u8v (mkS a5 a6 a7 a8) / 4 % 2 == 1) = a7 ∧ (u8v (mkS a5 a6 a7 a8) / 8 % 2 == 1) = a8 := by
  cases a5 <;> cases a6 <;> cases a7 <;> cases a8 <;> decide
theorem rt_parts (s0 s1 s2 s3 s4 : Int) (s5 s6 s7 s8 : Bool) (s9 : List (den rng)) (s10 : List (den (.int .u8))) (v : Int) (ho : okS s0 s1 s2 s3 s4 s5 s6 s7 s8 s9 s10 = true) : let S := bdS s0 s1 s2 s3 s4 s5 s6 s7 s8 s9 s10 ++ by2 v
    a8 S 0 = s0 ∧ a8 S 1 = s1 ∧ n2 S 2 = s2 ∧ n2 S 4 = s3 ∧ a8 S 6 = s4 ∧ a8 S 7 = u8v (mkS s5 s6 s7 s8) ∧ manyF S = s9.length ∧ rgF S 9 s9.length = s9 ∧ datF S = s10 := by
  intro S
  obtain ⟨q0, q1, q2, q3, q4, q9, q10, _⟩ := okS_all ho
  have e0 : u8v s0 = s0 := u8W _ (by omega)
  have e1 : u8v s1 = s1 := u8W _ (by omega)
  have e4 : u8v s4 = s4 := u8W _ (by omega)
  have e9 : u8v ((s9.length : Nat) : Int) = ((s9.length : Nat) : Int) := u8W _ (by omega)
  have f0 : a8 S 0 = s0 := e0
  have f1 : a8 S 1 = s1 := e1
  have f2 : n2 S 2 = s2 := by show s2 / 256 * 256 + s2 % 256 = s2; omega
  have f3 : n2 S 4 = s3 := by show s3 / 256 * 256 + s3 % 256 = s3; omega
  have f6 : a8 S 6 = s4 := e4
  have f7 : a8 S 7 = u8v (mkS s5 s6 s7 s8) := rfl
  have f8 : a8 S 8 = ((s9.length : Nat) : Int) := e9
  have fm : manyF S = s9.length := by unfold manyF; rw [f8]; rfl
  refine ⟨f0, f1, f2, f3, f6, f7, fm, ?_, ?_⟩
  · rcases h9 : s9 with _ | ⟨⟨x, y⟩, _ | ⟨⟨x', y'⟩, _ | ⟨z, l⟩⟩⟩
    · rfl
    · subst h9
      have g1 : n2 S 9 = x := by show @HDiv.hDiv Int Int Int _ x 256 * 256 + @HMod.hMod Int Int Int _ x 256 = x; omega
      have g2 : n2 S 11 = y := by show @HDiv.hDiv Int Int Int _ y 256 * 256 + @HMod.hMod Int Int Int _ y 256 = y; omega
      show [(n2 S 9, n2 S 11)] = [(x, y)]
      rw [g1, g2]
    · subst h9
      have g1 : n2 S 9 = x := by show @HDiv.hDiv Int Int Int _ x 256 * 256 + @HMod.hMod Int Int Int _ x 256 = x; omega
      have g2 : n2 S 11 = y := by show @HDiv.hDiv Int Int Int _ y 256 * 256 + @HMod.hMod Int Int Int _ y 256 = y; omega
      have g3 : n2 S 13 = x' := by show @HDiv.hDiv Int Int Int _ x' 256 * 256 + @HMod.hMod Int Int Int _ x' 256 = x'; omega
      have g4 : n2 S 15 = y' := by show @HDiv.hDiv Int Int Int _ y' 256 * 256 + @HMod.hMod Int Int Int _ y' 256 = y'; omega
      show [(n2 S 9, n2 S 11), (n2 S 13, n2 S 15)] = [(x, y), (x', y')]
      rw [g1, g2, g3, g4]
    · rw [h9] at q9
      simp only [List.length_cons] at q9
      omega
  · unfold datF
    rw [fm]
    have hS : S = (hdS s0 s1 s2 s3 s4 s5 s6 s7 s8 s9 s10 ++ rgsB s9 ++ [u8v ((s10.length : Nat) : Int)]) ++ s10 ++ by2 v := rfl
    have hX : (hdS s0 s1 s2 s3 s4 s5 s6 s7 s8 s9 s10 ++ rgsB s9 ++ [u8v ((s10.length : Nat) : Int)]).length = 9 + 4 * s9.length + 1 := by
      rw [List.length_append, List.length_append, rgsB_len]; rfl
    have hl : S.length - 2 = ((hdS s0 s1 s2 s3 s4 s5 s6 s7 s8 s9 s10 ++ rgsB s9 ++ [u8v ((s10.length : Nat) : Int)]) ++ s10).length := by
      rw [hS, show ∀ X : u8L, (X ++ by2 v).length = X.length + 2 from fun X => by rw [List.length_append]; rfl]; omega
    rw [hl, hS, List.take_left, ← hX, List.drop_left]
theorem sgF_rt (s0 s1 s2 s3 s4 : Int) (s5 s6 s7 s8 : Bool) (s9 : List (den rng)) (s10 : List (den (.int .u8))) (f t : Int) (hb : BOk s10) (ho : okS s0 s1 s2 s3 s4 s5 s6 s7 s8 s9 s10 = true) (hf : 0 ≤ f ∧ f ≤ 65535) (ht : 0 ≤ t ∧ t ≤ 65535) : sgR (sgB s0 s1 s2 s3 s4 s5 s6 s7 s8 s9 s10 f t) f t = (s0, s1, s2, s3, s4, s5, s6, s7, s8, s9, s10, true) := by
  obtain ⟨sB, sL⟩ := sgB_ok s0 s1 s2 s3 s4 s5 s6 s7 s8 s9 s10 f t hb
  obtain ⟨bB, bL⟩ := bdS_ok s0 s1 s2 s3 s4 s5 s6 s7 s8 s9 s10 ho hb
  have iF : inB f 0 65535 = true := by unfold inB; rw [decide_eq_true hf.1, decide_eq_true hf.2]; rfl
  have iT : inB t 0 65535 = true := by unfold inB; rw [decide_eq_true ht.1, decide_eq_true ht.2]; rfl
  have e : sgB s0 s1 s2 s3 s4 s5 s6 s7 s8 s9 s10 f t = bdS s0 s1 s2 s3 s4 s5 s6 s7 s8 s9 s10 ++ by2 (sumV (by2 f ++ by2 t ++ bdS s0 s1 s2 s3 s4 s5 s6 s7 s8 s9 s10)) := by
    unfold sgB
    rw [ho, iF, iT]; rfl
  obtain ⟨f0, f1, f2, f3, f6, f7, fm, fr, fd⟩ := rt_parts s0 s1 s2 s3 s4 s5 s6 s7 s8 s9 s10 (sumV (by2 f ++ by2 t ++ bdS s0 s1 s2 s3 s4 s5 s6 s7 s8 s9 s10)) ho
  rw [← e] at f0 f1 f2 f3 f6 f7 fm fr fd
  obtain ⟨t5, t6, t7, t8⟩ := rt_bools s5 s6 s7 s8
  have hlen : (sgB s0 s1 s2 s3 s4 s5 s6 s7 s8 s9 s10 f t).length = 12 + 4 * s9.length + s10.length := by
    rw [e, List.length_append, by2_len]
    unfold bdS
    rw [List.length_append, List.length_append, List.length_append, rgsB_len]
    show 9 + 4 * s9.length + 1 + s10.length + 2 = _
    omega
  have key := sgB_iff (sgB s0 s1 s2 s3 s4 s5 s6 s7 s8 s9 s10 f t) sB f t (by omega) (by omega)
  rw [f0, f1, f2, f3, f6, f7, fm, fr, fd, t5, t6, t7, t8, decide_eq_true rfl] at key
  unfold sgR
  rw [← key, f0, f1, f2, f3, f6, f7, fm, fr, fd, t5, t6, t7, t8]
  rfl
theorem pkR_rt (p0 p1 p2 : Int) (p8 : u8L) (hb : BOk p8) (h0 : 0 ≤ p0 ∧ p0 ≤ 65535) (h1 : 0 ≤ p1 ∧ p1 ≤ 65535) (h2 : 0 ≤ p2 ∧ p2 ≤ 255) (h8 : p8.length ≤ 48) : pkR (pkB p0 p1 p2 64 0 0 false false p8) = (p0, p1, p2, 64, 0, 0, false, false, p8, true) := by
  have ho : pkOk p0 p1 p2 64 0 0 false false p8 = true := by
    unfold pkOk inB
    rw [decide_eq_true h0.1, decide_eq_true h0.2, decide_eq_true h1.1, decide_eq_true h1.2, decide_eq_true h2.1, decide_eq_true h2.2, decide_eq_true (show ((p8.length : Nat) : Int) ≤ 48 by omega)]
    rfl
  have hB := hdP_ok p2 64 0 0 false false p8 h0 h1
  have v := sumV_in hB
  have e : pkB p0 p1 p2 64 0 0 false false p8 = hdP p0 p1 p2 64 0 0 false false p8 ++ by2 (sumV (hdP p0 p1 p2 64 0 0 false false p8)) ++ p8 := by
    unfold pkB; rw [ho]; rfl
  have g0 : n2 (pkB p0 p1 p2 64 0 0 false false p8) 0 = p0 := by rw [e]; show p0 / 256 * 256 + p0 % 256 = p0; omega
  have g2 : n2 (pkB p0 p1 p2 64 0 0 false false p8) 2 = p1 := by rw [e]; show p1 / 256 * 256 + p1 % 256 = p1; omega
  have g4 : a8 (pkB p0 p1 p2 64 0 0 false false p8) 4 = p2 := by rw [e]; exact u8W p2 h2
  have g5 : a8 (pkB p0 p1 p2 64 0 0 false false p8) 5 = 64 := by rw [e]; rfl
  have g6 : a8 (pkB p0 p1 p2 64 0 0 false false p8) 6 = 0 := by rw [e]; rfl
  have g7 : a8 (pkB p0 p1 p2 64 0 0 false false p8) 7 = 0 := by rw [e]; rfl
  have g8 : a8 (pkB p0 p1 p2 64 0 0 false false p8) 8 = 0 := by rw [e]; rfl
  have g9 : a8 (pkB p0 p1 p2 64 0 0 false false p8) 9 = ((p8.length : Nat) : Int) := by rw [e]; exact u8W _ (by omega)
  have g10 : n2 (pkB p0 p1 p2 64 0 0 false false p8) 10 = sumV (hdP p0 p1 p2 64 0 0 false false p8) := by
    rw [e]; show sumV _ / 256 * 256 + sumV _ % 256 = _; omega
  have gt : (pkB p0 p1 p2 64 0 0 false false p8).take 10 = hdP p0 p1 p2 64 0 0 false false p8 := by rw [e]; rfl
  have gd : (pkB p0 p1 p2 64 0 0 false false p8).drop 12 = p8 := by rw [e]; rfl
  have gl : (pkB p0 p1 p2 64 0 0 false false p8).length = 12 + p8.length := by
    rw [e, List.length_append]; rfl
  unfold pkR pkF
  rw [g0, g2, g4, g5, g6, g7, g8, g9, g10, gt, gd, gl, decide_eq_true (by omega : 12 ≤ 12 + p8.length), show 12 + p8.length - 12 = p8.length by omega]
  have h02 : ((0 : Int) % 2 == 1) = false := rfl
  have h20 : decide ((2 : Int) ≤ 0) = false := rfl
  rw [h02, h20, ho]
  unfold fits
  simp
theorem frR_rt (f0 f1 f2 : Int) (f3 : u8L) (hb : BOk f3) (ho : frOk f0 f1 f2 f3 = true) : frR (frB f0 f1 f2 f3) = (f0, f1, f2, f3, true) ∧ frF (frB f0 f1 f2 f3) = true ∧ a8 (frB f0 f1 f2 f3) 0 = f0 ∧ a8 (frB f0 f1 f2 f3) 1 = f1 ∧ a8 (frB f0 f1 f2 f3) 2 = f2 ∧ midF (frB f0 f1 f2 f3) = f3 ∧ (frB f0 f1 f2 f3).length = f3.length + 6 := by
  have h : (0 ≤ f0 ∧ f0 ≤ 255) ∧ (0 ≤ f1 ∧ f1 ≤ 254) ∧ (0 ≤ f2 ∧ f2 ≤ 255) ∧ f3.length ≤ 64 := by
    simp only [frOk, inB, Bool.and_eq_true, decide_eq_true_eq] at ho
    omega
  have e : frB f0 f1 f2 f3 = hdF f0 f1 f2 f3 ++ by2 (sumV (hdF f0 f1 f2 f3)) := by
    unfold frB; rw [ho]; rfl
  have gl : (frB f0 f1 f2 f3).length = f3.length + 6 := by rw [e, List.length_append, hdF_len, by2_len]
  have g0 : a8 (frB f0 f1 f2 f3) 0 = f0 := by rw [e]; exact u8W _ (by omega)
  have g1 : a8 (frB f0 f1 f2 f3) 1 = f1 := by rw [e]; exact u8W _ (by omega)
  have g2 : a8 (frB f0 f1 f2 f3) 2 = f2 := by rw [e]; exact u8W _ (by omega)
  have gm : midF (frB f0 f1 f2 f3) = f3 := by
    unfold midF
    rw [gl, e, show f3.length + 6 - 2 = (hdF f0 f1 f2 f3).length by rw [hdF_len]; omega, List.take_left]
    rfl
  have hF : frF (frB f0 f1 f2 f3) = true := by
    rw [← frB_iff _ (frB_ok f0 f1 f2 hb).1 (by omega), g0, g1, g2, gm]
    exact decide_eq_true rfl
  refine ⟨?_, hF, g0, g1, g2, gm, gl⟩
  unfold frR
  rw [hF, g0, g1, g2, gm]; rfl
def wsm : u8L → Int
  | [] => 0
  | [x] => @HMul.hMul Int Int Int _ x 256
  | x :: y :: r => @HMul.hMul Int Int Int _ x 256 + y + wsm r
theorem red_mod (n : Int) : ∃ m : Int, red n = n - 65535 * m := by
  unfold red
  split
  · exact ⟨1, by omega⟩
  · exact ⟨0, by omega⟩
theorem smV_mod : ∀ (l : u8L) (s : Int), ∃ m : Int, smV s l = s + wsm l - 65535 * m
  | [], s => ⟨0, by rw [smV, wsm]; omega⟩
  | [x], s => by
    obtain ⟨m, h⟩ := red_mod (s + @HMul.hMul Int Int Int _ x 256)
    exact ⟨m, by rw [smV, wsm]; exact h⟩
  | x :: y :: r, s => by
    obtain ⟨m, h⟩ := red_mod (s + (@HMul.hMul Int Int Int _ x 256 + y))
    obtain ⟨m', h'⟩ := smV_mod r (red (s + (@HMul.hMul Int Int Int _ x 256 + y)))
    refine ⟨m + m', ?_⟩
    rw [smV, wsm]
    rw [h] at h'
    rw [Int.mul_add]
    have h' : smV (red (s + (@HMul.hMul Int Int Int _ x 256 + y))) r = s + (@HMul.hMul Int Int Int _ x 256 + y) - 65535 * m + wsm r - 65535 * m' := by rw [h]; exact h'
    rw [h']
    omega
theorem wsm_set : ∀ (l : u8L) (k : Nat) (v : Int) (h : k < l.length), wsm (l.set k v) = wsm l + (v - a8 l k) * (if k % 2 = 0 then 256 else 1)
  | [], k, v, h => by simp at h
  | [x], 0, v, h => by
    have e : a8 [x] 0 = x := rfl
    rw [e]
    show v * 256 = @HMul.hMul Int Int Int _ x 256 + (v - x) * 256
    rw [Int.sub_mul]
    omega
  | [x], k + 1, v, h => by simp at h
  | x :: y :: r, 0, v, h => by
    have e : a8 (x :: y :: r) 0 = x := rfl
    rw [e]
    show v * 256 + y + wsm r = @HMul.hMul Int Int Int _ x 256 + y + wsm r + (v - x) * 256
    rw [Int.sub_mul]
    omega
  | x :: y :: r, 1, v, h => by
    have e : a8 (x :: y :: r) 1 = y := rfl
    rw [e]
    show @HMul.hMul Int Int Int _ x 256 + v + wsm r = @HMul.hMul Int Int Int _ x 256 + y + wsm r + (v - y) * 1
    omega
  | x :: y :: r, k + 2, v, h => by
    have e : a8 (x :: y :: r) (k + 2) = a8 r k := rfl
    have ih := wsm_set r k v (by simpa using h)
    rw [e, show (k + 2) % 2 = k % 2 by omega]
    show @HMul.hMul Int Int Int _ x 256 + y + wsm (r.set k v) = @HMul.hMul Int Int Int _ x 256 + y + wsm r + _
    rw [ih]
    omega
theorem xor32 (v : Int) (h : 0 ≤ v ∧ v ≤ 255) : (0 ≤ bitsOf .xor .u8 v 32 ∧ bitsOf .xor .u8 v 32 ≤ 255) ∧ (bitsOf .xor .u8 v 32 = v + 32 ∨ bitsOf .xor .u8 v 32 = v - 32) := by
  have key : ∀ w : Fin 256, (0 ≤ bitsOf .xor .u8 (w.val : Int) 32 ∧ bitsOf .xor .u8 (w.val : Int) 32 ≤ 255) ∧ (bitsOf .xor .u8 (w.val : Int) 32 = (w.val : Int) + 32 ∨ bitsOf .xor .u8 (w.val : Int) 32 = (w.val : Int) - 32) := by decide +kernel
  obtain ⟨n, rfl⟩ := Int.eq_ofNat_of_zero_le h.1
  exact key ⟨n, by omega⟩
theorem a8_set (b : u8L) (k : Nat) (v : Int) (h : k < b.length) (j : Nat) (hj : j < b.length) : a8 (b.set k v) j = if k = j then v else a8 b j := by
  unfold a8
  rw [atI_get _ j (by rw [List.length_set]; exact hj), atI_get b j hj, List.getElem_set]
theorem frF_sum {b : u8L} (h : frF b = true) : n2 b (b.length - 2) = sumV (b.take (b.length - 2)) ∧ a8 b 3 = (((midF b).length : Nat) : Int) := by
  unfold frF at h
  simp only [Bool.and_eq_true, beq_iff_eq] at h
  exact ⟨h.2, h.1.2⟩
theorem frF_flip {b : u8L} (hb : BOk b) (h : frF b = true) (k : Nat) (hk : k < b.length) : frF (b.set k (bitsOf .xor .u8 (a8 b k) 32)) = false := by
  obtain ⟨x1, x2⟩ := xor32 (a8 b k) (a8_in hb hk)
  generalize bitsOf .xor .u8 (a8 b k) 32 = v at *
  have h6 := (frF_ok h).2
  have hs := (frF_sum h).1
  have hl : (b.set k v).length = b.length := List.length_set
  cases hc : frF (b.set k v) with
  | false => rfl
  | true =>
    exfalso
    have hs2 := (frF_sum hc).1
    rw [hl] at hs2
    unfold n2 at hs hs2
    rw [a8_set b k v hk _ (by omega), a8_set b k v hk _ (by omega)] at hs2
    rcases Nat.lt_or_ge k (b.length - 2) with hlt | hge
    · rw [if_neg (by omega), if_neg (by omega)] at hs2
      rw [List.take_set] at hs2
      have hk2 : k < (b.take (b.length - 2)).length := by rw [List.length_take]; omega
      have w := wsm_set (b.take (b.length - 2)) k v hk2
      have e8 : a8 (b.take (b.length - 2)) k = a8 b k := by
        unfold a8
        rw [atI_get _ k hk2, atI_get b k hk, List.getElem_take]
      rw [e8] at w
      obtain ⟨m1, g1⟩ := smV_mod (b.take (b.length - 2)) 0
      obtain ⟨m2, g2⟩ := smV_mod ((b.take (b.length - 2)).set k v) 0
      unfold sumV at hs hs2
      by_cases hp : k % 2 = 0
      · rw [if_pos hp] at w
        omega
      · rw [if_neg hp] at w
        omega
    · rw [List.take_set, List.set_eq_of_length_le (by rw [List.length_take]; omega)] at hs2
      rcases (by omega : k = b.length - 2 ∨ k = b.length - 2 + 1) with e | e
      · rw [if_pos e, if_neg (by omega)] at hs2
        rw [e] at x2
        omega
      · rw [if_neg (by omega), if_pos e] at hs2
        rw [e] at x2
        omega
theorem uwR_no {b : u8L} (ad l : Int) (h : frF b = false) : uwR b ad l = noU := by
  unfold uwR; rw [h]; rfl
end Go.Proofs.Ytnagpaikjikhaaa.Gn
end

section
namespace Go.Proofs.Ytnagpaikjikhaaa.Gn
open Go.Rf Go.IntWalk
set_option linter.unusedVariables false
set_option linter.unusedSimpArgs false
theorem wrB_some (s0 s1 s2 s3 s4 : Int) (s5 s6 s7 s8 : Bool) (s9 : List (den rng)) (s10 : List (den (.int .u8))) (f t l o : Int) (hb : BOk s10) (ho : okS s0 s1 s2 s3 s4 s5 s6 s7 s8 s9 s10 = true) (hf : 0 ≤ f ∧ f ≤ 65535) (ht : 0 ≤ t ∧ t ≤ 65535) (hl : 0 ≤ l ∧ l ≤ 254) (hh : 0 ≤ o ∧ o ≤ 255) :
    wrB s0 s1 s2 s3 s4 s5 s6 s7 s8 s9 s10 f t l o = frB o l 8 (pkB f t 6 64 0 0 false false (sgB s0 s1 s2 s3 s4 s5 s6 s7 s8 s9 s10 f t)) ∧ frOk o l 8 (pkB f t 6 64 0 0 false false (sgB s0 s1 s2 s3 s4 s5 s6 s7 s8 s9 s10 f t)) = true ∧ (sgB s0 s1 s2 s3 s4 s5 s6 s7 s8 s9 s10 f t).length ≤ 48 := by
  obtain ⟨sB, sL⟩ := sgB_ok s0 s1 s2 s3 s4 s5 s6 s7 s8 s9 s10 f t hb
  have iF : inB f 0 65535 = true := by unfold inB; rw [decide_eq_true hf.1, decide_eq_true hf.2]; rfl
  have iT : inB t 0 65535 = true := by unfold inB; rw [decide_eq_true ht.1, decide_eq_true ht.2]; rfl
  have e : sgB s0 s1 s2 s3 s4 s5 s6 s7 s8 s9 s10 f t = bdS s0 s1 s2 s3 s4 s5 s6 s7 s8 s9 s10 ++ by2 (sumV (by2 f ++ by2 t ++ bdS s0 s1 s2 s3 s4 s5 s6 s7 s8 s9 s10)) := by
    unfold sgB
    rw [ho, iF, iT]; rfl
  have hlen : 2 ≤ (sgB s0 s1 s2 s3 s4 s5 s6 s7 s8 s9 s10 f t).length := by
    rw [e, List.length_append, by2_len]; omega
  have pL := (pkB_ok f t 6 64 0 0 false false sB).2
  refine ⟨?_, ?_, by omega⟩
  · unfold wrB
    rw [show (((sgB s0 s1 s2 s3 s4 s5 s6 s7 s8 s9 s10 f t).length : Int) == 0) = false from beq_eq_false_iff_ne.2 (by omega)]
    rfl
  · unfold frOk inB
    rw [decide_eq_true hh.1, decide_eq_true hh.2, decide_eq_true hl.1, decide_eq_true hl.2, decide_eq_true (show (((pkB f t 6 64 0 0 false false (sgB s0 s1 s2 s3 s4 s5 s6 s7 s8 s9 s10 f t)).length : Nat) : Int) ≤ 64 by omega)]
    rfl
theorem BOk.set {b : u8L} (hb : BOk b) (k : Nat) (v : Int) : BOk (b.set k (u8v v)) := fun z hz => by
  rcases List.mem_or_eq_of_mem_set hz with h | h
  · exact hb z h
  · exact (BOk.cons (v := v) BOk.nil) z (by rw [h]; exact List.mem_cons_self ..)
theorem sm_true {o : Option Bool} (h : Sm o fun r => r = true) : o = some true := by
  obtain ⟨r, e, rfl⟩ := h
  exact e
end Go.Proofs.Ytnagpaikjikhaaa.Gn
end

section
namespace Go.Proofs.Ytnagpaikjikhaaa.Gn
open Go.Rf Go.IntWalk
set_option linter.unusedVariables false
set_option linter.unusedSimpArgs false
theorem drawW_ok (k : Nat) (hk : 100 < k) (a0 : u8L) (hb : BOk a0) : Sm (F34 k a0) fun r => (r.2.2.2.2.2.2.2.2.2.1.length ≤ 2 ∧ r.2.2.2.2.2.2.2.2.2.2.1.length ≤ 14 ∧ BOk r.2.2.2.2.2.2.2.2.2.2.1) ∧
    (0 ≤ r.2.2.2.2.2.2.2.2.2.2.2.1 ∧ r.2.2.2.2.2.2.2.2.2.2.2.1 ≤ 4) ∧ (0 ≤ r.2.2.2.2.2.2.2.2.2.2.2.2.1 ∧ r.2.2.2.2.2.2.2.2.2.2.2.2.1 ≤ 4) ∧ (0 ≤ r.2.2.2.2.2.2.2.2.2.2.2.2.2.1 ∧ r.2.2.2.2.2.2.2.2.2.2.2.2.2.1 ≤ 300) ∧ (0 ≤ r.2.2.2.2.2.2.2.2.2.2.2.2.2.2 ∧ r.2.2.2.2.2.2.2.2.2.2.2.2.2.2 ≤ 3) := by
  unfold F34 F34_T
  obtain ⟨b, e, hb', hl⟩ := open_ok k a0 hb
  rw [e, Option.bind_some]
  dsimp only
  refine Sm.bind (seg_ok2 k hk hb' hl 0 12 (by omega) (by omega)) fun r hr => ?_
  obtain ⟨s0, s1, s2, s3, s4, s5, s6, s7, s8, s9, s10, r11, r12⟩ := r
  obtain ⟨q1, q2, q3, q4, q5, q6, q7, q8⟩ := hr
  dsimp only at q1 q2 q3 q4 q5 q6 q7 q8
  subst q6
  dsimp only
  refine pk k hb' hl (by omega) (by omega) (by omega) fun x1 _ _ => ?_
  dsimp only
  refine pk k hb' hl (by omega) (by omega) (by omega) fun x2 _ _ => ?_
  dsimp only
  refine pk k hb' hl (by omega) (by omega) (by omega) fun x3 _ _ => ?_
  dsimp only
  refine pk k hb' hl (by omega) (by omega) (by omega) fun x4 h0 h1 => ?_
  dsimp only
  refine pk k hb' hl (by omega) (by omega) (by omega) fun x5 _ _ => ?_
  have d : x4.tdiv 19 = x4 / 19 := Int.tdiv_eq_ediv_of_nonneg h0
  refine ⟨_, rfl, ⟨q2, q3, q4⟩, ?_⟩
  dsimp only
  rw [d, i64_in (x4 / 19) (by omega), i64_in (x4 / 19 * 255) (by omega), i64_in _ (by omega)]
  omega
theorem pkR_parts {P : u8L} {p0 p1 p2 p3 p4 p5 : Int} {p6 p7 : Bool} {p8 : u8L} (h : pkR P = (p0, p1, p2, p3, p4, p5, p6, p7, p8, true)) : pkF P = true ∧ n2 P 0 = p0 ∧ n2 P 2 = p1 ∧ a8 P 4 = p2 ∧ a8 P 7 = p5 ∧ (a8 P 8 % 2 == 1) = p6 ∧ P.drop 12 = p8 := by
  unfold pkR at h
  cases hp : pkF P with
  | false => rw [hp] at h; simp only [cond_false, Prod.mk.injEq] at h; simp at h
  | true =>
    rw [hp] at h
    simp only [cond_true, Prod.mk.injEq, and_true] at h
    obtain ⟨h0, h1, h2, h3, h4, h5, h6, h7, h8⟩ := h
    exact ⟨rfl, h0, h1, h2, h5, h6, h8⟩
theorem sgR_true {S : u8L} {f t : Int} (h : (sgR S f t).2.2.2.2.2.2.2.2.2.2.2 = true) : sgF S f t = true := by
  unfold sgR at h
  cases hs : sgF S f t with
  | false => rw [hs] at h; cases h
  | true => rfl
theorem uwR_cut (b : u8L) (ad l : Int) (hF : frF b = true) (hL : (inB l 0 254 && (a8 b 0 == l || a8 b 0 == 255 && a8 b 1 != l)) = true) (h2 : a8 b 2 = 8) {f p3 p4 : Int} {p7 : Bool} {S : u8L} (hp : pkR (midF b) = (f, ad, 6, p3, p4, 0, false, p7, S, true)) (hs : (sgR S f ad).2.2.2.2.2.2.2.2.2.2.2 = true) :
    uwR b ad l = ((sgR S f ad).1, (sgR S f ad).2.1, (sgR S f ad).2.2.1, (sgR S f ad).2.2.2.1, (sgR S f ad).2.2.2.2.1, (sgR S f ad).2.2.2.2.2.1, (sgR S f ad).2.2.2.2.2.2.1, (sgR S f ad).2.2.2.2.2.2.2.1, (sgR S f ad).2.2.2.2.2.2.2.2.1, (sgR S f ad).2.2.2.2.2.2.2.2.2.1, (sgR S f ad).2.2.2.2.2.2.2.2.2.2.1, f, true) := by
  obtain ⟨hP, g0, g2, g4, g7, g8, gd⟩ := pkR_parts hp
  have hS := sgR_true hs
  unfold uwR sgR
  rw [hF, hL, h2, hP, g0, g2, g4, g7, g8, gd, hS, beq_iff_eq.2 (rfl : ad = ad)]
  rfl
theorem uwR_rt (s0 s1 s2 s3 s4 : Int) (s5 s6 s7 s8 : Bool) (s9 : List (den rng)) (s10 : List (den (.int .u8))) (f t l o : Int) (hb : BOk s10) (ho : okS s0 s1 s2 s3 s4 s5 s6 s7 s8 s9 s10 = true) (hf : 0 ≤ f ∧ f ≤ 4) (ht : 0 ≤ t ∧ t ≤ 4) (hl : 0 ≤ l ∧ l ≤ 254) (hh : 0 ≤ o ∧ o ≤ 3) :
    frF (wrB s0 s1 s2 s3 s4 s5 s6 s7 s8 s9 s10 f t l o) = true ∧ uwR (wrB s0 s1 s2 s3 s4 s5 s6 s7 s8 s9 s10 f t l o) t o = (s0, s1, s2, s3, s4, s5, s6, s7, s8, s9, s10, f, true) ∧ uwR (wrB s0 s1 s2 s3 s4 s5 s6 s7 s8 s9 s10 f t l o) t (o + 1) = noU ∧ uwR (wrB s0 s1 s2 s3 s4 s5 s6 s7 s8 s9 s10 f t l o) (t + 1) o = noU := by
  obtain ⟨w1, w2, w3⟩ := wrB_some s0 s1 s2 s3 s4 s5 s6 s7 s8 s9 s10 f t l o hb ho (by omega) (by omega) hl (by omega)
  have sB := (sgB_ok s0 s1 s2 s3 s4 s5 s6 s7 s8 s9 s10 f t hb).1
  have pB := (pkB_ok f t 6 64 0 0 false false sB).1
  obtain ⟨_, hF, g0, g1, g2, gm, gl⟩ := frR_rt o l 8 _ pB w2
  rw [← w1] at hF g0 g1 g2 gm gl
  have hp := pkR_rt f t 6 (sgB s0 s1 s2 s3 s4 s5 s6 s7 s8 s9 s10 f t) sB (by omega) (by omega) (by omega) w3
  have hs := sgF_rt s0 s1 s2 s3 s4 s5 s6 s7 s8 s9 s10 f t hb ho (by omega) (by omega)
  obtain ⟨hP, n0, n2', n4, n7, n8, nd⟩ := pkR_parts hp
  generalize wrB s0 s1 s2 s3 s4 s5 s6 s7 s8 s9 s10 f t l o = g at *
  have iO : inB o 0 254 = true := by unfold inB; rw [decide_eq_true hh.1, decide_eq_true (by omega)]; rfl
  refine ⟨hF, ?_, ?_, ?_⟩
  · rw [uwR_cut g t o hF (by rw [iO, g0]; simp) g2 (gm ▸ hp) (by rw [hs]), hs]
  · unfold uwR
    rw [g0, beq_eq_false_iff_ne.2 (show o ≠ o + 1 by omega), beq_eq_false_iff_ne.2 (show o ≠ 255 by omega)]
    simp only [Bool.false_and, Bool.or_false, Bool.and_false, cond_false]
  · unfold uwR
    rw [gm, n2', beq_eq_false_iff_ne.2 (show t ≠ t + 1 by omega)]
    simp only [Bool.false_and, Bool.and_false, cond_false]
theorem wrB_none (s0 s1 s2 s3 s4 : Int) (s5 s6 s7 s8 : Bool) (s9 : List (den rng)) (s10 : List (den (.int .u8))) (f t l o : Int) (h : okS s0 s1 s2 s3 s4 s5 s6 s7 s8 s9 s10 = false ∨ 255 ≤ l) : wrB s0 s1 s2 s3 s4 s5 s6 s7 s8 s9 s10 f t l o = [] := by
  unfold wrB
  rcases h with h | h
  · have e : sgB s0 s1 s2 s3 s4 s5 s6 s7 s8 s9 s10 f t = [] := by unfold sgB; rw [h]; rfl
    rw [e]; rfl
  · cases (((sgB s0 s1 s2 s3 s4 s5 s6 s7 s8 s9 s10 f t).length : Int) == 0) with
    | true => rfl
    | false =>
      rw [cond_false]
      unfold frB
      rw [show frOk o l 8 (pkB f t 6 64 0 0 false false (sgB s0 s1 s2 s3 s4 s5 s6 s7 s8 s9 s10 f t)) = false by unfold frOk inB; rw [decide_eq_false (show ¬ l ≤ 254 by omega)]; simp]
      rfl
theorem flip_l (n : Nat) (a0 : u8L) (s0 s1 s2 s3 s4 : Int) (s5 s6 s7 s8 : Bool) (s9 : List (den rng)) (s10 : List (den (.int .u8))) (f t o : Int) (g : u8L) (h9 : s9.length ≤ 1048576) (gB : BOk g) (gF : frF g = true) (gL : g.length ≤ 70) (hk : 1048576 < n + 4) : ∀ (m j : Nat), j ≤ g.length → g.length - j < m →
    F7_l0 (n + 4) a0 m f t o f true false false (j : Int) s0 s1 s2 s3 s4 s5 s6 s7 s8 s9 s10 s0 s1 s2 s3 s4 s5 s6 s7 s8 s9 s10 g = some true
  | 0, j, _, h => by omega
  | m + 1, j, hj, h => by
    rw [F7_l0]
    unfold F7_l0_T
    rw [List.nil_append, up1 j (by omega), Int.toNat_natCast]
    rcases Nat.lt_or_ge j g.length with hlt | hge
    · have x := (xor32 (a8 g j) (a8_in gB hlt)).1
      have hB : BOk (g.set j (bitsOf .xor .u8 (a8 g j) 32)) := fun z hz => by
        rcases List.mem_or_eq_of_mem_set hz with h | h
        · exact gB z h
        · rw [h]; exact x
      refine (ct (decide_eq_true (by omega))).trans ?_
      refine (ct (decide_eq_true (by rw [List.length_nil]; omega))).trans ?_
      refine (ct (decide_eq_true (by omega))).trans ?_
      refine (ct (decide_eq_true (by omega))).trans ?_
      refine (ct (decide_eq_true (by omega))).trans ?_
      refine (ct (decide_eq_true (by omega))).trans ?_
      refine (bs (F36_eq n (g.set j (bitsOf .xor .u8 (a8 g j) 32)) t o hB (by rw [List.length_set]; omega) hk)).trans ?_
      rw [uwR_no t o (frF_flip gB gF j hlt)]
      exact (cf rfl).trans (flip_l n a0 s0 s1 s2 s3 s4 s5 s6 s7 s8 s9 s10 f t o g h9 gB gF gL hk m (j + 1) hlt (by omega))
    · have : j = g.length := by omega
      subst this
      refine (cf (decide_eq_false (by omega))).trans ?_
      refine (ct rfl).trans ?_
      refine (bs (F18_self (n + 4) s0 s1 s2 s3 s4 s5 s6 s7 s8 s9 s10 (by omega) (by omega))).trans ?_
      refine (ct rfl).trans ?_
      exact (ct (by simp)).trans rfl
theorem XX_true (b : u8L) (hb : BOk b) : F7 (4000000 + 4) b = some true := by
  generalize hn : 4000000 = n
  unfold F7 F7_T
  by_cases hc : ((b.length : Nat) : Int) > 1048576
  · exact (ct (decide_eq_true hc)).trans rfl
  refine (cf (decide_eq_false hc)).trans (sm_true ?_)
  refine Sm.bind (drawW_ok (n + 4) (by omega) b hb) fun r hr => ?_
  obtain ⟨s0, s1, s2, s3, s4, s5, s6, s7, s8, s9, s10, f, t, l, o⟩ := r
  obtain ⟨⟨h9, h10, hB⟩, hf, ht, hl, ho⟩ := hr
  dsimp only at h9 h10 hB hf ht hl ho ⊢
  have ij := F30_eq n s0 s1 s2 s3 s4 s5 s6 s7 s8 s9 s10 f t l o (by omega) hB (by omega)
  have sj := F29_eq n s0 s1 s2 s3 s4 s5 s6 s7 s8 s9 s10 f t l o (by omega) hB (by omega)
  have al := F15_true (n + 4) (by omega)
  refine ⟨_, ?_, rfl⟩
  refine (bs ij).trans ?_
  refine (bs sj).trans ?_
  refine (bs (show F35 (n + 4) _ _ = some true by unfold F35; rw [beq_self_eq_true])).trans ?_
  refine (cf rfl).trans ?_
  by_cases hz : okS s0 s1 s2 s3 s4 s5 s6 s7 s8 s9 s10 = false ∨ 255 ≤ l
  · rw [wrB_none s0 s1 s2 s3 s4 s5 s6 s7 s8 s9 s10 f t l o hz]
    refine (ct rfl).trans ?_
    refine (bs (F14_eq (n + 4) s0 s1 s2 s3 s4 s5 s6 s7 s8 s9 s10 (by omega) (by omega))).trans ?_
    cases hok : okS s0 s1 s2 s3 s4 s5 s6 s7 s8 s9 s10 with
    | false => exact (ct rfl).trans ((bs al).trans rfl)
    | true =>
      have h255 : 255 ≤ l := hz.resolve_left (by rw [hok]; decide)
      refine (cf rfl).trans ((ct (decide_eq_true h255)).trans ((bs al).trans rfl))
  · have hok : okS s0 s1 s2 s3 s4 s5 s6 s7 s8 s9 s10 = true := by
      cases hok : okS s0 s1 s2 s3 s4 s5 s6 s7 s8 s9 s10 with
      | false => exact absurd (Or.inl hok) hz
      | true => rfl
    have hl2 : l ≤ 254 := by
      rcases Int.lt_or_le l 255 with h | h
      · omega
      · exact absurd (Or.inr h) hz
    obtain ⟨gF, u1, u2, u3⟩ := uwR_rt s0 s1 s2 s3 s4 s5 s6 s7 s8 s9 s10 f t l o hB hok hf ht ⟨hl.1, hl2⟩ ho
    obtain ⟨gB, gL⟩ := wrB_ok s0 s1 s2 s3 s4 s5 s6 s7 s8 s9 s10 f t l o hB
    generalize wrB s0 s1 s2 s3 s4 s5 s6 s7 s8 s9 s10 f t l o = g at *
    have h6 := (frF_ok gF).2
    refine (cf (beq_eq_false_iff_ne.2 (by omega))).trans ?_
    rw [i64_in (o + 1) (by omega), i64_in (t + 1) (by omega)]
    refine (bs (F36_eq n g t o gB (by omega) (by omega))).trans ?_
    refine (bs (F36_eq n g t (o + 1) gB (by omega) (by omega))).trans ?_
    refine (bs (F36_eq n g (t + 1) o gB (by omega) (by omega))).trans ?_
    rw [u1, u2, u3]
    exact flip_l n b s0 s1 s2 s3 s4 s5 s6 s7 s8 s9 s10 f t o g (by omega) gB gF gL (by omega) (n + 4) 0 (Nat.zero_le _) (by omega)
theorem pureXX (b : u8L) (hb : Wf (.sl (.int .u8)) b) (hy : b.length * 1 ≤ 140737488351232) :
    ∃ k, (∀ b : u8L, Contract Try.prog 7 [.one (.l (.s .ro (.int .u8) b))] ⟨F7 k b, fun r => (.one (.v (.bool r)), [])⟩) ∧ F7 k b = some true :=
  ⟨_, fun b => F7_con _ b, XX_true b (BOk.of hb)⟩
end Go.Proofs.Ytnagpaikjikhaaa.Gn
end
