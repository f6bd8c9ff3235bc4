/-
  What the functions that the law reaches answer. (A part of the proofs of this seat.)
-/
import Derived.Test.YtkkgcidigiokfaaPea
import Derived.Test.YtkkgcidigiokfaaGec

section
set_option linter.unusedVariables false
set_option linter.unusedSimpArgs false
/-
  An end that closes its side: the plain functions, in plain words.
-/
namespace Go.Proofs.Ytkkgcidigiokfaa.Gn
open Go.Rf Go.IntWalk

/-! ### when something goes again -/
theorem arm_eq (k : Nat) (a0 a1 a2 a3 a4 a5 a6 : Int) (a7 : List (den (.int .u8))) (a8 a9 : Int) (a10 : List (den rng)) (a11 a12 : Int) (a13 : List (den (.int .u8))) (a14 : List (den erl)) (a15 a16 a17 : Bool) (a18 a19 a20 a21 a22 a23 : Int) (now : Int) (h8 : 0 ≤ a8 ∧ a8 ≤ (a7.length : Int)) (hopn : ¬ Opn a0 (a7.length : Int) a16 a17 → a19 = 0 ∧ (a20 = 0 ∨ a0 = 5)) :
    ∃ D, F80 k a0 a1 a2 a3 a4 a5 a6 a7 a8 a9 a10 a11 a12 a13 a14 a15 a16 a17 a18 a19 a20 a21 a22 a23 now false = some (a0, a1, a2, a3, a4, a5, a6, a7, a8, a9, a10, a11, a12, a13, a14, a15, a16, a17, a18, D, a20, a21, a22, a23) ∧
      F86 k a0 a1 a2 a3 a4 a5 a6 a7 a8 a9 a10 a11 a12 a13 a14 a15 a16 a17 a18 a19 a20 a21 a22 a23 now = some (a0, a1, a2, a3, a4, a5, a6, a7, a8, a9, a10, a11, a12, a13, a14, a15, a16, a17, a18, D, a20, a21, a22, a23) := by
  obtain ⟨b, hs, hi, hbo⟩ := (F144_is k a0 a1 a2 a3 a4 a5 a6 a7 a8 a9 a10 a11 a12 a13 a14 a15 a16 a17 a18 a19 a20 a21 a22 a23 h8).eq (F111_is k a0 a1 a2 a3 a4 a5 a6 a7 a8 a9 a10 a11 a12 a13 a14 a15 a16 a17 a18 a19 a20 a21 a22 a23)
  unfold F80 F80_T F86 F86_T
  rw [cond_false, hs, hi]
  simp only [Option.bind_some]
  cases b with
  | true =>
    cases hz : (a19 == 0) with
    | true => exact ⟨_, rfl, rfl⟩
    | false => exact ⟨_, rfl, rfl⟩
  | false =>
    obtain ⟨z1, z2⟩ := hopn fun e => by have := hbo.2 e; cases this
    subst z1
    by_cases h5 : a0 = 5
    · rw [show (a0 != 5) = false by rw [h5]; rfl]
      exact ⟨0, rfl, rfl⟩
    · have := z2.resolve_right h5
      subst this
      rw [show (a0 != 5) = true from bne_iff_ne.2 h5]
      exact ⟨0, rfl, rfl⟩

/-! ### the last mark -/
theorem last_eq (k : Nat) (a0 a1 a2 a3 a4 a5 a6 : Int) (a7 : List (den (.int .u8))) (a8 a9 : Int) (a10 : List (den rng)) (a11 a12 : Int) (a13 : List (den (.int .u8))) (a14 : List (den erl)) (a15 a16 a17 : Bool) (a18 a19 a20 a21 a22 a23 : Int) (h0 : a0 ≠ 2) (hok : earB a11 a12 a13 a14 = true) (hl : a14.length ≤ 1048576) (hk : a14.length < k) (hk4 : 4 ≤ k) :
    F79 k a0 a1 a2 a3 a4 a5 a6 a7 a8 a9 a10 a11 a12 a13 a14 a15 a16 a17 a18 a19 a20 a21 a22 a23 = some (a2, a4, seqOf (IntKind.i64.wrap (a6 + ((a7.length : Nat) : Int))), seqOf (waitE a11 a18), a12 - ((a13.length : Nat) : Int), false, true, true, false, (rgs a14).map sq, []) ∧
      F87 k a0 a1 a2 a3 a4 a5 a6 a7 a8 a9 a10 a11 a12 a13 a14 a15 a16 a17 a18 a19 a20 a21 a22 a23 = some (a2, a4, seqOf (IntKind.i64.wrap (a6 + ((a7.length : Nat) : Int))), seqOf (waitE a11 a18), a12 - ((a13.length : Nat) : Int), false, true, true, false, (rgs a14).map sq, []) := by
  constructor
  · unfold F79 F79_T
    exact (bs (F115_eq k a0 a1 a2 a3 a4 a5 a6 a7 a8 a9 a10 a11 a12 a13 a14 a15 a16 a17 a18 a19 a20 a21 a22 a23 _ h0 hok hl hk hk4)).trans rfl
  · unfold F87 F87_T
    exact (bs (F149_eq k a0 a1 a2 a3 a4 a5 a6 a7 a8 a9 a10 a11 a12 a13 a14 a15 a16 a17 a18 a19 a20 a21 a22 a23 _ hok hl hk hk4)).trans rfl

/-! ### closing -/
theorem close_eq (k : Nat) (a0 a1 a2 a3 a4 a5 a6 : Int) (a7 : List (den (.int .u8))) (a8 a9 : Int) (a10 : List (den rng)) (a11 a12 : Int) (a13 : List (den (.int .u8))) (a14 : List (den erl)) (a15 a16 a17 : Bool) (a18 a19 a20 a21 a22 a23 : Int) (now : Int) (h : shortE 1048576 a7 a10 a13 a14) (hk : 1048576 < k) :
    ∃ (r0 r1 r2 r3 r4 r5 r6 : Int) (r7 : List (den (.int .u8))) (r8 r9 : Int) (r10 : List (den rng)) (r11 r12 : Int) (r13 : List (den (.int .u8))) (r14 : List (den erl)) (r15 r16 r17 : Bool) (r18 r19 r20 r21 r22 r23 : Int) (l : sgL), F20 k a0 a1 a2 a3 a4 a5 a6 a7 a8 a9 a10 a11 a12 a13 a14 a15 a16 a17 a18 a19 a20 a21 a22 a23 now = some (r0, r1, r2, r3, r4, r5, r6, r7, r8, r9, r10, r11, r12, r13, r14, r15, r16, r17, r18, r19, r20, r21, r22, r23, l) ∧
      F22 k a0 a1 a2 a3 a4 a5 a6 a7 a8 a9 a10 a11 a12 a13 a14 a15 a16 a17 a18 a19 a20 a21 a22 a23 now = some (r0, r1, r2, r3, r4, r5, r6, r7, r8, r9, r10, r11, r12, r13, r14, r15, r16, r17, r18, r19, r20, r21, r22, r23, l) ∧
      shortE 1048576 r7 r10 r13 r14 ∧ l.length ≤ 1 ∧ ∀ s ∈ l, shortS 2 s := by
  obtain ⟨h7, h10, h13, h14⟩ := h
  have h : shortE 1048576 a7 a10 a13 a14 := ⟨h7, h10, h13, h14⟩
  obtain ⟨b, hs, hi, hbo⟩ := (F76_is k a0 a1 a2 a3 a4 a5 a6 a7 a8 a9 a10 a11 a12 a13 a14 a15 a16 a17 a18 a19 a20 a21 a22 a23 (by omega) h14 (by omega)).eq (F35_is k a0 a1 a2 a3 a4 a5 a6 a7 a8 a9 a10 a11 a12 a13 a14 a15 a16 a17 a18 a19 a20 a21 a22 a23 (by omega) h13 h14 (by omega))
  unfold F20 F20_T F22 F22_T F84 F84_T F20_j1 F22_j1
  rw [hs, hi]
  simp only [Option.bind_some, F77_eq, F106_eq]
  cases b with
  | false => exact ⟨0, 0, 0, 0, 0, 0, 0, [], 0, 0, [], 0, 0, [], [], false, false, false, 0, 0, 0, 0, 0, 0, [], rfl, rfl, ⟨by simp, by simp, by simp, by simp⟩, by simp, by simp⟩
  | true =>
    cases hn : inB now 0 900000 with
    | false => exact ⟨0, 0, 0, 0, 0, 0, 0, [], 0, 0, [], 0, 0, [], [], false, false, false, 0, 0, 0, 0, 0, 0, [], rfl, rfl, ⟨by simp, by simp, by simp, by simp⟩, by simp, by simp⟩
    | true =>
      obtain ⟨_, _, _, _, _, _, c7, _, c9, _, _, _, c17, c16, _, _, copn, _⟩ := hbo.1 rfl
      have hm := (mok_iff.1 c7).2.2.1
      have cs := F78_eq k a0 a1 a2 a3 a4 a5 a6 a7 a8 a9 a10 a11 a12 a13 a14 a15 a16 a17 a18 a19 a20 a21 a22 a23 h
      have ci := F85_eq k a0 a1 a2 a3 a4 a5 a6 a7 a8 a9 a10 a11 a12 a13 a14 a15 a16 a17 a18 a19 a20 a21 a22 a23 h
      rw [cs, ci]
      simp only [Option.bind_some, Bool.not_true, cond_false, cond_true]
      -- what is not told goes on alike
      obtain ⟨D, ds, di⟩ := arm_eq k a0 a1 a2 a3 a4 a5 a6 a7 a8 a9 a10 a11 a12 a13 a14 true a16 a17 a18 a19 a20 a21 a22 a23 now hm (fun e => copn.resolve_left e)
      by_cases e0 : a0 = 4
      · rw [show (a0 == 4) = true by rw [e0]; rfl, show (a0 != 4) = false by rw [e0]; rfl]
        simp only [cond_true, cond_false]
        cases a16 with
        | true =>
          simp only [cond_true, Bool.not_true, cond_false]
          rw [ds, di]
          exact ⟨_, _, _, _, _, _, _, _, _, _, _, _, _, _, _, _, _, _, _, _, _, _, _, _, _, rfl, rfl, h, by simp, by simp⟩
        | false =>
          simp only [cond_true, Bool.not_false, cond_false]
          by_cases e8 : a8 = ((a7.length : Nat) : Int)
          · rw [show (a8 == ((a7.length : Nat) : Int)) = true from beq_iff_eq.2 e8, show (a8 != ((a7.length : Nat) : Int)) = false by rw [← e8]; simp]
            simp only [cond_true, cond_false]
            have e17 : a17 = false := by
              cases a17 with
              | false => rfl
              | true => have := c17 rfl; cases this
            obtain ⟨D2, fs, fi⟩ := arm_eq k a0 a1 a2 a3 a4 a5 a6 a7 a8 a9 a10 a11 a12 a13 a14 true true a17 a18 a19 a20 a21 a22 a23 now hm (fun e => absurd (.inr (.inr ⟨e0, .inr ⟨rfl, e17⟩⟩)) e)
            obtain ⟨ls, _⟩ := last_eq k a0 a1 a2 a3 a4 a5 a6 a7 a8 a9 a10 a11 a12 a13 a14 true true a17 a18 a19 a20 a21 a22 a23 (by omega) c9 h14 (by omega) (by omega)
            obtain ⟨_, li⟩ := last_eq k a0 a1 a2 a3 a4 a5 a6 a7 a8 a9 a10 a11 a12 a13 a14 true true a17 a18 D2 a20 a21 a22 a23 (by omega) c9 h14 (by omega) (by omega)
            rw [ls, fs, fi]
            simp only [Option.bind_some]
            rw [li]
            simp only [Option.bind_some]
            refine ⟨_, _, _, _, _, _, _, _, _, _, _, _, _, _, _, _, _, _, _, _, _, _, _, _, _, rfl, rfl, h, by simp, fun s hs => ?_⟩
            simp only [List.nil_append, List.mem_singleton] at hs
            subst hs
            exact ⟨by simp [rgs_len], by simp⟩
          · rw [show (a8 == ((a7.length : Nat) : Int)) = false from beq_eq_false_iff_ne.2 e8, show (a8 != ((a7.length : Nat) : Int)) = true from bne_iff_ne.2 e8]
            simp only [cond_true, cond_false]
            rw [ds, di]
            exact ⟨_, _, _, _, _, _, _, _, _, _, _, _, _, _, _, _, _, _, _, _, _, _, _, _, _, rfl, rfl, h, by simp, by simp⟩
      · rw [show (a0 == 4) = false from beq_eq_false_iff_ne.2 e0, show (a0 != 4) = true from bne_iff_ne.2 e0]
        simp only [cond_true, cond_false]
        rw [ds, di]
        exact ⟨_, _, _, _, _, _, _, _, _, _, _, _, _, _, _, _, _, _, _, _, _, _, _, _, _, rfl, rfl, h, by simp, by simp⟩
theorem sum_one {l : sgL} (h1 : l.length ≤ 1) (h2 : ∀ s ∈ l, shortS 20 s) : sumS wS l ≤ 100 := by
  match l, h1, h2 with
  | [], _, _ => simp [sumS]
  | [s], _, h2 =>
    obtain ⟨h9, h10⟩ := h2 s (by simp)
    simp only [sumS, wS]
    omega
theorem shortS_mono {n m : Nat} (hnm : n ≤ m) {s : den seg} (h : shortS n s) : shortS m s := ⟨Nat.le_trans h.1 hnm, Nat.le_trans h.2 hnm⟩
theorem close_true (a0 a1 a2 a3 a4 a5 a6 : Int) (a7 : List (den (.int .u8))) (a8 a9 : Int) (a10 : List (den rng)) (a11 a12 : Int) (a13 : List (den (.int .u8))) (a14 : List (den erl)) (a15 a16 a17 : Bool) (a18 a19 a20 a21 a22 a23 : Int) (now : Int) (h7 : a7.length ≤ maxLen) (h10 : a10.length ≤ maxLen) (h13 : a13.length ≤ maxLen) (h14 : a14.length ≤ maxLen) : F4 4000000 a0 a1 a2 a3 a4 a5 a6 a7 a8 a9 a10 a11 a12 a13 a14 a15 a16 a17 a18 a19 a20 a21 a22 a23 now = some true := by
  generalize hk : 4000000 = k
  obtain ⟨r, z1, z2⟩ := szEnd_eq k a0 a1 a2 a3 a4 a5 a6 a7 a8 a9 a10 a11 a12 a13 a14 a15 a16 a17 a18 a19 a20 a21 a22 a23 h7 h10 h13 h14
  unfold F4 F4_T
  refine (bs z1).trans ?_
  by_cases hr : r < 0
  · exact (ct (decide_eq_true hr)).trans rfl
  refine (cf (decide_eq_false hr)).trans ?_
  obtain ⟨_, hsum⟩ := z2.resolve_left hr
  have h : shortE 1048576 a7 a10 a13 a14 := ⟨by omega, by omega, by omega, by omega⟩
  have cp := F21_eq k a0 a1 a2 a3 a4 a5 a6 a7 a8 a9 a10 a11 a12 a13 a14 a15 a16 a17 a18 a19 a20 a21 a22 a23 h (by omega)
  obtain ⟨r0, r1, r2, r3, r4, r5, r6, r7, r8, r9, r10, r11, r12, r13, r14, r15, r16, r17, r18, r19, r20, r21, r22, r23, l, es, ei, hr', hl1, hl2⟩ := close_eq k a0 a1 a2 a3 a4 a5 a6 a7 a8 a9 a10 a11 a12 a13 a14 a15 a16 a17 a18 a19 a20 a21 a22 a23 now h (by omega)
  have hl3 : ∀ s ∈ l, shortS 20 s := fun s hs => shortS_mono (by decide) (hl2 s hs)
  have sl := sum_one hl1 hl3
  have slp := sumS_nonneg wS_pos l
  have eqr := F23_self k r0 r1 r2 r3 r4 r5 r6 r7 r8 r9 r10 r11 r12 r13 r14 r15 r16 r17 r18 r19 r20 r21 r22 r23 hr' (by omega)
  have eqa := F23_self k a0 a1 a2 a3 a4 a5 a6 a7 a8 a9 a10 a11 a12 a13 a14 a15 a16 a17 a18 a19 a20 a21 a22 a23 h (by omega)
  have eql := F24_self k l 20 (by omega) (by omega) hl3 (by omega) (by omega)
  have ma := F25_eq k a0 a1 a2 a3 a4 a5 a6 a7 a8 a9 a10 a11 a12 a13 a14 a15 a16 a17 a18 a19 a20 a21 a22 a23 1 h (by omega) (by omega) (by omega)
  have mr := F25_eq k r0 r1 r2 r3 r4 r5 r6 r7 r8 r9 r10 r11 r12 r13 r14 r15 r16 r17 r18 r19 r20 r21 r22 r23 1 hr' (by omega) (by omega) (by omega)
  have hd := F27_eq k r0 r1 r2 r3 r4 r5 r6 r7 r8 r9 r10 r11 r12 r13 r14 r15 r16 r17 r18 r19 r20 r21 r22 r23 1 hr' (by omega) (by omega) (by omega)
  obtain ⟨xa1, xa2⟩ := x4E_bound 1 a7 a10 a13 a14 h (by omega)
  obtain ⟨xr1, xr2⟩ := x4E_bound 1 r7 r10 r13 r14 hr' (by omega)
  generalize hxr : x4E 1 r7 r10 r13 r14 = xr at *
  have ml' := F26_eq k l xr 20 (by omega) (by omega) hl3 (by omega) (by omega) (by omega)
  have hl' := F28_eq k l xr 20 (by omega) (by omega) hl3 (by omega) (by omega) (by omega)
  have p1 : decide (x4E 1 a7 a10 a13 a14 < 0) = false := decide_eq_false (by omega)
  have p2 : decide (xr < 0) = false := decide_eq_false (by omega)
  have p3 : decide (xr + sumS wS l < 0) = false := decide_eq_false (by omega)
  have p4 : (xr + sumS wS l != xr + sumS wS l) = false := by simp
  refine (bs cp).trans ?_
  refine (bs es).trans ?_
  refine (bs cp).trans ?_
  refine (bs ei).trans ?_
  refine (bs eqr).trans ?_
  refine (cf rfl).trans ?_
  refine (bs eql).trans ?_
  refine (cf rfl).trans ?_
  refine (bs cp).trans ?_
  refine (bs eqa).trans ?_
  refine (cf rfl).trans ?_
  refine (bs ma).trans ?_
  refine (cf p1).trans ?_
  refine (bs eqr).trans ?_
  refine (cf rfl).trans ?_
  refine (bs eql).trans ?_
  refine (cf rfl).trans ?_
  refine (bs mr).trans ?_
  refine (bs ml').trans ?_
  refine (bs hd).trans ?_
  refine (cf p2).trans ?_
  refine (bs hl').trans ?_
  refine (cf p3).trans ?_
  refine (cf p4).trans ?_
  refine (bs cp).trans ?_
  refine (bs ei).trans ?_
  refine (bs eqr).trans ?_
  refine (cf rfl).trans ?_
  refine (bs eql).trans ?_
  refine (cf rfl).trans ?_
  refine (bs hd).trans ?_
  refine (cf p2).trans ?_
  refine (bs hl').trans ?_
  refine (cf p3).trans ?_
  exact (cf p4).trans rfl
theorem pure4 (x : den fin) (hx : Wf fin x) (now : Int) (hnow : (Lit.int .i64 now).wf = true) :
    ∃ k, (∀ (x : den fin) (now : Int), Contract Try.prog 4 [.agg ((Rf.enc .ro fin x).map .l), .one (.l (.v (.int .i64 now)))] ⟨F4 k x.1 x.2.1 x.2.2.1 x.2.2.2.1 x.2.2.2.2.1 x.2.2.2.2.2.1 x.2.2.2.2.2.2.1.1 x.2.2.2.2.2.2.1.2.1 x.2.2.2.2.2.2.1.2.2.1 x.2.2.2.2.2.2.1.2.2.2.1 x.2.2.2.2.2.2.1.2.2.2.2 x.2.2.2.2.2.2.2.1.1 x.2.2.2.2.2.2.2.1.2.1 x.2.2.2.2.2.2.2.1.2.2.1 x.2.2.2.2.2.2.2.1.2.2.2 x.2.2.2.2.2.2.2.2.1 x.2.2.2.2.2.2.2.2.2.1 x.2.2.2.2.2.2.2.2.2.2.1 x.2.2.2.2.2.2.2.2.2.2.2.1 x.2.2.2.2.2.2.2.2.2.2.2.2.1 x.2.2.2.2.2.2.2.2.2.2.2.2.2.1 x.2.2.2.2.2.2.2.2.2.2.2.2.2.2.1 x.2.2.2.2.2.2.2.2.2.2.2.2.2.2.2.1 x.2.2.2.2.2.2.2.2.2.2.2.2.2.2.2.2 now, fun r => (.one (.v (.bool r)), [])⟩) ∧ F4 k x.1 x.2.1 x.2.2.1 x.2.2.2.1 x.2.2.2.2.1 x.2.2.2.2.2.1 x.2.2.2.2.2.2.1.1 x.2.2.2.2.2.2.1.2.1 x.2.2.2.2.2.2.1.2.2.1 x.2.2.2.2.2.2.1.2.2.2.1 x.2.2.2.2.2.2.1.2.2.2.2 x.2.2.2.2.2.2.2.1.1 x.2.2.2.2.2.2.2.1.2.1 x.2.2.2.2.2.2.2.1.2.2.1 x.2.2.2.2.2.2.2.1.2.2.2 x.2.2.2.2.2.2.2.2.1 x.2.2.2.2.2.2.2.2.2.1 x.2.2.2.2.2.2.2.2.2.2.1 x.2.2.2.2.2.2.2.2.2.2.2.1 x.2.2.2.2.2.2.2.2.2.2.2.2.1 x.2.2.2.2.2.2.2.2.2.2.2.2.2.1 x.2.2.2.2.2.2.2.2.2.2.2.2.2.2.1 x.2.2.2.2.2.2.2.2.2.2.2.2.2.2.2.1 x.2.2.2.2.2.2.2.2.2.2.2.2.2.2.2.2 now = some true := by
  obtain ⟨x0, x1, x2, x3, x4, x5, ⟨x6, x7, x8, x9, x10⟩, ⟨x11, x12, x13, x14⟩, x15, x16, x17, x18, x19, x20, x21, x22, x23⟩ := x
  obtain ⟨_, _, _, _, _, _, ⟨_, w7, _, _, w10⟩, ⟨_, _, w13, w14⟩, _⟩ := hx
  exact ⟨_, fun x now => F4_con _ x.1 x.2.1 x.2.2.1 x.2.2.2.1 x.2.2.2.2.1 x.2.2.2.2.2.1 x.2.2.2.2.2.2.1.1 x.2.2.2.2.2.2.1.2.1 x.2.2.2.2.2.2.1.2.2.1 x.2.2.2.2.2.2.1.2.2.2.1 x.2.2.2.2.2.2.1.2.2.2.2 x.2.2.2.2.2.2.2.1.1 x.2.2.2.2.2.2.2.1.2.1 x.2.2.2.2.2.2.2.1.2.2.1 x.2.2.2.2.2.2.2.1.2.2.2 x.2.2.2.2.2.2.2.2.1 x.2.2.2.2.2.2.2.2.2.1 x.2.2.2.2.2.2.2.2.2.2.1 x.2.2.2.2.2.2.2.2.2.2.2.1 x.2.2.2.2.2.2.2.2.2.2.2.2.1 x.2.2.2.2.2.2.2.2.2.2.2.2.2.1 x.2.2.2.2.2.2.2.2.2.2.2.2.2.2.1 x.2.2.2.2.2.2.2.2.2.2.2.2.2.2.2.1 x.2.2.2.2.2.2.2.2.2.2.2.2.2.2.2.2 now, close_true x0 x1 x2 x3 x4 x5 x6 x7 x8 x9 x10 x11 x12 x13 x14 x15 x16 x17 x18 x19 x20 x21 x22 x23 now w7.1 w10.1 w13.1 w14.1⟩
end Go.Proofs.Ytkkgcidigiokfaa.Gn
end
