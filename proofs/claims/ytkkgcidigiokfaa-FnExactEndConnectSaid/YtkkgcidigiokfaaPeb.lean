/-
  What the functions that the law reaches answer. (A part of the proofs of this seat.)
-/
import Derived.Test.YtkkgcidigiokfaaPea
import Derived.Test.YtkkgcidigiokfaaGec

section
set_option linter.unusedVariables false
set_option linter.unusedSimpArgs false
/-
  An end that asks for a stream: the plain functions, in plain words.
-/
namespace Go.Proofs.Ytkkgcidigiokfaa.Gn
open Go.Rf Go.IntWalk

/-! ### asking -/
theorem seqOf_small (a : Int) (h : 0 ≤ a ∧ a ≤ 65535) : seqOf a = a := by
  unfold seqOf
  rw [Int.tmod_eq_of_lt h.1 (by omega), decide_eq_false (by omega)]
  rfl
theorem first_eq (k : Nat) (a0 a1 a2 a3 a4 a5 a6 : Int) (a7 : List (den (.int .u8))) (a8 a9 : Int) (a10 : List (den rng)) (a11 a12 : Int) (a13 : List (den (.int .u8))) (a14 : List (den erl)) (a15 a16 a17 : Bool) (a18 a19 a20 a21 a22 a23 : Int) (h0 : a0 = 2) (h5 : 0 ≤ a5 ∧ a5 ≤ 65535) :
    F95 k a0 a1 a2 a3 a4 a5 a6 a7 a8 a9 a10 a11 a12 a13 a14 a15 a16 a17 a18 a19 a20 a21 a22 a23 = some (a2, a4, a5, 0, 0, true, false, false, false, [], []) ∧ F98 k a0 a1 a2 a3 a4 a5 a6 a7 a8 a9 a10 a11 a12 a13 a14 a15 a16 a17 a18 a19 a20 a21 a22 a23 = some (a2, a4, a5, 0, 0, true, false, false, false, [], []) := by
  subst h0
  constructor
  · unfold F95 F95_T F115 F115_T
    rw [F61_val, seqOf_small a5 h5]
    rfl
  · unfold F98 F98_T
    rfl
theorem connect_eq (k : Nat) (a0 a1 a2 a3 a4 a5 a6 : Int) (a7 : List (den (.int .u8))) (a8 a9 : Int) (a10 : List (den rng)) (a11 a12 : Int) (a13 : List (den (.int .u8))) (a14 : List (den erl)) (a15 a16 a17 : Bool) (a18 a19 a20 a21 a22 a23 : Int) (addr port now : Int) (h : shortE 1048576 a7 a10 a13 a14) (hk : 1048576 < k) :
    ∃ (r0 r1 r2 r3 r4 r5 r6 : Int) (r7 : List (den (.int .u8))) (r8 r9 : Int) (r10 : List (den rng)) (r11 r12 : Int) (r13 : List (den (.int .u8))) (r14 : List (den erl)) (r15 r16 r17 : Bool) (r18 r19 r20 r21 r22 r23 : Int) (l : sgL), F29 k a0 a1 a2 a3 a4 a5 a6 a7 a8 a9 a10 a11 a12 a13 a14 a15 a16 a17 a18 a19 a20 a21 a22 a23 addr port now = some (r0, r1, r2, r3, r4, r5, r6, r7, r8, r9, r10, r11, r12, r13, r14, r15, r16, r17, r18, r19, r20, r21, r22, r23, l) ∧
      F30 k a0 a1 a2 a3 a4 a5 a6 a7 a8 a9 a10 a11 a12 a13 a14 a15 a16 a17 a18 a19 a20 a21 a22 a23 addr port now = some (r0, r1, r2, r3, r4, r5, r6, r7, r8, r9, r10, r11, r12, r13, r14, r15, r16, r17, r18, r19, r20, r21, r22, r23, l) ∧
      shortE 1048576 r7 r10 r13 r14 ∧ l.length ≤ 1 ∧ ∀ s ∈ l, shortS 2 s := by
  obtain ⟨h7, h10, h13, h14⟩ := h
  have h : shortE 1048576 a7 a10 a13 a14 := ⟨h7, h10, h13, h14⟩
  obtain ⟨b, hs, hi, hbo⟩ := (F76_is k a0 a1 a2 a3 a4 a5 a6 a7 a8 a9 a10 a11 a12 a13 a14 a15 a16 a17 a18 a19 a20 a21 a22 a23 (by omega) h14 (by omega)).eq (F35_is k a0 a1 a2 a3 a4 a5 a6 a7 a8 a9 a10 a11 a12 a13 a14 a15 a16 a17 a18 a19 a20 a21 a22 a23 (by omega) h13 h14 (by omega))
  unfold F29 F29_T F30 F30_T F84 F84_T
  rw [hs, hi]
  simp only [Option.bind_some, F77_eq, F106_eq, F96_eq, F97_eq]
  cases b with
  | false => exact ⟨0, 0, 0, 0, 0, 0, 0, [], 0, 0, [], 0, 0, [], [], false, false, false, 0, 0, 0, 0, 0, 0, [], rfl, rfl, ⟨by simp, by simp, by simp, by simp⟩, by simp, by simp⟩
  | true =>
    cases ha : inB addr 0 65535 with
    | false => cases inB now 0 900000 <;> exact ⟨0, 0, 0, 0, 0, 0, 0, [], 0, 0, [], 0, 0, [], [], false, false, false, 0, 0, 0, 0, 0, 0, [], rfl, rfl, ⟨by simp, by simp, by simp, by simp⟩, by simp, by simp⟩
    | true =>
      cases hp : inB port 1 255 with
      | false => cases inB now 0 900000 <;> exact ⟨0, 0, 0, 0, 0, 0, 0, [], 0, 0, [], 0, 0, [], [], false, false, false, 0, 0, 0, 0, 0, 0, [], rfl, rfl, ⟨by simp, by simp, by simp, by simp⟩, by simp, by simp⟩
      | true =>
        cases hn : inB now 0 900000 with
        | false => exact ⟨0, 0, 0, 0, 0, 0, 0, [], 0, 0, [], 0, 0, [], [], false, false, false, 0, 0, 0, 0, 0, 0, [], rfl, rfl, ⟨by simp, by simp, by simp, by simp⟩, by simp, by simp⟩
        | true =>
          obtain ⟨_, _, _, _, _, c5, c7, _, c9, _, _, _, c17, c16, _, _, copn, _⟩ := hbo.1 rfl
          rw [inB_iff] at c5
          have hm := (mok_iff.1 c7).2.2.1
          have cs := F78_eq k a0 a1 a2 a3 a4 a5 a6 a7 a8 a9 a10 a11 a12 a13 a14 a15 a16 a17 a18 a19 a20 a21 a22 a23 h
          have ci := F85_eq k a0 a1 a2 a3 a4 a5 a6 a7 a8 a9 a10 a11 a12 a13 a14 a15 a16 a17 a18 a19 a20 a21 a22 a23 h
          rw [cs, ci]
          simp only [Option.bind_some, Bool.not_true, cond_false, cond_true]
          by_cases e0 : a0 = 0
          · subst e0
            rw [show ((0 : Int) != 0) = false from rfl]
            simp only [cond_false]
            obtain ⟨z19, z20⟩ := copn.resolve_left (fun e => by rcases e with e | e | ⟨e, _⟩ <;> cases e)
            have z20 := z20.resolve_right (by decide)
            subst z19 z20
            have aS : F80 k 2 a1 a2 addr port a5 a6 a7 a8 a9 a10 a11 a12 a13 a14 a15 a16 a17 a18 0 0 a21 a22 a23 now true =
                some (2, a1, a2, addr, port, a5, a6, a7, a8, a9, a10, a11, a12, a13, a14, a15, a16, a17, a18, IntKind.i64.wrap (now + a23), 0, a21, a22, a23) := by
              obtain ⟨b, hb, hbo⟩ := F144_is k 2 a1 a2 addr port a5 a6 a7 a8 a9 a10 a11 a12 a13 a14 a15 a16 a17 a18 0 0 a21 a22 a23 hm
              have : b = true := hbo.2 (.inl rfl)
              subst this
              unfold F80 F80_T
              rw [cond_true, hb]
              rfl
            have aI : F86 k 2 a1 a2 addr port a5 a6 a7 a8 a9 a10 a11 a12 a13 a14 a15 a16 a17 a18 0 0 a21 a22 a23 now =
                some (2, a1, a2, addr, port, a5, a6, a7, a8, a9, a10, a11, a12, a13, a14, a15, a16, a17, a18, IntKind.i64.wrap (now + a23), 0, a21, a22, a23) := by
              obtain ⟨b, hb, hbo⟩ := F111_is k 2 a1 a2 addr port a5 a6 a7 a8 a9 a10 a11 a12 a13 a14 a15 a16 a17 a18 0 0 a21 a22 a23
              have : b = true := hbo.2 (.inl rfl)
              subst this
              unfold F86 F86_T
              rw [hb]
              rfl
            obtain ⟨fs, fi⟩ := first_eq k 2 a1 a2 addr port a5 a6 a7 a8 a9 a10 a11 a12 a13 a14 a15 a16 a17 a18 (IntKind.i64.wrap (now + a23)) 0 a21 a22 a23 rfl c5
            rw [aS, aI]
            simp only [Option.bind_some]
            rw [fs, fi]
            simp only [Option.bind_some]
            refine ⟨_, _, _, _, _, _, _, _, _, _, _, _, _, _, _, _, _, _, _, _, _, _, _, _, _, rfl, rfl, h, by simp, fun s hs => ?_⟩
            simp only [List.mem_singleton] at hs
            subst hs
            exact ⟨by simp, by simp⟩
          · rw [show (a0 != 0) = true from bne_iff_ne.2 e0]
            simp only [cond_true]
            exact ⟨_, _, _, _, _, _, _, _, _, _, _, _, _, _, _, _, _, _, _, _, _, _, _, _, _, rfl, rfl, h, by simp, by simp⟩
theorem sum_one {l : sgL} (h1 : l.length ≤ 1) (h2 : ∀ s ∈ l, shortS 20 s) : sumS wS l ≤ 100 := by
  match l, h1, h2 with
  | [], _, _ => simp [sumS]
  | [s], _, h2 =>
    obtain ⟨h9, h10⟩ := h2 s (by simp)
    simp only [sumS, wS]
    omega
theorem shortS_mono {n m : Nat} (hnm : n ≤ m) {s : den seg} (h : shortS n s) : shortS m s := ⟨Nat.le_trans h.1 hnm, Nat.le_trans h.2 hnm⟩
theorem law_true (a0 a1 a2 a3 a4 a5 a6 : Int) (a7 : List (den (.int .u8))) (a8 a9 : Int) (a10 : List (den rng)) (a11 a12 : Int) (a13 : List (den (.int .u8))) (a14 : List (den erl)) (a15 a16 a17 : Bool) (a18 a19 a20 a21 a22 a23 : Int) (addr port now : Int) (h7 : a7.length ≤ maxLen) (h10 : a10.length ≤ maxLen) (h13 : a13.length ≤ maxLen) (h14 : a14.length ≤ maxLen) : F5 4000000 a0 a1 a2 a3 a4 a5 a6 a7 a8 a9 a10 a11 a12 a13 a14 a15 a16 a17 a18 a19 a20 a21 a22 a23 addr port now = some true := by
  generalize hk : 4000000 = k
  obtain ⟨r, z1, z2⟩ := szEnd_eq k a0 a1 a2 a3 a4 a5 a6 a7 a8 a9 a10 a11 a12 a13 a14 a15 a16 a17 a18 a19 a20 a21 a22 a23 h7 h10 h13 h14
  unfold F5 F5_T
  refine (bs z1).trans ?_
  by_cases hr : r < 0
  · exact (ct (decide_eq_true hr)).trans rfl
  refine (cf (decide_eq_false hr)).trans ?_
  obtain ⟨_, hsum⟩ := z2.resolve_left hr
  have h : shortE 1048576 a7 a10 a13 a14 := ⟨by omega, by omega, by omega, by omega⟩
  have cp := F21_eq k a0 a1 a2 a3 a4 a5 a6 a7 a8 a9 a10 a11 a12 a13 a14 a15 a16 a17 a18 a19 a20 a21 a22 a23 h (by omega)
  obtain ⟨r0, r1, r2, r3, r4, r5, r6, r7, r8, r9, r10, r11, r12, r13, r14, r15, r16, r17, r18, r19, r20, r21, r22, r23, l, es, ei, hr', hl1, hl2⟩ := connect_eq k a0 a1 a2 a3 a4 a5 a6 a7 a8 a9 a10 a11 a12 a13 a14 a15 a16 a17 a18 a19 a20 a21 a22 a23 addr port now h (by omega)
  have hl3 : ∀ s ∈ l, shortS 20 s := fun s hs => shortS_mono (by decide) (hl2 s hs)
  have sl := sum_one hl1 hl3
  have slp := sumS_nonneg wS_pos l
  have eqr := F23_self k r0 r1 r2 r3 r4 r5 r6 r7 r8 r9 r10 r11 r12 r13 r14 r15 r16 r17 r18 r19 r20 r21 r22 r23 hr' (by omega)
  have eqa := F23_self k a0 a1 a2 a3 a4 a5 a6 a7 a8 a9 a10 a11 a12 a13 a14 a15 a16 a17 a18 a19 a20 a21 a22 a23 h (by omega)
  have eql := F24_self k l 20 (by omega) (by omega) hl3 (by omega) (by omega)
  have ma := F25_eq k a0 a1 a2 a3 a4 a5 a6 a7 a8 a9 a10 a11 a12 a13 a14 a15 a16 a17 a18 a19 a20 a21 a22 a23 1 h (by omega) (by omega) (by omega)
  have mr := F25_eq k r0 r1 r2 r3 r4 r5 r6 r7 r8 r9 r10 r11 r12 r13 r14 r15 r16 r17 r18 r19 r20 r21 r22 r23 1 hr' (by omega) (by omega) (by omega)
  have hd := F27_eq k r0 r1 r2 r3 r4 r5 r6 r7 r8 r9 r10 r11 r12 r13 r14 r15 r16 r17 r18 r19 r20 r21 r22 r23 1 hr' (by omega) (by omega) (by omega)
  obtain ⟨xa1, xa2⟩ := x4E_bound 1 a7 a10 a13 a14 h (by omega)
  obtain ⟨xr1, xr2⟩ := x4E_bound 1 r7 r10 r13 r14 hr' (by omega)
  generalize hxr : x4E 1 r7 r10 r13 r14 = xr at *
  have ml' := F26_eq k l xr 20 (by omega) (by omega) hl3 (by omega) (by omega) (by omega)
  have hl' := F28_eq k l xr 20 (by omega) (by omega) hl3 (by omega) (by omega) (by omega)
  have p1 : decide (x4E 1 a7 a10 a13 a14 < 0) = false := decide_eq_false (by omega)
  have p2 : decide (xr < 0) = false := decide_eq_false (by omega)
  have p3 : decide (xr + sumS wS l < 0) = false := decide_eq_false (by omega)
  have p4 : (xr + sumS wS l != xr + sumS wS l) = false := by simp
  refine (bs cp).trans ?_
  refine (bs es).trans ?_
  refine (bs cp).trans ?_
  refine (bs ei).trans ?_
  refine (bs eqr).trans ?_
  refine (cf rfl).trans ?_
  refine (bs eql).trans ?_
  refine (cf rfl).trans ?_
  refine (bs cp).trans ?_
  refine (bs eqa).trans ?_
  refine (cf rfl).trans ?_
  refine (bs ma).trans ?_
  refine (cf p1).trans ?_
  refine (bs eqr).trans ?_
  refine (cf rfl).trans ?_
  refine (bs eql).trans ?_
  refine (cf rfl).trans ?_
  refine (bs mr).trans ?_
  refine (bs ml').trans ?_
  refine (bs hd).trans ?_
  refine (cf p2).trans ?_
  refine (bs hl').trans ?_
  refine (cf p3).trans ?_
  refine (cf p4).trans ?_
  refine (bs cp).trans ?_
  refine (bs ei).trans ?_
  refine (bs eqr).trans ?_
  refine (cf rfl).trans ?_
  refine (bs eql).trans ?_
  refine (cf rfl).trans ?_
  refine (bs hd).trans ?_
  refine (cf p2).trans ?_
  refine (bs hl').trans ?_
  refine (cf p3).trans ?_
  exact (cf p4).trans rfl
theorem pureL (x : den fin) (hx : Wf fin x) (addr : Int) (h1 : (Lit.int .i64 addr).wf = true) (port : Int) (h2 : (Lit.int .i64 port).wf = true) (now : Int) (h3 : (Lit.int .i64 now).wf = true) :
    ∃ k, (∀ (x : den fin) (addr port now : Int), Contract Try.prog 5 [.agg ((Rf.enc .ro fin x).map .l), .one (.l (.v (.int .i64 addr))), .one (.l (.v (.int .i64 port))), .one (.l (.v (.int .i64 now)))] ⟨F5 k x.1 x.2.1 x.2.2.1 x.2.2.2.1 x.2.2.2.2.1 x.2.2.2.2.2.1 x.2.2.2.2.2.2.1.1 x.2.2.2.2.2.2.1.2.1 x.2.2.2.2.2.2.1.2.2.1 x.2.2.2.2.2.2.1.2.2.2.1 x.2.2.2.2.2.2.1.2.2.2.2 x.2.2.2.2.2.2.2.1.1 x.2.2.2.2.2.2.2.1.2.1 x.2.2.2.2.2.2.2.1.2.2.1 x.2.2.2.2.2.2.2.1.2.2.2 x.2.2.2.2.2.2.2.2.1 x.2.2.2.2.2.2.2.2.2.1 x.2.2.2.2.2.2.2.2.2.2.1 x.2.2.2.2.2.2.2.2.2.2.2.1 x.2.2.2.2.2.2.2.2.2.2.2.2.1 x.2.2.2.2.2.2.2.2.2.2.2.2.2.1 x.2.2.2.2.2.2.2.2.2.2.2.2.2.2.1 x.2.2.2.2.2.2.2.2.2.2.2.2.2.2.2.1 x.2.2.2.2.2.2.2.2.2.2.2.2.2.2.2.2 addr port now, fun r => (.one (.v (.bool r)), [])⟩) ∧ F5 k x.1 x.2.1 x.2.2.1 x.2.2.2.1 x.2.2.2.2.1 x.2.2.2.2.2.1 x.2.2.2.2.2.2.1.1 x.2.2.2.2.2.2.1.2.1 x.2.2.2.2.2.2.1.2.2.1 x.2.2.2.2.2.2.1.2.2.2.1 x.2.2.2.2.2.2.1.2.2.2.2 x.2.2.2.2.2.2.2.1.1 x.2.2.2.2.2.2.2.1.2.1 x.2.2.2.2.2.2.2.1.2.2.1 x.2.2.2.2.2.2.2.1.2.2.2 x.2.2.2.2.2.2.2.2.1 x.2.2.2.2.2.2.2.2.2.1 x.2.2.2.2.2.2.2.2.2.2.1 x.2.2.2.2.2.2.2.2.2.2.2.1 x.2.2.2.2.2.2.2.2.2.2.2.2.1 x.2.2.2.2.2.2.2.2.2.2.2.2.2.1 x.2.2.2.2.2.2.2.2.2.2.2.2.2.2.1 x.2.2.2.2.2.2.2.2.2.2.2.2.2.2.2.1 x.2.2.2.2.2.2.2.2.2.2.2.2.2.2.2.2 addr port now = some true := by
  obtain ⟨x0, x1, x2, x3, x4, x5, ⟨x6, x7, x8, x9, x10⟩, ⟨x11, x12, x13, x14⟩, x15, x16, x17, x18, x19, x20, x21, x22, x23⟩ := x
  obtain ⟨_, _, _, _, _, _, ⟨_, w7, _, _, w10⟩, ⟨_, _, w13, w14⟩, _⟩ := hx
  exact ⟨_, fun x addr port now => F5_con _ x.1 x.2.1 x.2.2.1 x.2.2.2.1 x.2.2.2.2.1 x.2.2.2.2.2.1 x.2.2.2.2.2.2.1.1 x.2.2.2.2.2.2.1.2.1 x.2.2.2.2.2.2.1.2.2.1 x.2.2.2.2.2.2.1.2.2.2.1 x.2.2.2.2.2.2.1.2.2.2.2 x.2.2.2.2.2.2.2.1.1 x.2.2.2.2.2.2.2.1.2.1 x.2.2.2.2.2.2.2.1.2.2.1 x.2.2.2.2.2.2.2.1.2.2.2 x.2.2.2.2.2.2.2.2.1 x.2.2.2.2.2.2.2.2.2.1 x.2.2.2.2.2.2.2.2.2.2.1 x.2.2.2.2.2.2.2.2.2.2.2.1 x.2.2.2.2.2.2.2.2.2.2.2.2.1 x.2.2.2.2.2.2.2.2.2.2.2.2.2.1 x.2.2.2.2.2.2.2.2.2.2.2.2.2.2.1 x.2.2.2.2.2.2.2.2.2.2.2.2.2.2.2.1 x.2.2.2.2.2.2.2.2.2.2.2.2.2.2.2.2 addr port now, law_true x0 x1 x2 x3 x4 x5 x6 x7 x8 x9 x10 x11 x12 x13 x14 x15 x16 x17 x18 x19 x20 x21 x22 x23 addr port now w7.1 w10.1 w13.1 w14.1⟩
end Go.Proofs.Ytkkgcidigiokfaa.Gn
end
