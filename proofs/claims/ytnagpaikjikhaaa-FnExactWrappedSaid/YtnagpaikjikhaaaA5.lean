/-
  What the proof of this row needs, part 5: the typed evaluator of the translated code, the functions that the law reaches as plain functions, and what they answer.
-/
import Derived.Test.YtnagpaikjikhaaaA4
section
namespace Go.Proofs.Ytnagpaikjikhaaa.Gn
open Go.Rf Go.IntWalk
set_option linter.unusedVariables false
set_option linter.unusedSimpArgs false
theorem F25_self (k : Nat) (a0 a1 a2 a3 a4 : Int) (a5 a6 a7 a8 : Bool) (a9 : List (den rng)) (a10 : List (den (.int .u8))) (h9 : a9.length ≤ 4194304) (h10 : a10.length ≤ 4194304) (k9 : a9.length < k) (k10 : a10.length < k) : F25 k a0 a1 a2 a3 a4 a5 a6 a7 a8 a9 a10 a0 a1 a2 a3 a4 a5 a6 a7 a8 a9 a10 = some true := by
  simp only [F25, F25_T, F68_self k a9 h9 k9, F31_self k a10 h10 k10, bne_self_eq_false, beq_self_eq_true, Bool.not_true, cond_false, Option.bind_some]
def frOk (f0 f1 f2 : Int) (f3 : u8L) : Bool := inB f0 0 255 && inB f1 0 254 && inB f2 0 255 && decide (((f3.length : Nat) : Int) ≤ 64)
theorem F101_eq (k : Nat) (f0 f1 f2 : Int) (f3 : u8L) : F101 k f0 f1 f2 f3 = some (frOk f0 f1 f2 f3) := by
  simp only [F101, F101_T, F51_eq, Option.bind_some, frOk]
  cases inB f0 0 255 <;> try rfl
  cases inB f1 0 254 <;> try rfl
  cases inB f2 0 255 <;> rfl
theorem F107_eq (k : Nat) (f0 f1 f2 : Int) (f3 : u8L) : F107 k f0 f1 f2 f3 = some (frOk f0 f1 f2 f3) := by
  simp only [F107, F107_T, F45_eq, Option.bind_some, frOk]
  cases inB f0 0 255 <;> try rfl
  cases inB f1 0 254 <;> try rfl
  cases inB f2 0 255 <;> rfl
def hdF (f0 f1 f2 : Int) (f3 : u8L) : u8L := [u8v f0, u8v f1, u8v f2, u8v ((f3.length : Nat) : Int)] ++ f3
def frB (f0 f1 f2 : Int) (f3 : u8L) : u8L := cond (frOk f0 f1 f2 f3) (hdF f0 f1 f2 f3 ++ by2 (sumV (hdF f0 f1 f2 f3))) []
theorem hdF_ok (f0 f1 f2 : Int) {f3 : u8L} (hb : BOk f3) : BOk (hdF f0 f1 f2 f3) := (BOk.nil.cons.cons.cons.cons).app hb
theorem hdF_len (f0 f1 f2 : Int) (f3 : u8L) : (hdF f0 f1 f2 f3).length = f3.length + 4 := by unfold hdF; rw [List.length_append]; exact Nat.add_comm _ _
theorem F73_eq (q : Nat) (f0 f1 f2 : Int) (f3 : u8L) (hb : BOk f3) (hk : 1048576 < q + 4) : F73 (q + 4) f0 f1 f2 f3 = some (frB f0 f1 f2 f3) := by
  unfold F73 F73_T frB
  refine (bs (F101_eq (q + 4) f0 f1 f2 f3)).trans ?_
  cases ho : frOk f0 f1 f2 f3 with
  | false => rfl
  | true =>
    have h3 : f3.length ≤ 64 := by
      simp only [frOk, Bool.and_eq_true, decide_eq_true_eq] at ho
      omega
    have hB := hdF_ok f0 f1 f2 hb
    have hL := hdF_len f0 f1 f2 f3
    have e : [IntKind.u8.wrap f0, IntKind.u8.wrap f1, IntKind.u8.wrap f2, IntKind.u8.wrap ((f3.length : Nat) : Int)] ++ f3 = hdF f0 f1 f2 f3 := rfl
    refine (cf rfl).trans ?_
    refine (ct (decide_eq_true (by show (4 + f3.length) * 1 ≤ 140737488355328; omega))).trans ?_
    rw [e]
    refine (bs (F100_eq (q + 4) _ hB (by rw [hL]; omega) hk)).trans ?_
    refine (bs (F95_eq q _ (sumV_in hB))).trans ?_
    exact (ct (decide_eq_true (by rw [hL, by2_len]; omega))).trans rfl
theorem F76_eq (q : Nat) (f0 f1 f2 : Int) (f3 : u8L) (hb : BOk f3) (hq : 10 < q) : F76 (q + 4) f0 f1 f2 f3 = some (frB f0 f1 f2 f3) := by
  unfold F76 F76_T frB
  refine (bs (F107_eq (q + 4) f0 f1 f2 f3)).trans ?_
  cases ho : frOk f0 f1 f2 f3 with
  | false => rfl
  | true =>
    have h3 : f3.length ≤ 64 := by
      simp only [frOk, Bool.and_eq_true, decide_eq_true_eq] at ho
      omega
    have hB := hdF_ok f0 f1 f2 hb
    have hL := hdF_len f0 f1 f2 f3
    have e : [IntKind.u8.wrap f0, IntKind.u8.wrap f1, IntKind.u8.wrap f2, IntKind.u8.wrap ((f3.length : Nat) : Int)] ++ f3 = hdF f0 f1 f2 f3 := rfl
    refine (cf rfl).trans ?_
    refine (ct (decide_eq_true (by show (4 + f3.length) * 1 ≤ 140737488355328; omega))).trans ?_
    rw [e]
    refine (bs (F103_eq q _ hB (by rw [hL]; omega))).trans ?_
    refine (bs (F91_eq q _ (sumV_in hB))).trans ?_
    have fl : [hdF f0 f1 f2 f3, by2 (sumV (hdF f0 f1 f2 f3))].flatten = hdF f0 f1 f2 f3 ++ by2 (sumV (hdF f0 f1 f2 f3)) := by simp
    have c1 := cat_eq (q + 4) [hdF f0 f1 f2 f3, by2 (sumV (hdF f0 f1 f2 f3))] (show 2 < q + 4 by omega) (by show 2 ≤ 1048576; omega) (by rw [fl, List.length_append, hL, by2_len]; omega)
    rw [fl] at c1
    exact (bs c1).trans rfl
theorem sgB_ok (a0 a1 a2 a3 a4 : Int) (a5 a6 a7 a8 : Bool) (a9 : List (den rng)) (a10 : List (den (.int .u8))) (f t : Int) (hb : BOk a10) : BOk (sgB a0 a1 a2 a3 a4 a5 a6 a7 a8 a9 a10 f t) ∧ (sgB a0 a1 a2 a3 a4 a5 a6 a7 a8 a9 a10 f t).length ≤ 32 := by
  unfold sgB
  cases ho : okS a0 a1 a2 a3 a4 a5 a6 a7 a8 a9 a10 with
  | false => exact ⟨BOk.nil, by simp⟩
  | true =>
    cases hf : inB f 0 65535 with
    | false => exact ⟨BOk.nil, by simp⟩
    | true =>
      cases ht : inB t 0 65535 with
      | false => exact ⟨BOk.nil, by simp⟩
      | true =>
        have hf : 0 ≤ f ∧ f ≤ 65535 := by simpa [inB] using hf
        have ht : 0 ≤ t ∧ t ≤ 65535 := by simpa [inB] using ht
        obtain ⟨hB, hL⟩ := bdS_ok a0 a1 a2 a3 a4 a5 a6 a7 a8 a9 a10 ho hb
        have B1 : BOk (by2 f ++ by2 t ++ bdS a0 a1 a2 a3 a4 a5 a6 a7 a8 a9 a10) := ((by2_BOk hf).app (by2_BOk ht)).app hB
        refine ⟨hB.app (by2_BOk (sumV_in B1)), ?_⟩
        show (bdS a0 a1 a2 a3 a4 a5 a6 a7 a8 a9 a10 ++ by2 _).length ≤ 32
        rw [List.length_append, by2_len]
        omega
theorem pkB_ok (p0 p1 p2 p3 p4 p5 : Int) (p6 p7 : Bool) {p8 : u8L} (hb : BOk p8) : BOk (pkB p0 p1 p2 p3 p4 p5 p6 p7 p8) ∧ (pkB p0 p1 p2 p3 p4 p5 p6 p7 p8).length ≤ 60 := by
  unfold pkB
  cases ho : pkOk p0 p1 p2 p3 p4 p5 p6 p7 p8 with
  | false => exact ⟨BOk.nil, by simp⟩
  | true =>
    have h : (0 ≤ p0 ∧ p0 ≤ 65535) ∧ (0 ≤ p1 ∧ p1 ≤ 65535) ∧ p8.length ≤ 48 := by
      simp only [pkOk, inB, Bool.and_eq_true, decide_eq_true_eq] at ho
      omega
    have hB := hdP_ok p2 p3 p4 p5 p6 p7 p8 h.1 h.2.1
    have hL : (hdP p0 p1 p2 p3 p4 p5 p6 p7 p8).length = 10 := rfl
    refine ⟨(hB.app (by2_BOk (sumV_in hB))).app hb, ?_⟩
    show (hdP p0 p1 p2 p3 p4 p5 p6 p7 p8 ++ by2 _ ++ p8).length ≤ 60
    rw [List.length_append, List.length_append, by2_len, hL]
    omega
theorem frB_ok (f0 f1 f2 : Int) {f3 : u8L} (hb : BOk f3) : BOk (frB f0 f1 f2 f3) ∧ (frB f0 f1 f2 f3).length ≤ 70 := by
  unfold frB
  cases ho : frOk f0 f1 f2 f3 with
  | false => exact ⟨BOk.nil, by simp⟩
  | true =>
    have h3 : f3.length ≤ 64 := by
      simp only [frOk, Bool.and_eq_true, decide_eq_true_eq] at ho
      omega
    have hB := hdF_ok f0 f1 f2 hb
    refine ⟨hB.app (by2_BOk (sumV_in hB)), ?_⟩
    show (hdF f0 f1 f2 f3 ++ by2 _).length ≤ 70
    rw [List.length_append, by2_len, hdF_len]
    omega
def wrB (a0 a1 a2 a3 a4 : Int) (a5 a6 a7 a8 : Bool) (a9 : List (den rng)) (a10 : List (den (.int .u8))) (f t l o : Int) : u8L := cond (((sgB a0 a1 a2 a3 a4 a5 a6 a7 a8 a9 a10 f t).length : Int) == 0) [] (frB o l 8 (pkB f t 6 64 0 0 false false (sgB a0 a1 a2 a3 a4 a5 a6 a7 a8 a9 a10 f t)))
theorem wrB_ok (a0 a1 a2 a3 a4 : Int) (a5 a6 a7 a8 : Bool) (a9 : List (den rng)) (a10 : List (den (.int .u8))) (f t l o : Int) (hb : BOk a10) : BOk (wrB a0 a1 a2 a3 a4 a5 a6 a7 a8 a9 a10 f t l o) ∧ (wrB a0 a1 a2 a3 a4 a5 a6 a7 a8 a9 a10 f t l o).length ≤ 70 := by
  unfold wrB
  cases (((sgB a0 a1 a2 a3 a4 a5 a6 a7 a8 a9 a10 f t).length : Int) == 0) with
  | true => exact ⟨BOk.nil, by simp⟩
  | false => exact frB_ok _ _ _ (pkB_ok _ _ _ _ _ _ _ _ (sgB_ok a0 a1 a2 a3 a4 a5 a6 a7 a8 a9 a10 f t hb).1).1
theorem F29_eq (q : Nat) (a0 a1 a2 a3 a4 : Int) (a5 a6 a7 a8 : Bool) (a9 : List (den rng)) (a10 : List (den (.int .u8))) (f t l o : Int) (h9 : a9.length ≤ 1048576) (hb : BOk a10) (hk : 1048576 < q + 4) : F29 (q + 4) a0 a1 a2 a3 a4 a5 a6 a7 a8 a9 a10 f t l o = some (wrB a0 a1 a2 a3 a4 a5 a6 a7 a8 a9 a10 f t l o) := by
  unfold F29 F29_T wrB
  refine (bs (F71_eq q a0 a1 a2 a3 a4 a5 a6 a7 a8 a9 a10 f t h9 hb hk)).trans ?_
  have hs := (sgB_ok a0 a1 a2 a3 a4 a5 a6 a7 a8 a9 a10 f t hb).1
  cases (((sgB a0 a1 a2 a3 a4 a5 a6 a7 a8 a9 a10 f t).length : Int) == 0) with
  | true => rfl
  | false =>
    refine (cf rfl).trans ?_
    refine (bs (F72_eq q f t 6 64 0 0 false false _ hk)).trans ?_
    exact (bs (F73_eq q o l 8 _ (pkB_ok _ _ _ _ _ _ _ _ hs).1 hk)).trans rfl
theorem F30_eq (q : Nat) (a0 a1 a2 a3 a4 : Int) (a5 a6 a7 a8 : Bool) (a9 : List (den rng)) (a10 : List (den (.int .u8))) (f t l o : Int) (h9 : a9.length ≤ 1048576) (hb : BOk a10) (hk : 1048576 < q + 4) : F30 (q + 4) a0 a1 a2 a3 a4 a5 a6 a7 a8 a9 a10 f t l o = some (wrB a0 a1 a2 a3 a4 a5 a6 a7 a8 a9 a10 f t l o) := by
  unfold F30 F30_T wrB
  refine (bs (F74_eq q a0 a1 a2 a3 a4 a5 a6 a7 a8 a9 a10 f t h9 hb hk)).trans ?_
  have hs := (sgB_ok a0 a1 a2 a3 a4 a5 a6 a7 a8 a9 a10 f t hb).1
  cases (((sgB a0 a1 a2 a3 a4 a5 a6 a7 a8 a9 a10 f t).length : Int) == 0) with
  | true => rfl
  | false =>
    refine (cf rfl).trans ?_
    refine (bs (F75_eq q f t 6 64 0 0 false false _ (by omega))).trans ?_
    exact (bs (F76_eq q o l 8 _ (pkB_ok _ _ _ _ _ _ _ _ hs).1 (by omega))).trans rfl
theorem XW_true (a0 a1 a2 a3 a4 : Int) (a5 a6 a7 a8 : Bool) (a9 : List (den rng)) (a10 : List (den (.int .u8))) (f t l o : Int) (h9 : a9.length ≤ maxLen) (h10 : a10.length ≤ maxLen) (hb : BOk a10) : F6 (4000000 + 4) a0 a1 a2 a3 a4 a5 a6 a7 a8 a9 a10 f t l o = some true := by
  generalize hn : 4000000 = n
  unfold F6 F6_T
  have sz := F22_eq (n + 4) a0 a1 a2 a3 a4 a5 a6 a7 a8 a9 a10 1048576 h9 h10 (by omega)
  refine (bs sz).trans ?_
  by_cases hc : ¬ (a9.length : Int) + (a10.length : Int) ≤ 1048576
  · rw [if_neg hc]
    exact (ct (by decide)).trans rfl
  replace hc := Decidable.not_not.1 hc
  rw [if_pos hc]
  refine (cf (decide_eq_false (by omega))).trans ?_
  have cp := F23_eq (n + 4) a0 a1 a2 a3 a4 a5 a6 a7 a8 a9 a10 (by omega) (by omega) (by omega) (by omega)
  have sj := F29_eq n a0 a1 a2 a3 a4 a5 a6 a7 a8 a9 a10 f t l o (by omega) hb (by omega)
  have ij := F30_eq n a0 a1 a2 a3 a4 a5 a6 a7 a8 a9 a10 f t l o (by omega) hb (by omega)
  have glen := (wrB_ok a0 a1 a2 a3 a4 a5 a6 a7 a8 a9 a10 f t l o hb).2
  generalize wrB a0 a1 a2 a3 a4 a5 a6 a7 a8 a9 a10 f t l o = g at *
  have eqg := F31_self (n + 4) g (by omega) (by omega)
  have eqa := F25_self (n + 4) a0 a1 a2 a3 a4 a5 a6 a7 a8 a9 a10 (by omega) (by omega) (by omega) (by omega)
  have ma := F26_eq (n + 4) a0 a1 a2 a3 a4 a5 a6 a7 a8 a9 a10 1 (by omega) (by omega) (by omega) (by omega)
  have mg := F32_eq (n + 4) g 1 (by omega) (by omega) (by omega)
  have hg := F33_eq (n + 4) g 1 (by omega) (by omega) (by omega)
  have p2 : decide (1 + (g.length : Int) < 0) = false := decide_eq_false (by omega)
  have p4 : (1 + (g.length : Int) != 1 + (g.length : Int)) = false := by simp
  refine (bs cp).trans ?_
  refine (bs sj).trans ?_
  refine (bs cp).trans ?_
  refine (bs ij).trans ?_
  refine (bs eqg).trans ?_
  refine (cf rfl).trans ?_
  refine (bs cp).trans ?_
  refine (bs eqa).trans ?_
  refine (cf rfl).trans ?_
  refine (bs ma).trans ?_
  refine (cf (decide_eq_false (by dsimp only; omega))).trans ?_
  refine (bs eqg).trans ?_
  refine (cf rfl).trans ?_
  refine (bs mg).trans ?_
  refine (bs hg).trans ?_
  refine (cf p2).trans ?_
  refine (cf p4).trans ?_
  refine (bs cp).trans ?_
  refine (bs ij).trans ?_
  refine (bs eqg).trans ?_
  refine (cf rfl).trans ?_
  refine (bs hg).trans ?_
  refine (cf p2).trans ?_
  exact (cf p4).trans rfl
theorem pureXW (x : den seg) (hx : Wf seg x) (f : Int) (h3 : (Lit.int .i64 f).wf = true) (t : Int) (h4 : (Lit.int .i64 t).wf = true) (l : Int) (h5 : (Lit.int .i64 l).wf = true) (o : Int) (h6 : (Lit.int .i64 o).wf = true) :
    ∃ k, (∀ (x : den seg) (f t l o : Int), Contract Try.prog 6 [.agg ((Rf.enc .ro seg x).map .l), .one (.l (.v (.int .i64 f))), .one (.l (.v (.int .i64 t))), .one (.l (.v (.int .i64 l))), .one (.l (.v (.int .i64 o)))] ⟨F6 k x.1 x.2.1 x.2.2.1 x.2.2.2.1 x.2.2.2.2.1 x.2.2.2.2.2.1 x.2.2.2.2.2.2.1 x.2.2.2.2.2.2.2.1 x.2.2.2.2.2.2.2.2.1 x.2.2.2.2.2.2.2.2.2.1 x.2.2.2.2.2.2.2.2.2.2 f t l o, fun r => (.one (.v (.bool r)), [])⟩) ∧ F6 k x.1 x.2.1 x.2.2.1 x.2.2.2.1 x.2.2.2.2.1 x.2.2.2.2.2.1 x.2.2.2.2.2.2.1 x.2.2.2.2.2.2.2.1 x.2.2.2.2.2.2.2.2.1 x.2.2.2.2.2.2.2.2.2.1 x.2.2.2.2.2.2.2.2.2.2 f t l o = some true := by
  obtain ⟨x0, x1, x2, x3, x4, x5, x6, x7, x8, x9, x10⟩ := x
  obtain ⟨_, _, _, _, _, _, _, _, _, w9, w10⟩ := hx
  exact ⟨_, fun x f t l o => F6_con _ x.1 x.2.1 x.2.2.1 x.2.2.2.1 x.2.2.2.2.1 x.2.2.2.2.2.1 x.2.2.2.2.2.2.1 x.2.2.2.2.2.2.2.1 x.2.2.2.2.2.2.2.2.1 x.2.2.2.2.2.2.2.2.2.1 x.2.2.2.2.2.2.2.2.2.2 f t l o, XW_true x0 x1 x2 x3 x4 x5 x6 x7 x8 x9 x10 f t l o w9.1 w10.1 (BOk.of w10)⟩
end Go.Proofs.Ytnagpaikjikhaaa.Gn
end
