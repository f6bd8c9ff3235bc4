/-
  What the proof of this row needs, part 4: the typed evaluator of the translated code, the functions that the law reaches as plain functions, and what they answer.
-/
import Derived.RangeFuncBox
import Derived.RangeFuncLeaves
import Derived.Shelf.Abstract
import Derived.WalkKit
import Derived.OwnWalkIn
import Derived.TacticsInMore
import Derived.LoopNIn
import Derived.LoopIn
import Derived.Test.YtnagpaikjikhaaaChecked
import Derived.KernelRfl
import Derived.Test.YtnagpaikjikhaaaA3
section
namespace Go.Proofs.Ytnagpaikjikhaaa.It
open Go.RowKit Go.Shelf Go.Rf
attribute [local go_sem] Oper.semAt_some
set_option linter.unusedVariables false
set_option maxRecDepth 100000 in
set_option maxHeartbeats 2000000 in
theorem mk (w : World) (a : Option Addr) (len cap : Nat) (n : Int) (hn : 1 ≤ n) : CallsIn Fence.wide 1 Try.prog 47 #[.slice a len cap, .int .i64 n] w fun e w' =>
    e = .returned (.func (.func 89) #[] #[.pointer (some ⟨w.heap.size, 0, none⟩), .pointer (some ⟨w.heap.size + 1, 0, none⟩)]) ∧ w' = (w.alloc (.cells #[.slice a len cap] 22)).alloc (.cells #[.int .i64 n] 3) := by
  have hlt : (decide (n < 1)) = false := decide_eq_false (by omega)
  refine callsIn_of_wp Try.func47 rfl trivial ?_ rfl
  simp only [Try.ntmps47, List.size_toArray, List.length_cons, List.length_nil, Nat.reduceAdd, Nat.reduceSub, Array.replicate_succ, Array.replicate_zero, List.push_toArray, List.append_toArray, List.nil_append, List.cons_append]
  gi_wp2
  go_ret
  exact ⟨rfl, rfl⟩
set_option maxRecDepth 100000 in
set_option maxHeartbeats 4000000 in
theorem it (lp N : Nat) (a : Option Addr) (len cap b1 b2 : Nat) (J : Nat → World → Prop) (W : World) (hN : 1 ≤ N) (hl : len ≤ 140737488355328) (hN2 : (N : Int) ≤ 9223372036854775807) (hc : len ≤ cap) (ha : a = none → len = 0)
    (hJ : ∀ j W, J j W → W.cell? ⟨b1, 0, none⟩ = some (.slice a len cap) ∧ W.cell? ⟨b2, 0, none⟩ = some (.int .i64 (N : Int))) (hd : ∀ j W, J j W → J j { W with drawn := W.drawn + 1 })
    (hY : ∀ j W, j * N < len → J j W → YieldAt Fence.wide 0 Try.prog lp #[.slice (a.map (·.add (j * N * 1))) (min N (len - j * N)) (min N (len - j * N))] W fun e W' => e = .returned (.bool true) ∧ J (j + 1) W') (h0 : J 0 W) :
    CallsIn Fence.wide 1 Try.prog 89 #[.func (.yield lp) #[] #[], .pointer (some ⟨b1, 0, none⟩), .pointer (some ⟨b2, 0, none⟩)] W fun e W' => (∃ v, e = .returned v) ∧ J ((len + N - 1) / N) W' := by
  refine callsIn_of_wp Try.func89 rfl trivial ?_ rfl
  simp only [Try.ntmps89, List.size_toArray, List.length_cons, List.length_nil, Nat.reduceAdd, Nat.reduceSub, Array.replicate_succ, Array.replicate_zero, List.push_toArray, List.append_toArray, List.nil_append, List.cons_append]
  gi_wp2
  gi_loopw [4] (fun i wr => ∃ k : Nat, i = .int .i64 ((k * N : Nat) : Int) ∧ (k = 0 ∨ (k - 1) * N < len) ∧ J k wr) (fun i _ => len + N - (intOf i).toNat)
  case atStart => exact ⟨0, by simp, .inl rfl, h0⟩
  case round =>
    obtain ⟨k, rfl, hk, hJs⟩ := hrel
    obtain ⟨hc1, hc2⟩ := hJ k wr hJs
    by_cases hlt : k * N < len
    · obtain ⟨⟨ab, ao, asp⟩, rfl⟩ : ∃ ad, a = some ad := by
        cases a with
        | none => exact absurd (ha rfl) (by omega)
        | some ad => exact ⟨ad, rfl⟩
      have hkn : ((k : Int) * (N : Int)) < (len : Int) := by exact_mod_cast hlt
      have hkc : ((k : Int) * (N : Int)) ≤ (cap : Int) := by omega
      have hk0 : (0 : Int) ≤ (k : Int) * (N : Int) := by exact_mod_cast Nat.zero_le (k * N)
      gi_wp2
      gi_region
      have hm : (if len - k * N < N then ((len - k * N : Nat) : Int) else ((N : Nat) : Int)) = ((min N (len - k * N) : Nat) : Int) := by split <;> omega
      rw [hm]
      obtain ⟨hc3, hc4⟩ := hJ k wr.drew (hd k wr hJs)
      obtain ⟨fn, tmps, assign, body, hy, hR⟩ := hY k wr.drew hlt (hd k wr hJs)
      simp only [Option.map_some, Nat.mul_one] at hy
      have he1 : 1 ≤ min N (len - k * N) := by omega
      have he2 : k * N + min N (len - k * N) ≤ len := by omega
      have he3 : min N (len - k * N) ≤ N := by omega
      generalize min N (len - k * N) = e at *
      have he4 : ((k : Int) * (N : Int)) + (e : Int) ≤ (cap : Int) := by have : ((k * N + e : Nat) : Int) ≤ (len : Int) := by exact_mod_cast he2
                                                                         push_cast at this; omega
      gi_wp2
      refine hR.mono ?_
      rintro e' W3 ⟨rfl, hJ3⟩
      obtain ⟨hc5, hc6⟩ := hJ (k + 1) W3 hJ3
      have hk2 : k = 0 ∨ ((k : Int) * (N : Int)) + (N : Int) ≤ 9223372036854775807 := by
        rcases Nat.eq_zero_or_pos k with h | h
        · exact .inl h
        · right
          have : N ≤ k * N := Nat.le_mul_of_pos_left N h
          have : ((k * N : Nat) : Int) + (N : Int) ≤ 9223372036854775807 := by omega
          push_cast at this
          exact this
      have hk3 : ((k : Int) * (N : Int)) + (N : Int) ≤ 9223372036854775807 := by
        rcases hk2 with rfl | h
        · simpa using hN2
        · exact h
      gi_wp2
      go_roundw
      case rel =>
        refine ⟨k + 1, ?_, .inr (by simpa using hlt), hJ3⟩
        congr 1
        rw [Nat.add_mul]
        push_cast
        omega
      case measure =>
        simp [RowKit.intOf]
        have e1 : ((k : Int) * (N : Int)) = ((k * N : Nat) : Int) := by push_cast; rfl
        rw [e1]
        generalize k * N = q at *
        omega
    · have hkn : ¬ ((k : Int) * (N : Int)) < (len : Int) := by exact_mod_cast hlt
      gi_wp2
      go_end0
      refine ⟨⟨_, rfl⟩, ?_⟩
      have : (len + N - 1) / N = k := by
        rcases hk with rfl | hk
        · have : len = 0 := by omega
          subst this
          rw [Nat.zero_add]
          exact Nat.div_eq_of_lt (by omega)
        · have h1 : 1 ≤ k := by
            rcases Nat.eq_zero_or_pos k with rfl | h
            · simp at hk hlt; omega
            · exact h
          obtain ⟨m, rfl⟩ : ∃ m, k = m + 1 := ⟨k - 1, by omega⟩
          rw [Nat.add_sub_cancel] at hk
          have h2 : (m + 1) * N = m * N + N := Nat.succ_mul m N
          rw [h2] at hlt
          refine Nat.div_eq_of_lt_le ?_ ?_
          · rw [h2]; omega
          · rw [Nat.succ_mul, h2]; omega
      rw [this]
      exact hJs
theorem mkOk : ItMk Try.prog 47 89 := ⟨FnOk.of (by kernel_rfl), fun w a len cap n hn => Calls.mono (callsIn_wide.1 (mk w a len cap n hn)) fun e w' ⟨h1, h2⟩ => by
  subst h2
  have hs : ((w.alloc (.cells #[.slice a len cap] 22)).alloc (.cells #[.int .i64 n] 3)).heap.size = w.heap.size + 2 := by simp
  have c1 : (w.alloc (.cells #[.slice a len cap] 22)).heap[w.heap.size]? = some (.cells #[.slice a len cap] 22) := World.alloc_heap_new w _
  have c2 : ((w.alloc (.cells #[.slice a len cap] 22)).alloc (.cells #[.int .i64 n] 3)).heap[w.heap.size + 1]? = some (.cells #[.int .i64 n] 3) := by
    have := World.alloc_heap_new (w.alloc (.cells #[.slice a len cap] 22)) (.cells #[.int .i64 n] 3); rwa [World.size_alloc] at this
  have c3 : ((w.alloc (.cells #[.slice a len cap] 22)).alloc (.cells #[.int .i64 n] 3)).heap[w.heap.size]? = some (.cells #[.slice a len cap] 22) := (Below.heap_alloc _ _ _ (by simp)).trans c1
  refine ⟨w.heap.size, w.heap.size + 1, h1, ⟨by omega, by omega⟩, ⟨by omega, by omega⟩, by simp only [cellAt, World.cell?]; rw [c3]; rfl, by simp only [cellAt, World.cell?]; rw [c2]; rfl, fun q hq => (Below.heap_alloc _ _ _ (by simp; omega)).trans (Below.heap_alloc _ _ _ hq), by omega, ⟨rfl, rfl, rfl⟩⟩⟩
theorem itOk : ItOk Try.prog 89 (.int .u8) := ⟨FnOk.of (by kernel_rfl), fun lp n a len cap b1 b2 J W hn hl hc ha hJ hd hY h0 => by
  obtain ⟨N, rfl⟩ := Int.eq_ofNat_of_zero_le (show 0 ≤ n by have := hn.1; omega)
  exact it lp N a len cap b1 b2 J W (by have := hn.1; omega) hl hn.2 hc ha hJ hd hY h0⟩
end Go.Proofs.Ytnagpaikjikhaaa.It
end

section
set_option linter.unusedVariables false
set_option linter.unusedSimpArgs false
namespace Go.Proofs.Ytnagpaikjikhaaa.Gn
open Go.Rf
abbrev rng : Ty := (.pair (.int .i64) (.int .i64))
abbrev seg : Ty := (.pair (.int .i64) (.pair (.int .i64) (.pair (.int .i64) (.pair (.int .i64) (.pair (.int .i64) (.pair .bool (.pair .bool (.pair .bool (.pair .bool (.pair (.sl rng) (.sl (.int .u8))))))))))))
def tyT : List (Nat × TyI) := [(3, ⟨(.int .i64), false, 0⟩), (4, ⟨.bool, false, 0⟩), (5, ⟨(.int .u8), false, 0⟩), (9, ⟨.str, false, 0⟩), (22, ⟨(.sl (.int .u8)), false, 1⟩), (23, ⟨(.sl rng), false, 16⟩), (25, ⟨seg, true, 0⟩), (41, ⟨(.sl rng), false, 16⟩), (43, ⟨seg, true, 0⟩), (75, ⟨rng, true, 0⟩), (87, ⟨(.pair (.int .i64) (.pair (.int .i64) (.pair (.int .i64) (.pair (.int .i64) (.pair (.int .i64) (.pair (.int .i64) (.pair .bool (.pair .bool (.sl (.int .u8)))))))))), true, 0⟩), (90, ⟨(.pair (.int .i64) (.pair (.int .i64) (.pair (.int .i64) (.sl (.int .u8))))), true, 0⟩), (98, ⟨(.pair (.sl (.int .u8)) (.int .i64)), true, 0⟩), (102, ⟨(.sl (.sl (.int .u8))), false, 24⟩), (105, ⟨rng, true, 0⟩), (114, ⟨(.sl (.int .i64)), false, 8⟩)]
def fldT : FldT := [(25, [(0, 1, false), (1, 1, false), (2, 1, false), (3, 1, false), (4, 1, false), (5, 1, false), (6, 1, false), (7, 1, false), (8, 1, false), (9, 1, false), (10, 1, false)]), (43, [(0, 1, false), (1, 1, false), (2, 1, false), (3, 1, false), (4, 1, false), (5, 1, false), (6, 1, false), (7, 1, false), (8, 1, false), (9, 1, false), (10, 1, false)]), (75, [(0, 1, false), (1, 1, false)]), (87, [(0, 1, false), (1, 1, false), (2, 1, false), (3, 1, false), (4, 1, false), (5, 1, false), (6, 1, false), (7, 1, false), (8, 1, false)]), (90, [(0, 1, false), (1, 1, false), (2, 1, false), (3, 1, false)]), (98, [(0, 1, false), (1, 1, false)]), (105, [(0, 1, false), (1, 1, false)])]
def eqT : List Nat := [75]
def env (tab : Tab) (hint : Nat → Hint) (rm : Rf.Mode) (pins : List (Bool × Nat)) (k : Nat) : Env :=
  { tab := tab, lend := (fun f => cond (Nat.beq f 114) [true] (cond (Nat.beq f 113) [true] (cond (Nat.beq f 49) [true] ([])))), lent := (fun f => cond (Nat.beq f 26) [true] (cond (Nat.beq f 27) [true] (cond (Nat.beq f 32) [true] (cond (Nat.beq f 69) [true] ([]))))), pins := pins, ty := asc tyT, fld := fldOf fldT, pw := fun _ => none, cw := fun _ => [], hint := hint, eqt := hasK eqT, rm := rm, fuel := k, itr := [(47, 89, (.int .u8))] }
theorem tyOk : AllT (TyOk Try.prog) tyT :=
  ⟨.ofInt (b := 8) (by kernel_rfl) (by kernel_rfl), .ofBool (b := 1) (by kernel_rfl) (by kernel_rfl), .ofInt (b := 1) (by kernel_rfl) (by kernel_rfl), .ofStr (b := 16) (by kernel_rfl) (by kernel_rfl), .ofSl (te := 5) (b := 24) (by kernel_rfl) (by kernel_rfl) (by kernel_rfl) (fun _ h => by cases h; kernel_rfl), .ofSl (te := 75) (b := 24) (by kernel_rfl) (by kernel_rfl) (by kernel_rfl) nofun, .ofAgg (b := 96) (by kernel_rfl) (by kernel_rfl), .ofSl (te := 105) (b := 24) (by kernel_rfl) (by kernel_rfl) (by kernel_rfl) nofun, .ofAgg (b := 96) (by kernel_rfl) (by kernel_rfl), .ofAgg (b := 16) (by kernel_rfl) (by kernel_rfl), .ofAgg (b := 80) (by kernel_rfl) (by kernel_rfl), .ofAgg (b := 48) (by kernel_rfl) (by kernel_rfl), .ofAgg (b := 32) (by kernel_rfl) (by kernel_rfl), .ofSl (te := 22) (b := 24) (by kernel_rfl) (by kernel_rfl) (by kernel_rfl) nofun, .ofAgg (b := 16) (by kernel_rfl) (by kernel_rfl), .ofSl (te := 3) (b := 24) (by kernel_rfl) (by kernel_rfl) (by kernel_rfl) (fun _ h => by cases h; kernel_rfl), trivial⟩
theorem fldOk : AllF Try.prog fldT :=
  ⟨⟨⟨by kernel_rfl, by kernel_rfl⟩, ⟨by kernel_rfl, by kernel_rfl⟩, ⟨by kernel_rfl, by kernel_rfl⟩, ⟨by kernel_rfl, by kernel_rfl⟩, ⟨by kernel_rfl, by kernel_rfl⟩, ⟨by kernel_rfl, by kernel_rfl⟩, ⟨by kernel_rfl, by kernel_rfl⟩, ⟨by kernel_rfl, by kernel_rfl⟩, ⟨by kernel_rfl, by kernel_rfl⟩, ⟨by kernel_rfl, by kernel_rfl⟩, ⟨by kernel_rfl, by kernel_rfl⟩, trivial⟩, ⟨⟨by kernel_rfl, by kernel_rfl⟩, ⟨by kernel_rfl, by kernel_rfl⟩, ⟨by kernel_rfl, by kernel_rfl⟩, ⟨by kernel_rfl, by kernel_rfl⟩, ⟨by kernel_rfl, by kernel_rfl⟩, ⟨by kernel_rfl, by kernel_rfl⟩, ⟨by kernel_rfl, by kernel_rfl⟩, ⟨by kernel_rfl, by kernel_rfl⟩, ⟨by kernel_rfl, by kernel_rfl⟩, ⟨by kernel_rfl, by kernel_rfl⟩, ⟨by kernel_rfl, by kernel_rfl⟩, trivial⟩, ⟨⟨by kernel_rfl, by kernel_rfl⟩, ⟨by kernel_rfl, by kernel_rfl⟩, trivial⟩, ⟨⟨by kernel_rfl, by kernel_rfl⟩, ⟨by kernel_rfl, by kernel_rfl⟩, ⟨by kernel_rfl, by kernel_rfl⟩, ⟨by kernel_rfl, by kernel_rfl⟩, ⟨by kernel_rfl, by kernel_rfl⟩, ⟨by kernel_rfl, by kernel_rfl⟩, ⟨by kernel_rfl, by kernel_rfl⟩, ⟨by kernel_rfl, by kernel_rfl⟩, ⟨by kernel_rfl, by kernel_rfl⟩, trivial⟩, ⟨⟨by kernel_rfl, by kernel_rfl⟩, ⟨by kernel_rfl, by kernel_rfl⟩, ⟨by kernel_rfl, by kernel_rfl⟩, ⟨by kernel_rfl, by kernel_rfl⟩, trivial⟩, ⟨⟨by kernel_rfl, by kernel_rfl⟩, ⟨by kernel_rfl, by kernel_rfl⟩, trivial⟩, ⟨⟨by kernel_rfl, by kernel_rfl⟩, ⟨by kernel_rfl, by kernel_rfl⟩, trivial⟩, trivial⟩
theorem mixed : Try.prog.follows .mixedOrders = true := by kernel_rfl
theorem bldOk : AllT (fun t i => i.agg = true → BldOk Try.prog t (fldOf fldT t)) tyT :=
  ⟨nofun, nofun, nofun, nofun, nofun, nofun, fun _ => bld_of (row := [(0, 1, false), (1, 1, false), (2, 1, false), (3, 1, false), (4, 1, false), (5, 1, false), (6, 1, false), (7, 1, false), (8, 1, false), (9, 1, false), (10, 1, false)]) rfl (by kernel_rfl) (by kernel_rfl), nofun, fun _ => bld_of (row := [(0, 1, false), (1, 1, false), (2, 1, false), (3, 1, false), (4, 1, false), (5, 1, false), (6, 1, false), (7, 1, false), (8, 1, false), (9, 1, false), (10, 1, false)]) rfl (by kernel_rfl) (by kernel_rfl), fun _ => bld_of (row := [(0, 1, false), (1, 1, false)]) rfl (by kernel_rfl) (by kernel_rfl), fun _ => bld_of (row := [(0, 1, false), (1, 1, false), (2, 1, false), (3, 1, false), (4, 1, false), (5, 1, false), (6, 1, false), (7, 1, false), (8, 1, false)]) rfl (by kernel_rfl) (by kernel_rfl), fun _ => bld_of (row := [(0, 1, false), (1, 1, false), (2, 1, false), (3, 1, false)]) rfl (by kernel_rfl) (by kernel_rfl), fun _ => bld_of (row := [(0, 1, false), (1, 1, false)]) rfl (by kernel_rfl) (by kernel_rfl), nofun, fun _ => bld_of (row := [(0, 1, false), (1, 1, false)]) rfl (by kernel_rfl) (by kernel_rfl), nofun, trivial⟩
theorem eqOkT : AllT (fun t i => hasK eqT t = true → EqOk Try.prog t i.ty) tyT :=
  ⟨fun h => absurd h (by decide), fun h => absurd h (by decide), fun h => absurd h (by decide), fun h => absurd h (by decide), fun h => absurd h (by decide), fun h => absurd h (by decide), fun h => absurd h (by decide), fun h => absurd h (by decide), fun h => absurd h (by decide), fun _ => EqOk.of (n := 8) (by decide) (by kernel_rfl) (by kernel_rfl) (by kernel_rfl) (by kernel_rfl) (by kernel_rfl), fun h => absurd h (by decide), fun h => absurd h (by decide), fun h => absurd h (by decide), fun h => absurd h (by decide), fun h => absurd h (by decide), fun h => absurd h (by decide), trivial⟩
theorem tysOk (tab : Tab) (hint : Nat → Hint) (rm : Rf.Mode) (pins : List (Bool × Nat)) (k : Nat) : TysOk Try.prog (env tab hint rm pins k) :=
  ⟨fun t i h => tyOk.get h, fun s f z h => fldOk.get h, fun t i h => bldOk.get h, fun t i h h2 => eqOkT.get h2 h, fun z hz => by obtain rfl := List.mem_singleton.1 hz; exact ⟨It.mkOk, It.itOk⟩⟩
theorem envOk {tab : Tab} (h : TabFn Try.prog tab) (hint : Nat → Hint) (rm : Rf.Mode) (pins : List (Bool × Nat)) (k : Nat) : EnvOk Try.prog (env tab hint rm pins k) := EnvOk.of (tysOk tab hint rm pins k) h
theorem envOkF (frz : List Nat) {tab : Tab} (h : TabFn Try.prog tab) (hint : Nat → Hint) (rm : Rf.Mode) (pins : List (Bool × Nat)) (k : Nat) : EnvOk Try.prog { env tab hint rm pins k with frz := frz } :=
  have e := envOk h hint rm pins k; ⟨e.ty, e.fld, e.bld, e.eq, e.tab, e.fn, e.itr⟩
def noTab : Tab := fun _ _ => none
def noHint : Nat → Hint := fun _ => ⟨[], []⟩
abbrev F65_E (k : Nat) : Env := env noTab noHint .own [] k
abbrev F65_a (a0 : List (den rng)) (a1 : Int) : List Arg := [.one (.l (.s .ro rng a0)), .one (.l (.v (.int .i64 a1)))]
def F65_r (r : Int) : A × List (List Leaf) := (.one (.v (.int .i64 r)), [])
def F65_T {β : Type} (k : Nat) (a0 : List (den rng)) (a1 : Int) (RET : Int → Option β) : Option β := cond (decide ((IntKind.i64.wrap (a1 - ((a0.length : Nat) : Int))) < 0)) (RET (-1)) (RET (IntKind.i64.wrap (a1 - ((a0.length : Nat) : Int))))
def F65 (k : Nat) (a0 : List (den rng)) (a1 : Int) : Option (Int) := F65_T k a0 a1 some
theorem F65_st {β : Type} (k : Nat) (a0 : List (den rng)) (a1 : Int) (K : A × List (List Leaf) → Option β) : evalF (F65_E k) Try.f65 (F65_a a0 a1) K =
    F65_T k a0 a1 (fun r => K (F65_r r)) := by kernel_rfl
theorem F65_ev {β : Type} (k : Nat) (a0 : List (den rng)) (a1 : Int) (K : A × List (List Leaf) → Option β) : evalF (F65_E k) Try.f65 (F65_a a0 a1) K = (F65 k a0 a1).bind fun r => K (F65_r r) := by
  rw [F65_st, F65]
  simp only [F65_T, bind_cond, Option.bind_assoc, Option.bind_some, Option.bind_none, Option.bind_fun_some]
theorem F65_con (k : Nat) (a0 : List (den rng)) (a1 : Int) : Contract Try.prog 65 (F65_a a0 a1) ⟨F65 k a0 a1, F65_r⟩ := con_of (envOk .none _ _ _ _) mixed Try.func65 rfl rfl (F65_ev k a0 a1 some)
def F65_sh : List AK := [.one (.l (.sl .ro rng)), .one (.l (.int .i64))]
def F65_p (k : Nat) : List Arg → Option CR := cle F65_sh fun x => ⟨F65 k x.1 x.2.1, F65_r⟩
theorem F65_q (k : Nat) : ∀ xs cr, F65_p k xs = some cr → Contract Try.prog 65 xs cr := cle_ok fun x => F65_con k _ _
theorem F65_f : FnOk Try.prog 65 := .of (by kernel_rfl)
abbrev F66_E (k : Nat) : Env := env noTab noHint .own [] k
abbrev F66_a (a0 : List (den (.int .u8))) (a1 : Int) : List Arg := [.one (.l (.s .ro (.int .u8) a0)), .one (.l (.v (.int .i64 a1)))]
def F66_r (r : Int) : A × List (List Leaf) := (.one (.v (.int .i64 r)), [])
def F66_T {β : Type} (k : Nat) (a0 : List (den (.int .u8))) (a1 : Int) (RET : Int → Option β) : Option β := cond (decide ((IntKind.i64.wrap (a1 - ((a0.length : Nat) : Int))) < 0)) (RET (-1)) (RET (IntKind.i64.wrap (a1 - ((a0.length : Nat) : Int))))
def F66 (k : Nat) (a0 : List (den (.int .u8))) (a1 : Int) : Option (Int) := F66_T k a0 a1 some
theorem F66_st {β : Type} (k : Nat) (a0 : List (den (.int .u8))) (a1 : Int) (K : A × List (List Leaf) → Option β) : evalF (F66_E k) Try.f66 (F66_a a0 a1) K =
    F66_T k a0 a1 (fun r => K (F66_r r)) := by kernel_rfl
theorem F66_ev {β : Type} (k : Nat) (a0 : List (den (.int .u8))) (a1 : Int) (K : A × List (List Leaf) → Option β) : evalF (F66_E k) Try.f66 (F66_a a0 a1) K = (F66 k a0 a1).bind fun r => K (F66_r r) := by
  rw [F66_st, F66]
  simp only [F66_T, bind_cond, Option.bind_assoc, Option.bind_some, Option.bind_none, Option.bind_fun_some]
theorem F66_con (k : Nat) (a0 : List (den (.int .u8))) (a1 : Int) : Contract Try.prog 66 (F66_a a0 a1) ⟨F66 k a0 a1, F66_r⟩ := con_of (envOk .none _ _ _ _) mixed Try.func66 rfl rfl (F66_ev k a0 a1 some)
def F66_sh : List AK := [.one (.l (.sl .ro (.int .u8))), .one (.l (.int .i64))]
def F66_p (k : Nat) : List Arg → Option CR := cle F66_sh fun x => ⟨F66 k x.1 x.2.1, F66_r⟩
theorem F66_q (k : Nat) : ∀ xs cr, F66_p k xs = some cr → Contract Try.prog 66 xs cr := cle_ok fun x => F66_con k _ _
theorem F66_f : FnOk Try.prog 66 := .of (by kernel_rfl)
def F22_t (k : Nat) : Tab := entT 65 (F65_p k) <| entT 66 (F66_p k) <| noTab
abbrev F22_E (k : Nat) : Env := env (F22_t k) noHint .own [] k
abbrev F22_a (a0_0 a0_1 a0_2 a0_3 a0_4 : Int) (a0_5 a0_6 a0_7 a0_8 : Bool) (a0_9 : List (den rng)) (a0_10 : List (den (.int .u8))) (a1 : Int) : List Arg := [.agg [.l (.v (.int .i64 a0_0)), .l (.v (.int .i64 a0_1)), .l (.v (.int .i64 a0_2)), .l (.v (.int .i64 a0_3)), .l (.v (.int .i64 a0_4)), .l (.v (.bool a0_5)), .l (.v (.bool a0_6)), .l (.v (.bool a0_7)), .l (.v (.bool a0_8)), .l (.s .ro rng a0_9), .l (.s .ro (.int .u8) a0_10)], .one (.l (.v (.int .i64 a1)))]
def F22_r (r : Int) : A × List (List Leaf) := (.one (.v (.int .i64 r)), [])
def F22_T {β : Type} (k : Nat) (a0_0 a0_1 a0_2 a0_3 a0_4 : Int) (a0_5 a0_6 a0_7 a0_8 : Bool) (a0_9 : List (den rng)) (a0_10 : List (den (.int .u8))) (a1 : Int) (RET : Int → Option β) : Option β := (F65 k a0_9 a1).bind fun b1 => cond (decide (b1 < 0)) (RET (-1)) ((F66 k a0_10 b1).bind fun b2 => cond (decide (b2 < 0)) (RET (-1)) (RET b2))
def F22 (k : Nat) (a0_0 a0_1 a0_2 a0_3 a0_4 : Int) (a0_5 a0_6 a0_7 a0_8 : Bool) (a0_9 : List (den rng)) (a0_10 : List (den (.int .u8))) (a1 : Int) : Option (Int) := F22_T k a0_0 a0_1 a0_2 a0_3 a0_4 a0_5 a0_6 a0_7 a0_8 a0_9 a0_10 a1 some
theorem F22_st {β : Type} (k : Nat) (a0_0 a0_1 a0_2 a0_3 a0_4 : Int) (a0_5 a0_6 a0_7 a0_8 : Bool) (a0_9 : List (den rng)) (a0_10 : List (den (.int .u8))) (a1 : Int) (K : A × List (List Leaf) → Option β) : evalF (F22_E k) Try.f22 (F22_a a0_0 a0_1 a0_2 a0_3 a0_4 a0_5 a0_6 a0_7 a0_8 a0_9 a0_10 a1) K =
    F22_T k a0_0 a0_1 a0_2 a0_3 a0_4 a0_5 a0_6 a0_7 a0_8 a0_9 a0_10 a1 (fun r => K (F22_r r)) := by kernel_rfl
theorem F22_ev {β : Type} (k : Nat) (a0_0 a0_1 a0_2 a0_3 a0_4 : Int) (a0_5 a0_6 a0_7 a0_8 : Bool) (a0_9 : List (den rng)) (a0_10 : List (den (.int .u8))) (a1 : Int) (K : A × List (List Leaf) → Option β) : evalF (F22_E k) Try.f22 (F22_a a0_0 a0_1 a0_2 a0_3 a0_4 a0_5 a0_6 a0_7 a0_8 a0_9 a0_10 a1) K = (F22 k a0_0 a0_1 a0_2 a0_3 a0_4 a0_5 a0_6 a0_7 a0_8 a0_9 a0_10 a1).bind fun r => K (F22_r r) := by
  rw [F22_st, F22]
  simp only [F22_T, bind_cond, Option.bind_assoc, Option.bind_some, Option.bind_none, Option.bind_fun_some]
theorem F22_tOk (k : Nat) : TabFn Try.prog (F22_t k) := .ent (F65_q k) F65_f (.ent (F66_q k) F66_f (.none))
theorem F22_con (k : Nat) (a0_0 a0_1 a0_2 a0_3 a0_4 : Int) (a0_5 a0_6 a0_7 a0_8 : Bool) (a0_9 : List (den rng)) (a0_10 : List (den (.int .u8))) (a1 : Int) : Contract Try.prog 22 (F22_a a0_0 a0_1 a0_2 a0_3 a0_4 a0_5 a0_6 a0_7 a0_8 a0_9 a0_10 a1) ⟨F22 k a0_0 a0_1 a0_2 a0_3 a0_4 a0_5 a0_6 a0_7 a0_8 a0_9 a0_10 a1, F22_r⟩ := con_of (envOk (F22_tOk k) _ _ _ _) mixed Try.func22 rfl rfl (F22_ev k a0_0 a0_1 a0_2 a0_3 a0_4 a0_5 a0_6 a0_7 a0_8 a0_9 a0_10 a1 some)
def F22_sh : List AK := [.agg [.l (.int .i64), .l (.int .i64), .l (.int .i64), .l (.int .i64), .l (.int .i64), .l (.bool), .l (.bool), .l (.bool), .l (.bool), .l (.sl .ro rng), .l (.sl .ro (.int .u8))], .one (.l (.int .i64))]
def F22_p (k : Nat) : List Arg → Option CR := cle F22_sh fun x => ⟨F22 k x.1.1 x.1.2.1 x.1.2.2.1 x.1.2.2.2.1 x.1.2.2.2.2.1 x.1.2.2.2.2.2.1 x.1.2.2.2.2.2.2.1 x.1.2.2.2.2.2.2.2.1 x.1.2.2.2.2.2.2.2.2.1 x.1.2.2.2.2.2.2.2.2.2.1 x.1.2.2.2.2.2.2.2.2.2.2.1 x.2.1, F22_r⟩
theorem F22_q (k : Nat) : ∀ xs cr, F22_p k xs = some cr → Contract Try.prog 22 xs cr := cle_ok fun x => F22_con k _ _ _ _ _ _ _ _ _ _ _ _
theorem F22_f : FnOk Try.prog 22 := .of (by kernel_rfl)
abbrev F93_E (k : Nat) : Env := env noTab noHint .own [] k
abbrev F93_a (a0_0 a0_1 : Int) : List Arg := [.agg [.l (.v (.int .i64 a0_0)), .l (.v (.int .i64 a0_1))]]
def F93_r (r : Int × Int) : A × List (List Leaf) := (.agg [.v (.int .i64 r.1), .v (.int .i64 r.2)], [])
def F93 (k : Nat) (a0_0 a0_1 : Int) : Option (Int × Int) := some (a0_0, a0_1)
theorem F93_st {β : Type} (k : Nat) (a0_0 a0_1 : Int) (K : A × List (List Leaf) → Option β) : evalF (F93_E k) Try.f93 (F93_a a0_0 a0_1) K =
    K (.agg [.v (.int .i64 a0_0), .v (.int .i64 a0_1)], []) := by kernel_rfl
theorem F93_ev {β : Type} (k : Nat) (a0_0 a0_1 : Int) (K : A × List (List Leaf) → Option β) : evalF (F93_E k) Try.f93 (F93_a a0_0 a0_1) K = (F93 k a0_0 a0_1).bind fun r => K (F93_r r) := by
  rw [F93_st, F93]
  simp only [F93_r, bind_cond, Option.bind_assoc, Option.bind_some, Option.bind_none, Option.bind_fun_some]
theorem F93_con (k : Nat) (a0_0 a0_1 : Int) : Contract Try.prog 93 (F93_a a0_0 a0_1) ⟨F93 k a0_0 a0_1, F93_r⟩ := con_of (envOk .none _ _ _ _) mixed Try.func93 rfl rfl (F93_ev k a0_0 a0_1 some)
def F93_sh : List AK := [.agg [.l (.int .i64), .l (.int .i64)]]
def F93_p (k : Nat) : List Arg → Option CR := cle F93_sh fun x => ⟨F93 k x.1.1 x.1.2.1, F93_r⟩
theorem F93_q (k : Nat) : ∀ xs cr, F93_p k xs = some cr → Contract Try.prog 93 xs cr := cle_ok fun x => F93_con k _ _
theorem F93_f : FnOk Try.prog 93 := .of (by kernel_rfl)
def F67_h : Nat → Hint
  | 0 => ⟨[(0, .plain), (3, .plain), (4, .plain)], [(7000, .plain)]⟩
  | _ => ⟨[], []⟩
def F67_t (k : Nat) : Tab := entT 93 (F93_p k) <| noTab
abbrev F67_E (k : Nat) : Env := env (F67_t k) F67_h .own [] k
abbrev F67_a (a0 : List (den rng)) : List Arg := [.one (.l (.s .ro rng a0))]
def F67_r (r : List (den rng)) : A × List (List Leaf) := (.one (.s .own rng r), [])
def F67_s0 (a0 : List (den rng)) (x4_0 : Int) (m7000_0 : List (den rng)) : St := ⟨(.one (.s .ro rng a0)) :: (.one .d) :: (.one .d) :: (.one (.a (.cell 7000) 0 0 none)) :: (.one (.v (.int .i64 x4_0))) :: dz 18 [], [(7000, ⟨.s .own rng m7000_0, 0, 0⟩)]⟩
def F67_l0_T {β : Type} (k : Nat) (a0 : List (den rng)) (NX : Int → List (den rng) → Option β) (RET : List (den rng) → Option β) (x4_0 : Int) (m7000_0 : List (den rng)) : Option β := cond (decide (x4_0 < ((a0.length : Nat) : Int))) (cond (decide (0 ≤ x4_0)) (cond (decide (x4_0 < ((a0.length : Nat) : Int))) ((F93 k ((atI a0 x4_0).1) ((atI a0 x4_0).2)).bind fun b1 => cond (decide (0 ≤ x4_0)) (cond (decide (x4_0 < ((m7000_0.length : Nat) : Int))) (NX (IntKind.i64.wrap (x4_0 + 1)) (m7000_0.set x4_0.toNat b1)) none) none) none) none) (RET m7000_0)
def F67_l0 (k : Nat) (a0 : List (den rng)) : Nat → Int → List (den rng) → Option (List (den rng))
  | 0, _, _ => none
  | n + 1, x4_0, m7000_0 => F67_l0_T k a0 (fun x4_0 m7000_0 => F67_l0 k a0 n x4_0 m7000_0) some x4_0 m7000_0
theorem F67_l0_rd {β : Type} (k n : Nat) (a0 : List (den rng)) (x4_0 : Int) (m7000_0 : List (den rng)) (K : A × List (List Leaf) → Option β) :
    loopG (F67_E k) Try.f67 [1, 1, 0, 1, 0] 0 (kontAt (F67_E k) [1, 1, 0, 1, 0] (bodyOf Try.f67) 0 (endC (F67_E k) Try.f67 (F67_a a0) K)) (n + 1) (F67_s0 a0 x4_0 m7000_0) =
    F67_l0_T k a0 (fun x4_0 m7000_0 => loopG (F67_E k) Try.f67 [1, 1, 0, 1, 0] 0 (kontAt (F67_E k) [1, 1, 0, 1, 0] (bodyOf Try.f67) 0 (endC (F67_E k) Try.f67 (F67_a a0) K)) n (F67_s0 a0 x4_0 m7000_0)) (fun r => K (F67_r r)) x4_0 m7000_0 := by kernel_rfl
theorem F67_l0_lp {β : Type} (k : Nat) (a0 : List (den rng)) (K : A × List (List Leaf) → Option β) (n : Nat) : ∀ (x4_0 : Int) (m7000_0 : List (den rng)), loopG (F67_E k) Try.f67 [1, 1, 0, 1, 0] 0 (kontAt (F67_E k) [1, 1, 0, 1, 0] (bodyOf Try.f67) 0 (endC (F67_E k) Try.f67 (F67_a a0) K)) n (F67_s0 a0 x4_0 m7000_0) =
    (F67_l0 k a0 n x4_0 m7000_0).bind fun r => K (F67_r r) := by
  induction n with
  | zero => intros; rfl
  | succ n ih =>
    intros
    rw [F67_l0_rd, F67_l0]
    simp only [F67_l0_T, bind_cond, Option.bind_assoc, Option.bind_some, Option.bind_none, Option.bind_fun_some, ih]
def F67_T {β : Type} (k : Nat) (a0 : List (den rng)) (LP0 : Int → List (den rng) → Option β) : Option β := cond (decide (0 ≤ ((a0.length : Nat) : Int)) && decide (((a0.length : Nat) : Int) = ((a0.length : Nat) : Int)) && decide (((a0.length : Nat) : Int) * (16 : Nat) ≤ 140737488355328)) (LP0 0 (List.replicate (((a0.length : Nat) : Int).toNat) (dflt rng))) none
def F67 (k : Nat) (a0 : List (den rng)) : Option (List (den rng)) := F67_T k a0 (fun x4_0 m7000_0 => F67_l0 k a0 k x4_0 m7000_0)
theorem F67_st {β : Type} (k : Nat) (a0 : List (den rng)) (K : A × List (List Leaf) → Option β) : evalF (F67_E k) Try.f67 (F67_a a0) K =
    F67_T k a0 (fun x4_0 m7000_0 => loopG (F67_E k) Try.f67 [1, 1, 0, 1, 0] 0 (kontAt (F67_E k) [1, 1, 0, 1, 0] (bodyOf Try.f67) 0 (endC (F67_E k) Try.f67 (F67_a a0) K)) k (F67_s0 a0 x4_0 m7000_0)) := by kernel_rfl
theorem F67_ev {β : Type} (k : Nat) (a0 : List (den rng)) (K : A × List (List Leaf) → Option β) : evalF (F67_E k) Try.f67 (F67_a a0) K = (F67 k a0).bind fun r => K (F67_r r) := by
  rw [F67_st, F67]
  simp only [F67_T, bind_cond, Option.bind_assoc, Option.bind_some, Option.bind_none, Option.bind_fun_some, F67_l0_lp]
theorem F67_tOk (k : Nat) : TabFn Try.prog (F67_t k) := .ent (F93_q k) F93_f (.none)
theorem F67_con (k : Nat) (a0 : List (den rng)) : Contract Try.prog 67 (F67_a a0) ⟨F67 k a0, F67_r⟩ := con_of (envOk (F67_tOk k) _ _ _ _) mixed Try.func67 rfl rfl (F67_ev k a0 some)
def F67_sh : List AK := [.one (.l (.sl .ro rng))]
def F67_p (k : Nat) : List Arg → Option CR := cle F67_sh fun x => ⟨F67 k x.1, F67_r⟩
theorem F67_q (k : Nat) : ∀ xs cr, F67_p k xs = some cr → Contract Try.prog 67 xs cr := cle_ok fun x => F67_con k _
theorem F67_f : FnOk Try.prog 67 := .of (by kernel_rfl)
def F38_h : Nat → Hint
  | 0 => ⟨[(0, .plain), (3, .plain), (4, .plain)], [(7000, .plain)]⟩
  | _ => ⟨[], []⟩
abbrev F38_E (k : Nat) : Env := env noTab F38_h .own [] k
abbrev F38_a (a0 : List (den (.int .u8))) : List Arg := [.one (.l (.s .ro (.int .u8) a0))]
def F38_r (r : List (den (.int .u8))) : A × List (List Leaf) := (.one (.s .own (.int .u8) r), [])
def F38_s0 (a0 : List (den (.int .u8))) (x4_0 : Int) (m7000_0 : List (den (.int .u8))) : St := ⟨(.one (.s .ro (.int .u8) a0)) :: (.one .d) :: (.one .d) :: (.one (.a (.cell 7000) 0 0 none)) :: (.one (.v (.int .i64 x4_0))) :: dz 17 [], [(7000, ⟨.s .own (.int .u8) m7000_0, 0, 0⟩)]⟩
def F38_l0_T {β : Type} (k : Nat) (a0 : List (den (.int .u8))) (NX : Int → List (den (.int .u8)) → Option β) (RET : List (den (.int .u8)) → Option β) (x4_0 : Int) (m7000_0 : List (den (.int .u8))) : Option β := cond (decide (x4_0 < ((a0.length : Nat) : Int))) (cond (decide (0 ≤ x4_0)) (cond (decide (x4_0 < ((a0.length : Nat) : Int))) (cond (decide (0 ≤ x4_0)) (cond (decide (x4_0 < ((m7000_0.length : Nat) : Int))) (NX (IntKind.i64.wrap (x4_0 + 1)) (m7000_0.set x4_0.toNat (atI a0 x4_0))) none) none) none) none) (RET m7000_0)
def F38_l0 (k : Nat) (a0 : List (den (.int .u8))) : Nat → Int → List (den (.int .u8)) → Option (List (den (.int .u8)))
  | 0, _, _ => none
  | n + 1, x4_0, m7000_0 => F38_l0_T k a0 (fun x4_0 m7000_0 => F38_l0 k a0 n x4_0 m7000_0) some x4_0 m7000_0
theorem F38_l0_rd {β : Type} (k n : Nat) (a0 : List (den (.int .u8))) (x4_0 : Int) (m7000_0 : List (den (.int .u8))) (K : A × List (List Leaf) → Option β) :
    loopG (F38_E k) Try.f38 [1, 1, 0, 1, 0] 0 (kontAt (F38_E k) [1, 1, 0, 1, 0] (bodyOf Try.f38) 0 (endC (F38_E k) Try.f38 (F38_a a0) K)) (n + 1) (F38_s0 a0 x4_0 m7000_0) =
    F38_l0_T k a0 (fun x4_0 m7000_0 => loopG (F38_E k) Try.f38 [1, 1, 0, 1, 0] 0 (kontAt (F38_E k) [1, 1, 0, 1, 0] (bodyOf Try.f38) 0 (endC (F38_E k) Try.f38 (F38_a a0) K)) n (F38_s0 a0 x4_0 m7000_0)) (fun r => K (F38_r r)) x4_0 m7000_0 := by kernel_rfl
theorem F38_l0_lp {β : Type} (k : Nat) (a0 : List (den (.int .u8))) (K : A × List (List Leaf) → Option β) (n : Nat) : ∀ (x4_0 : Int) (m7000_0 : List (den (.int .u8))), loopG (F38_E k) Try.f38 [1, 1, 0, 1, 0] 0 (kontAt (F38_E k) [1, 1, 0, 1, 0] (bodyOf Try.f38) 0 (endC (F38_E k) Try.f38 (F38_a a0) K)) n (F38_s0 a0 x4_0 m7000_0) =
    (F38_l0 k a0 n x4_0 m7000_0).bind fun r => K (F38_r r) := by
  induction n with
  | zero => intros; rfl
  | succ n ih =>
    intros
    rw [F38_l0_rd, F38_l0]
    simp only [F38_l0_T, bind_cond, Option.bind_assoc, Option.bind_some, Option.bind_none, Option.bind_fun_some, ih]
def F38_T {β : Type} (k : Nat) (a0 : List (den (.int .u8))) (LP0 : Int → List (den (.int .u8)) → Option β) : Option β := cond (decide (0 ≤ ((a0.length : Nat) : Int)) && decide (((a0.length : Nat) : Int) = ((a0.length : Nat) : Int)) && decide (((a0.length : Nat) : Int) * (1 : Nat) ≤ 140737488355328)) (LP0 0 (List.replicate (((a0.length : Nat) : Int).toNat) (dflt (.int .u8)))) none
def F38 (k : Nat) (a0 : List (den (.int .u8))) : Option (List (den (.int .u8))) := F38_T k a0 (fun x4_0 m7000_0 => F38_l0 k a0 k x4_0 m7000_0)
theorem F38_st {β : Type} (k : Nat) (a0 : List (den (.int .u8))) (K : A × List (List Leaf) → Option β) : evalF (F38_E k) Try.f38 (F38_a a0) K =
    F38_T k a0 (fun x4_0 m7000_0 => loopG (F38_E k) Try.f38 [1, 1, 0, 1, 0] 0 (kontAt (F38_E k) [1, 1, 0, 1, 0] (bodyOf Try.f38) 0 (endC (F38_E k) Try.f38 (F38_a a0) K)) k (F38_s0 a0 x4_0 m7000_0)) := by kernel_rfl
theorem F38_ev {β : Type} (k : Nat) (a0 : List (den (.int .u8))) (K : A × List (List Leaf) → Option β) : evalF (F38_E k) Try.f38 (F38_a a0) K = (F38 k a0).bind fun r => K (F38_r r) := by
  rw [F38_st, F38]
  simp only [F38_T, bind_cond, Option.bind_assoc, Option.bind_some, Option.bind_none, Option.bind_fun_some, F38_l0_lp]
theorem F38_con (k : Nat) (a0 : List (den (.int .u8))) : Contract Try.prog 38 (F38_a a0) ⟨F38 k a0, F38_r⟩ := con_of (envOk .none _ _ _ _) mixed Try.func38 rfl rfl (F38_ev k a0 some)
def F38_sh : List AK := [.one (.l (.sl .ro (.int .u8)))]
def F38_p (k : Nat) : List Arg → Option CR := cle F38_sh fun x => ⟨F38 k x.1, F38_r⟩
theorem F38_q (k : Nat) : ∀ xs cr, F38_p k xs = some cr → Contract Try.prog 38 xs cr := cle_ok fun x => F38_con k _
theorem F38_f : FnOk Try.prog 38 := .of (by kernel_rfl)
def F23_t (k : Nat) : Tab := entT 67 (F67_p k) <| entT 38 (F38_p k) <| noTab
abbrev F23_E (k : Nat) : Env := env (F23_t k) noHint .own [] k
abbrev F23_a (a0_0 a0_1 a0_2 a0_3 a0_4 : Int) (a0_5 a0_6 a0_7 a0_8 : Bool) (a0_9 : List (den rng)) (a0_10 : List (den (.int .u8))) : List Arg := [.agg [.l (.v (.int .i64 a0_0)), .l (.v (.int .i64 a0_1)), .l (.v (.int .i64 a0_2)), .l (.v (.int .i64 a0_3)), .l (.v (.int .i64 a0_4)), .l (.v (.bool a0_5)), .l (.v (.bool a0_6)), .l (.v (.bool a0_7)), .l (.v (.bool a0_8)), .l (.s .ro rng a0_9), .l (.s .ro (.int .u8) a0_10)]]
def F23_r (r : Int × Int × Int × Int × Int × Bool × Bool × Bool × Bool × List (den rng) × List (den (.int .u8))) : A × List (List Leaf) := (.agg [.v (.int .i64 r.1), .v (.int .i64 r.2.1), .v (.int .i64 r.2.2.1), .v (.int .i64 r.2.2.2.1), .v (.int .i64 r.2.2.2.2.1), .v (.bool r.2.2.2.2.2.1), .v (.bool r.2.2.2.2.2.2.1), .v (.bool r.2.2.2.2.2.2.2.1), .v (.bool r.2.2.2.2.2.2.2.2.1), .s .own rng r.2.2.2.2.2.2.2.2.2.1, .s .own (.int .u8) r.2.2.2.2.2.2.2.2.2.2], [])
def F23_T {β : Type} (k : Nat) (a0_0 a0_1 a0_2 a0_3 a0_4 : Int) (a0_5 a0_6 a0_7 a0_8 : Bool) (a0_9 : List (den rng)) (a0_10 : List (den (.int .u8))) (RET : (Int × Int × Int × Int × Int × Bool × Bool × Bool × Bool × List (den rng) × List (den (.int .u8))) → Option β) : Option β := (F67 k a0_9).bind fun b1 => (F38 k a0_10).bind fun b2 => RET (a0_0, a0_1, a0_2, a0_3, a0_4, a0_5, a0_6, a0_7, a0_8, b1, b2)
def F23 (k : Nat) (a0_0 a0_1 a0_2 a0_3 a0_4 : Int) (a0_5 a0_6 a0_7 a0_8 : Bool) (a0_9 : List (den rng)) (a0_10 : List (den (.int .u8))) : Option (Int × Int × Int × Int × Int × Bool × Bool × Bool × Bool × List (den rng) × List (den (.int .u8))) := F23_T k a0_0 a0_1 a0_2 a0_3 a0_4 a0_5 a0_6 a0_7 a0_8 a0_9 a0_10 some
theorem F23_st {β : Type} (k : Nat) (a0_0 a0_1 a0_2 a0_3 a0_4 : Int) (a0_5 a0_6 a0_7 a0_8 : Bool) (a0_9 : List (den rng)) (a0_10 : List (den (.int .u8))) (K : A × List (List Leaf) → Option β) : evalF (F23_E k) Try.f23 (F23_a a0_0 a0_1 a0_2 a0_3 a0_4 a0_5 a0_6 a0_7 a0_8 a0_9 a0_10) K =
    F23_T k a0_0 a0_1 a0_2 a0_3 a0_4 a0_5 a0_6 a0_7 a0_8 a0_9 a0_10 (fun r => K (F23_r r)) := by kernel_rfl
theorem F23_ev {β : Type} (k : Nat) (a0_0 a0_1 a0_2 a0_3 a0_4 : Int) (a0_5 a0_6 a0_7 a0_8 : Bool) (a0_9 : List (den rng)) (a0_10 : List (den (.int .u8))) (K : A × List (List Leaf) → Option β) : evalF (F23_E k) Try.f23 (F23_a a0_0 a0_1 a0_2 a0_3 a0_4 a0_5 a0_6 a0_7 a0_8 a0_9 a0_10) K = (F23 k a0_0 a0_1 a0_2 a0_3 a0_4 a0_5 a0_6 a0_7 a0_8 a0_9 a0_10).bind fun r => K (F23_r r) := by
  rw [F23_st, F23]
  simp only [F23_T, bind_cond, Option.bind_assoc, Option.bind_some, Option.bind_none, Option.bind_fun_some]
theorem F23_tOk (k : Nat) : TabFn Try.prog (F23_t k) := .ent (F67_q k) F67_f (.ent (F38_q k) F38_f (.none))
theorem F23_con (k : Nat) (a0_0 a0_1 a0_2 a0_3 a0_4 : Int) (a0_5 a0_6 a0_7 a0_8 : Bool) (a0_9 : List (den rng)) (a0_10 : List (den (.int .u8))) : Contract Try.prog 23 (F23_a a0_0 a0_1 a0_2 a0_3 a0_4 a0_5 a0_6 a0_7 a0_8 a0_9 a0_10) ⟨F23 k a0_0 a0_1 a0_2 a0_3 a0_4 a0_5 a0_6 a0_7 a0_8 a0_9 a0_10, F23_r⟩ := con_of (envOk (F23_tOk k) _ _ _ _) mixed Try.func23 rfl rfl (F23_ev k a0_0 a0_1 a0_2 a0_3 a0_4 a0_5 a0_6 a0_7 a0_8 a0_9 a0_10 some)
def F23_sh : List AK := [.agg [.l (.int .i64), .l (.int .i64), .l (.int .i64), .l (.int .i64), .l (.int .i64), .l (.bool), .l (.bool), .l (.bool), .l (.bool), .l (.sl .ro rng), .l (.sl .ro (.int .u8))]]
def F23_p (k : Nat) : List Arg → Option CR := cle F23_sh fun x => ⟨F23 k x.1.1 x.1.2.1 x.1.2.2.1 x.1.2.2.2.1 x.1.2.2.2.2.1 x.1.2.2.2.2.2.1 x.1.2.2.2.2.2.2.1 x.1.2.2.2.2.2.2.2.1 x.1.2.2.2.2.2.2.2.2.1 x.1.2.2.2.2.2.2.2.2.2.1 x.1.2.2.2.2.2.2.2.2.2.2.1, F23_r⟩
theorem F23_q (k : Nat) : ∀ xs cr, F23_p k xs = some cr → Contract Try.prog 23 xs cr := cle_ok fun x => F23_con k _ _ _ _ _ _ _ _ _ _ _
theorem F23_f : FnOk Try.prog 23 := .of (by kernel_rfl)
abbrev F51_E (k : Nat) : Env := env noTab noHint .own [] k
abbrev F51_a (a0 a1 a2 : Int) : List Arg := [.one (.l (.v (.int .i64 a0))), .one (.l (.v (.int .i64 a1))), .one (.l (.v (.int .i64 a2)))]
def F51_r (r : Bool) : A × List (List Leaf) := (.one (.v (.bool r)), [])
def F51 (k : Nat) (a0 a1 a2 : Int) : Option (Bool) := cond (decide (a0 ≥ a1)) (some (decide (a0 ≤ a2))) (some false)
theorem F51_st {β : Type} (k : Nat) (a0 a1 a2 : Int) (K : A × List (List Leaf) → Option β) : evalF (F51_E k) Try.f51 (F51_a a0 a1 a2) K =
    cond (decide (a0 ≥ a1)) (K (.one (.v (.bool (decide (a0 ≤ a2)))), [])) (K (.one (.v (.bool false)), [])) := by kernel_rfl
theorem F51_ev {β : Type} (k : Nat) (a0 a1 a2 : Int) (K : A × List (List Leaf) → Option β) : evalF (F51_E k) Try.f51 (F51_a a0 a1 a2) K = (F51 k a0 a1 a2).bind fun r => K (F51_r r) := by
  rw [F51_st, F51]
  simp only [F51_r, bind_cond, Option.bind_assoc, Option.bind_some, Option.bind_none, Option.bind_fun_some]
theorem F51_con (k : Nat) (a0 a1 a2 : Int) : Contract Try.prog 51 (F51_a a0 a1 a2) ⟨F51 k a0 a1 a2, F51_r⟩ := con_of (envOk .none _ _ _ _) mixed Try.func51 rfl rfl (F51_ev k a0 a1 a2 some)
def F51_sh : List AK := [.one (.l (.int .i64)), .one (.l (.int .i64)), .one (.l (.int .i64))]
def F51_p (k : Nat) : List Arg → Option CR := cle F51_sh fun x => ⟨F51 k x.1 x.2.1 x.2.2.1, F51_r⟩
theorem F51_q (k : Nat) : ∀ xs cr, F51_p k xs = some cr → Contract Try.prog 51 xs cr := cle_ok fun x => F51_con k _ _ _
theorem F51_f : FnOk Try.prog 51 := .of (by kernel_rfl)
def F50_h : Nat → Hint
  | 0 => ⟨[(1, .plain), (3, .plain)], [(1000, .plain), (1001, .plain), (1002, .plain), (1003, .plain), (1004, .plain), (1005, .plain), (1006, .plain), (1007, .plain), (1008, .plain), (1009, .plain), (1010, .plain)]⟩
  | _ => ⟨[], []⟩
def F50_t (k : Nat) : Tab := entT 51 (F51_p k) <| noTab
abbrev F50_E (k : Nat) : Env := env (F50_t k) F50_h .own [] k
abbrev F50_a (a0_0 a0_1 a0_2 a0_3 a0_4 : Int) (a0_5 a0_6 a0_7 a0_8 : Bool) (a0_9 : List (den rng)) (a0_10 : List (den (.int .u8))) : List Arg := [.agg [.l (.v (.int .i64 a0_0)), .l (.v (.int .i64 a0_1)), .l (.v (.int .i64 a0_2)), .l (.v (.int .i64 a0_3)), .l (.v (.int .i64 a0_4)), .l (.v (.bool a0_5)), .l (.v (.bool a0_6)), .l (.v (.bool a0_7)), .l (.v (.bool a0_8)), .l (.s .ro rng a0_9), .l (.s .ro (.int .u8) a0_10)]]
def F50_r (r : Bool) : A × List (List Leaf) := (.one (.v (.bool r)), [])
def F50_s0 (a0_0 a0_1 a0_2 a0_3 a0_4 : Int) (a0_5 a0_6 a0_7 a0_8 : Bool) (a0_9 : List (den rng)) (a0_10 : List (den (.int .u8))) (x3_0 : Int) : St := ⟨(.one .d) :: (.one (.ptr (.cell 1000) 11 0)) :: (.one .d) :: (.one (.v (.int .i64 x3_0))) :: dz 103 [], [(1000, ⟨.v (.int .i64 a0_0), 0, 0⟩), (1001, ⟨.v (.int .i64 a0_1), 0, 0⟩), (1002, ⟨.v (.int .i64 a0_2), 0, 0⟩), (1003, ⟨.v (.int .i64 a0_3), 0, 0⟩), (1004, ⟨.v (.int .i64 a0_4), 0, 0⟩), (1005, ⟨.v (.bool a0_5), 0, 0⟩), (1006, ⟨.v (.bool a0_6), 0, 0⟩), (1007, ⟨.v (.bool a0_7), 0, 0⟩), (1008, ⟨.v (.bool a0_8), 0, 0⟩), (1009, ⟨.s .ro rng a0_9, 0, 0⟩), (1010, ⟨.s .ro (.int .u8) a0_10, 0, 0⟩)]⟩
def F50_l0_T {β : Type} (k : Nat) (a0_0 a0_1 a0_2 a0_3 a0_4 : Int) (a0_5 a0_6 a0_7 a0_8 : Bool) (a0_9 : List (den rng)) (a0_10 : List (den (.int .u8))) (NX : Int → Option β) (RET : Bool → Option β) (x3_0 : Int) : Option β := cond (decide (x3_0 < ((a0_9.length : Nat) : Int))) (cond (decide (0 ≤ x3_0)) (cond (decide (x3_0 < ((a0_9.length : Nat) : Int))) ((F51 k ((atI a0_9 x3_0).1) 0 65535).bind fun b6 => cond (!b6) (RET false) (cond (decide (0 ≤ x3_0)) (cond (decide (x3_0 < ((a0_9.length : Nat) : Int))) ((F51 k ((atI a0_9 x3_0).2) 0 65535).bind fun b7 => cond (!b7) (RET false) (NX (IntKind.i64.wrap (x3_0 + 1)))) none) none)) none) none) (cond (!a0_6) (cond (a0_3 != 0) (RET false) (cond (a0_4 != 0) (RET false) (cond (decide (((a0_9.length : Nat) : Int) > 0)) (RET false) (cond (!a0_8) (RET true) (cond (!a0_5) (cond (!a0_7) (RET (((a0_10.length : Nat) : Int) == 0)) (RET false)) (RET false)))))) (cond (!a0_8) (RET true) (cond (!a0_5) (cond (!a0_7) (RET (((a0_10.length : Nat) : Int) == 0)) (RET false)) (RET false))))
def F50_l0 (k : Nat) (a0_0 a0_1 a0_2 a0_3 a0_4 : Int) (a0_5 a0_6 a0_7 a0_8 : Bool) (a0_9 : List (den rng)) (a0_10 : List (den (.int .u8))) : Nat → Int → Option (Bool)
  | 0, _ => none
  | n + 1, x3_0 => F50_l0_T k a0_0 a0_1 a0_2 a0_3 a0_4 a0_5 a0_6 a0_7 a0_8 a0_9 a0_10 (fun x3_0 => F50_l0 k a0_0 a0_1 a0_2 a0_3 a0_4 a0_5 a0_6 a0_7 a0_8 a0_9 a0_10 n x3_0) some x3_0
theorem F50_l0_rd {β : Type} (k n : Nat) (a0_0 a0_1 a0_2 a0_3 a0_4 : Int) (a0_5 a0_6 a0_7 a0_8 : Bool) (a0_9 : List (den rng)) (a0_10 : List (den (.int .u8))) (x3_0 : Int) (K : A × List (List Leaf) → Option β) :
    loopG (F50_E k) Try.f50 [1, 1, 0, 1, 0] 0 (kontAt (F50_E k) [1, 1, 0, 1, 0] (bodyOf Try.f50) 0 (endC (F50_E k) Try.f50 (F50_a a0_0 a0_1 a0_2 a0_3 a0_4 a0_5 a0_6 a0_7 a0_8 a0_9 a0_10) K)) (n + 1) (F50_s0 a0_0 a0_1 a0_2 a0_3 a0_4 a0_5 a0_6 a0_7 a0_8 a0_9 a0_10 x3_0) =
    F50_l0_T k a0_0 a0_1 a0_2 a0_3 a0_4 a0_5 a0_6 a0_7 a0_8 a0_9 a0_10 (fun x3_0 => loopG (F50_E k) Try.f50 [1, 1, 0, 1, 0] 0 (kontAt (F50_E k) [1, 1, 0, 1, 0] (bodyOf Try.f50) 0 (endC (F50_E k) Try.f50 (F50_a a0_0 a0_1 a0_2 a0_3 a0_4 a0_5 a0_6 a0_7 a0_8 a0_9 a0_10) K)) n (F50_s0 a0_0 a0_1 a0_2 a0_3 a0_4 a0_5 a0_6 a0_7 a0_8 a0_9 a0_10 x3_0)) (fun r => K (F50_r r)) x3_0 := by kernel_rfl
theorem F50_l0_lp {β : Type} (k : Nat) (a0_0 a0_1 a0_2 a0_3 a0_4 : Int) (a0_5 a0_6 a0_7 a0_8 : Bool) (a0_9 : List (den rng)) (a0_10 : List (den (.int .u8))) (K : A × List (List Leaf) → Option β) (n : Nat) : ∀ (x3_0 : Int), loopG (F50_E k) Try.f50 [1, 1, 0, 1, 0] 0 (kontAt (F50_E k) [1, 1, 0, 1, 0] (bodyOf Try.f50) 0 (endC (F50_E k) Try.f50 (F50_a a0_0 a0_1 a0_2 a0_3 a0_4 a0_5 a0_6 a0_7 a0_8 a0_9 a0_10) K)) n (F50_s0 a0_0 a0_1 a0_2 a0_3 a0_4 a0_5 a0_6 a0_7 a0_8 a0_9 a0_10 x3_0) =
    (F50_l0 k a0_0 a0_1 a0_2 a0_3 a0_4 a0_5 a0_6 a0_7 a0_8 a0_9 a0_10 n x3_0).bind fun r => K (F50_r r) := by
  induction n with
  | zero => intros; rfl
  | succ n ih =>
    intros
    rw [F50_l0_rd, F50_l0]
    simp only [F50_l0_T, bind_cond, Option.bind_assoc, Option.bind_some, Option.bind_none, Option.bind_fun_some, ih]
def F50_T {β : Type} (k : Nat) (a0_0 a0_1 a0_2 a0_3 a0_4 : Int) (a0_5 a0_6 a0_7 a0_8 : Bool) (a0_9 : List (den rng)) (a0_10 : List (den (.int .u8))) (LP0 : Int → Option β) (RET : Bool → Option β) : Option β := (F51 k a0_0 1 255).bind fun b1 => cond (!b1) (RET false) ((F51 k a0_1 1 255).bind fun b2 => cond (!b2) (RET false) ((F51 k a0_2 0 65535).bind fun b3 => cond (!b3) (RET false) ((F51 k a0_3 0 65535).bind fun b4 => cond (!b4) (RET false) ((F51 k a0_4 0 255).bind fun b5 => cond (!b5) (RET false) (cond (decide (((a0_9.length : Nat) : Int) > 2)) (RET false) (cond (decide (((a0_10.length : Nat) : Int) > 12)) (RET false) (LP0 0)))))))
def F50 (k : Nat) (a0_0 a0_1 a0_2 a0_3 a0_4 : Int) (a0_5 a0_6 a0_7 a0_8 : Bool) (a0_9 : List (den rng)) (a0_10 : List (den (.int .u8))) : Option (Bool) := F50_T k a0_0 a0_1 a0_2 a0_3 a0_4 a0_5 a0_6 a0_7 a0_8 a0_9 a0_10 (fun x3_0 => F50_l0 k a0_0 a0_1 a0_2 a0_3 a0_4 a0_5 a0_6 a0_7 a0_8 a0_9 a0_10 k x3_0) some
theorem F50_st {β : Type} (k : Nat) (a0_0 a0_1 a0_2 a0_3 a0_4 : Int) (a0_5 a0_6 a0_7 a0_8 : Bool) (a0_9 : List (den rng)) (a0_10 : List (den (.int .u8))) (K : A × List (List Leaf) → Option β) : evalF (F50_E k) Try.f50 (F50_a a0_0 a0_1 a0_2 a0_3 a0_4 a0_5 a0_6 a0_7 a0_8 a0_9 a0_10) K =
    F50_T k a0_0 a0_1 a0_2 a0_3 a0_4 a0_5 a0_6 a0_7 a0_8 a0_9 a0_10 (fun x3_0 => loopG (F50_E k) Try.f50 [1, 1, 0, 1, 0] 0 (kontAt (F50_E k) [1, 1, 0, 1, 0] (bodyOf Try.f50) 0 (endC (F50_E k) Try.f50 (F50_a a0_0 a0_1 a0_2 a0_3 a0_4 a0_5 a0_6 a0_7 a0_8 a0_9 a0_10) K)) k (F50_s0 a0_0 a0_1 a0_2 a0_3 a0_4 a0_5 a0_6 a0_7 a0_8 a0_9 a0_10 x3_0)) (fun r => K (F50_r r)) := by kernel_rfl
theorem F50_ev {β : Type} (k : Nat) (a0_0 a0_1 a0_2 a0_3 a0_4 : Int) (a0_5 a0_6 a0_7 a0_8 : Bool) (a0_9 : List (den rng)) (a0_10 : List (den (.int .u8))) (K : A × List (List Leaf) → Option β) : evalF (F50_E k) Try.f50 (F50_a a0_0 a0_1 a0_2 a0_3 a0_4 a0_5 a0_6 a0_7 a0_8 a0_9 a0_10) K = (F50 k a0_0 a0_1 a0_2 a0_3 a0_4 a0_5 a0_6 a0_7 a0_8 a0_9 a0_10).bind fun r => K (F50_r r) := by
  rw [F50_st, F50]
  simp only [F50_T, bind_cond, Option.bind_assoc, Option.bind_some, Option.bind_none, Option.bind_fun_some, F50_l0_lp]
theorem F50_tOk (k : Nat) : TabFn Try.prog (F50_t k) := .ent (F51_q k) F51_f (.none)
theorem F50_con (k : Nat) (a0_0 a0_1 a0_2 a0_3 a0_4 : Int) (a0_5 a0_6 a0_7 a0_8 : Bool) (a0_9 : List (den rng)) (a0_10 : List (den (.int .u8))) : Contract Try.prog 50 (F50_a a0_0 a0_1 a0_2 a0_3 a0_4 a0_5 a0_6 a0_7 a0_8 a0_9 a0_10) ⟨F50 k a0_0 a0_1 a0_2 a0_3 a0_4 a0_5 a0_6 a0_7 a0_8 a0_9 a0_10, F50_r⟩ := con_of (envOk (F50_tOk k) _ _ _ _) mixed Try.func50 rfl rfl (F50_ev k a0_0 a0_1 a0_2 a0_3 a0_4 a0_5 a0_6 a0_7 a0_8 a0_9 a0_10 some)
def F50_sh : List AK := [.agg [.l (.int .i64), .l (.int .i64), .l (.int .i64), .l (.int .i64), .l (.int .i64), .l (.bool), .l (.bool), .l (.bool), .l (.bool), .l (.sl .ro rng), .l (.sl .ro (.int .u8))]]
def F50_p (k : Nat) : List Arg → Option CR := cle F50_sh fun x => ⟨F50 k x.1.1 x.1.2.1 x.1.2.2.1 x.1.2.2.2.1 x.1.2.2.2.2.1 x.1.2.2.2.2.2.1 x.1.2.2.2.2.2.2.1 x.1.2.2.2.2.2.2.2.1 x.1.2.2.2.2.2.2.2.2.1 x.1.2.2.2.2.2.2.2.2.2.1 x.1.2.2.2.2.2.2.2.2.2.2.1, F50_r⟩
theorem F50_q (k : Nat) : ∀ xs cr, F50_p k xs = some cr → Contract Try.prog 50 xs cr := cle_ok fun x => F50_con k _ _ _ _ _ _ _ _ _ _ _
theorem F50_f : FnOk Try.prog 50 := .of (by kernel_rfl)
def F95_h : Nat → Hint
  | 0 => ⟨[(0, .plain), (5, .own .own (.int .u8) []), (6, .plain)], []⟩
  | _ => ⟨[], []⟩
def F95_t (k : Nat) : Tab := entT 51 (F51_p k) <| noTab
abbrev F95_E (k : Nat) : Env := env (F95_t k) F95_h .own [] k
abbrev F95_a (a0 a1 : Int) : List Arg := [.one (.l (.v (.int .i64 a0))), .one (.l (.v (.int .i64 a1)))]
def F95_r (r : List (den (.int .u8))) : A × List (List Leaf) := (.one (.s .own (.int .u8) r), [])
def F95_s0 (a0 a1 : Int) (x6_0 : Int) (m5900_0 : List (den (.int .u8))) : St := ⟨(.one (.v (.int .i64 a0))) :: dz 4 ((.one (.a (.cell 5900) 0 0 none)) :: (.one (.v (.int .i64 x6_0))) :: dz 30 []), [(5900, ⟨.s .own (.int .u8) m5900_0, 0, 0⟩)]⟩
def F95_l0_T {β : Type} (k : Nat) (a0 a1 : Int) (NX : Int → List (den (.int .u8)) → Option β) (RET : List (den (.int .u8)) → Option β) (x6_0 : Int) (m5900_0 : List (den (.int .u8))) : Option β := cond (decide (x6_0 ≥ 0)) (cond (decide ((IntKind.i64.wrap (8 * x6_0)) < 0)) none (cond (decide ((m5900_0.length + [IntKind.u8.wrap (((a0.fdiv (2 ^ (min (IntKind.i64.wrap (8 * x6_0)).toNat 64))).tmod 256))].length) * 1 ≤ 140737488355328)) (NX (IntKind.i64.wrap (x6_0 - 1)) (m5900_0 ++ [IntKind.u8.wrap (((a0.fdiv (2 ^ (min (IntKind.i64.wrap (8 * x6_0)).toNat 64))).tmod 256))])) none)) (RET m5900_0)
def F95_l0 (k : Nat) (a0 a1 : Int) : Nat → Int → List (den (.int .u8)) → Option (List (den (.int .u8)))
  | 0, _, _ => none
  | n + 1, x6_0, m5900_0 => F95_l0_T k a0 a1 (fun x6_0 m5900_0 => F95_l0 k a0 a1 n x6_0 m5900_0) some x6_0 m5900_0
theorem F95_l0_rd {β : Type} (k n : Nat) (a0 a1 : Int) (x6_0 : Int) (m5900_0 : List (den (.int .u8))) (K : A × List (List Leaf) → Option β) :
    loopG (F95_E k) Try.f95 [1, 1, 1, 0, 1, 0] 0 (kontAt (F95_E k) [1, 1, 1, 0, 1, 0] (bodyOf Try.f95) 0 (endC (F95_E k) Try.f95 (F95_a a0 a1) K)) (n + 1) (F95_s0 a0 a1 x6_0 m5900_0) =
    F95_l0_T k a0 a1 (fun x6_0 m5900_0 => loopG (F95_E k) Try.f95 [1, 1, 1, 0, 1, 0] 0 (kontAt (F95_E k) [1, 1, 1, 0, 1, 0] (bodyOf Try.f95) 0 (endC (F95_E k) Try.f95 (F95_a a0 a1) K)) n (F95_s0 a0 a1 x6_0 m5900_0)) (fun r => K (F95_r r)) x6_0 m5900_0 := by kernel_rfl
theorem F95_l0_lp {β : Type} (k : Nat) (a0 a1 : Int) (K : A × List (List Leaf) → Option β) (n : Nat) : ∀ (x6_0 : Int) (m5900_0 : List (den (.int .u8))), loopG (F95_E k) Try.f95 [1, 1, 1, 0, 1, 0] 0 (kontAt (F95_E k) [1, 1, 1, 0, 1, 0] (bodyOf Try.f95) 0 (endC (F95_E k) Try.f95 (F95_a a0 a1) K)) n (F95_s0 a0 a1 x6_0 m5900_0) =
    (F95_l0 k a0 a1 n x6_0 m5900_0).bind fun r => K (F95_r r) := by
  induction n with
  | zero => intros; rfl
  | succ n ih =>
    intros
    rw [F95_l0_rd, F95_l0]
    simp only [F95_l0_T, bind_cond, Option.bind_assoc, Option.bind_some, Option.bind_none, Option.bind_fun_some, ih]
def F95_T {β : Type} (k : Nat) (a0 a1 : Int) (LP0 : Int → List (den (.int .u8)) → Option β) (RET : List (den (.int .u8)) → Option β) : Option β := (F51 k a1 1 4).bind fun b1 => cond (!b1) (RET []) (cond (decide ((IntKind.i64.wrap (8 * a1)) < 0)) none ((F51 k a0 0 (IntKind.i64.wrap ((IntKind.i64.wrap (1 * 2 ^ (min (IntKind.i64.wrap (8 * a1)).toNat 64))) - 1))).bind fun b2 => cond (!b2) (RET []) (LP0 (IntKind.i64.wrap (a1 - 1)) [])))
def F95 (k : Nat) (a0 a1 : Int) : Option (List (den (.int .u8))) := F95_T k a0 a1 (fun x6_0 m5900_0 => F95_l0 k a0 a1 k x6_0 m5900_0) some
theorem F95_st {β : Type} (k : Nat) (a0 a1 : Int) (K : A × List (List Leaf) → Option β) : evalF (F95_E k) Try.f95 (F95_a a0 a1) K =
    F95_T k a0 a1 (fun x6_0 m5900_0 => loopG (F95_E k) Try.f95 [1, 1, 1, 0, 1, 0] 0 (kontAt (F95_E k) [1, 1, 1, 0, 1, 0] (bodyOf Try.f95) 0 (endC (F95_E k) Try.f95 (F95_a a0 a1) K)) k (F95_s0 a0 a1 x6_0 m5900_0)) (fun r => K (F95_r r)) := by kernel_rfl
theorem F95_ev {β : Type} (k : Nat) (a0 a1 : Int) (K : A × List (List Leaf) → Option β) : evalF (F95_E k) Try.f95 (F95_a a0 a1) K = (F95 k a0 a1).bind fun r => K (F95_r r) := by
  rw [F95_st, F95]
  simp only [F95_T, bind_cond, Option.bind_assoc, Option.bind_some, Option.bind_none, Option.bind_fun_some, F95_l0_lp]
theorem F95_tOk (k : Nat) : TabFn Try.prog (F95_t k) := .ent (F51_q k) F51_f (.none)
theorem F95_con (k : Nat) (a0 a1 : Int) : Contract Try.prog 95 (F95_a a0 a1) ⟨F95 k a0 a1, F95_r⟩ := con_of (envOk (F95_tOk k) _ _ _ _) mixed Try.func95 rfl rfl (F95_ev k a0 a1 some)
def F95_sh : List AK := [.one (.l (.int .i64)), .one (.l (.int .i64))]
def F95_p (k : Nat) : List Arg → Option CR := cle F95_sh fun x => ⟨F95 k x.1 x.2.1, F95_r⟩
theorem F95_q (k : Nat) : ∀ xs cr, F95_p k xs = some cr → Contract Try.prog 95 xs cr := cle_ok fun x => F95_con k _ _
theorem F95_f : FnOk Try.prog 95 := .of (by kernel_rfl)
abbrev F96_E (k : Nat) : Env := env noTab noHint .own [] k
abbrev F96_a (a0_0 a0_1 a0_2 a0_3 a0_4 : Int) (a0_5 a0_6 a0_7 a0_8 : Bool) (a0_9 : List (den rng)) (a0_10 : List (den (.int .u8))) : List Arg := [.agg [.l (.v (.int .i64 a0_0)), .l (.v (.int .i64 a0_1)), .l (.v (.int .i64 a0_2)), .l (.v (.int .i64 a0_3)), .l (.v (.int .i64 a0_4)), .l (.v (.bool a0_5)), .l (.v (.bool a0_6)), .l (.v (.bool a0_7)), .l (.v (.bool a0_8)), .l (.s .ro rng a0_9), .l (.s .ro (.int .u8) a0_10)]]
def F96_r (r : Int) : A × List (List Leaf) := (.one (.v (.int .i64 r)), [])
def F96_T {β : Type} (k : Nat) (a0_0 a0_1 a0_2 a0_3 a0_4 : Int) (a0_5 a0_6 a0_7 a0_8 : Bool) (a0_9 : List (den rng)) (a0_10 : List (den (.int .u8))) (RET : Int → Option β) : Option β := cond a0_5 (cond a0_6 (cond a0_7 (cond a0_8 (RET 15) (RET 7)) (cond a0_8 (RET 11) (RET 3))) (cond a0_7 (cond a0_8 (RET 13) (RET 5)) (cond a0_8 (RET 9) (RET 1)))) (cond a0_6 (cond a0_7 (cond a0_8 (RET 14) (RET 6)) (cond a0_8 (RET 10) (RET 2))) (cond a0_7 (cond a0_8 (RET 12) (RET 4)) (cond a0_8 (RET 8) (RET 0))))
def F96 (k : Nat) (a0_0 a0_1 a0_2 a0_3 a0_4 : Int) (a0_5 a0_6 a0_7 a0_8 : Bool) (a0_9 : List (den rng)) (a0_10 : List (den (.int .u8))) : Option (Int) := F96_T k a0_0 a0_1 a0_2 a0_3 a0_4 a0_5 a0_6 a0_7 a0_8 a0_9 a0_10 some
theorem F96_st {β : Type} (k : Nat) (a0_0 a0_1 a0_2 a0_3 a0_4 : Int) (a0_5 a0_6 a0_7 a0_8 : Bool) (a0_9 : List (den rng)) (a0_10 : List (den (.int .u8))) (K : A × List (List Leaf) → Option β) : evalF (F96_E k) Try.f96 (F96_a a0_0 a0_1 a0_2 a0_3 a0_4 a0_5 a0_6 a0_7 a0_8 a0_9 a0_10) K =
    F96_T k a0_0 a0_1 a0_2 a0_3 a0_4 a0_5 a0_6 a0_7 a0_8 a0_9 a0_10 (fun r => K (F96_r r)) := by kernel_rfl
theorem F96_ev {β : Type} (k : Nat) (a0_0 a0_1 a0_2 a0_3 a0_4 : Int) (a0_5 a0_6 a0_7 a0_8 : Bool) (a0_9 : List (den rng)) (a0_10 : List (den (.int .u8))) (K : A × List (List Leaf) → Option β) : evalF (F96_E k) Try.f96 (F96_a a0_0 a0_1 a0_2 a0_3 a0_4 a0_5 a0_6 a0_7 a0_8 a0_9 a0_10) K = (F96 k a0_0 a0_1 a0_2 a0_3 a0_4 a0_5 a0_6 a0_7 a0_8 a0_9 a0_10).bind fun r => K (F96_r r) := by
  rw [F96_st, F96]
  simp only [F96_T, bind_cond, Option.bind_assoc, Option.bind_some, Option.bind_none, Option.bind_fun_some]
theorem F96_con (k : Nat) (a0_0 a0_1 a0_2 a0_3 a0_4 : Int) (a0_5 a0_6 a0_7 a0_8 : Bool) (a0_9 : List (den rng)) (a0_10 : List (den (.int .u8))) : Contract Try.prog 96 (F96_a a0_0 a0_1 a0_2 a0_3 a0_4 a0_5 a0_6 a0_7 a0_8 a0_9 a0_10) ⟨F96 k a0_0 a0_1 a0_2 a0_3 a0_4 a0_5 a0_6 a0_7 a0_8 a0_9 a0_10, F96_r⟩ := con_of (envOk .none _ _ _ _) mixed Try.func96 rfl rfl (F96_ev k a0_0 a0_1 a0_2 a0_3 a0_4 a0_5 a0_6 a0_7 a0_8 a0_9 a0_10 some)
def F96_sh : List AK := [.agg [.l (.int .i64), .l (.int .i64), .l (.int .i64), .l (.int .i64), .l (.int .i64), .l (.bool), .l (.bool), .l (.bool), .l (.bool), .l (.sl .ro rng), .l (.sl .ro (.int .u8))]]
def F96_p (k : Nat) : List Arg → Option CR := cle F96_sh fun x => ⟨F96 k x.1.1 x.1.2.1 x.1.2.2.1 x.1.2.2.2.1 x.1.2.2.2.2.1 x.1.2.2.2.2.2.1 x.1.2.2.2.2.2.2.1 x.1.2.2.2.2.2.2.2.1 x.1.2.2.2.2.2.2.2.2.1 x.1.2.2.2.2.2.2.2.2.2.1 x.1.2.2.2.2.2.2.2.2.2.2.1, F96_r⟩
theorem F96_q (k : Nat) : ∀ xs cr, F96_p k xs = some cr → Contract Try.prog 96 xs cr := cle_ok fun x => F96_con k _ _ _ _ _ _ _ _ _ _ _
theorem F96_f : FnOk Try.prog 96 := .of (by kernel_rfl)
def F116_h : Nat → Hint
  | 0 => ⟨[(0, .plain), (3, .plain), (4, .plain)], []⟩
  | _ => ⟨[], []⟩
abbrev F116_E (k : Nat) : Env := env noTab F116_h .own [] k
abbrev F116_a (a0 : List (den (.int .u8))) : List Arg := [.one (.l (.s .ro (.int .u8) a0))]
def F116_r (r : Int) : A × List (List Leaf) := (.one (.v (.int .i64 r)), [])
def F116_s0 (a0 : List (den (.int .u8))) (x3_0 x4_0 : Int) : St := ⟨(.one (.s .ro (.int .u8) a0)) :: (.one .d) :: (.one .d) :: (.one (.v (.int .i64 x3_0))) :: (.one (.v (.int .i64 x4_0))) :: dz 29 [], []⟩
def F116_l0_T {β : Type} (k : Nat) (a0 : List (den (.int .u8))) (NX : Int → Int → Option β) (RET : Int → Option β) (x3_0 x4_0 : Int) : Option β := cond (decide (x4_0 < ((a0.length : Nat) : Int))) (cond ((x4_0.tmod 2) == 0) (cond (decide (0 ≤ x4_0)) (cond (decide (x4_0 < ((a0.length : Nat) : Int))) (cond (decide ((IntKind.i64.wrap (x3_0 + (IntKind.i64.wrap ((IntKind.i64.wrap (atI a0 x4_0)) * 256)))) > 65535)) (NX (IntKind.i64.wrap ((IntKind.i64.wrap (x3_0 + (IntKind.i64.wrap ((IntKind.i64.wrap (atI a0 x4_0)) * 256)))) - 65535)) (IntKind.i64.wrap (x4_0 + 1))) (NX (IntKind.i64.wrap (x3_0 + (IntKind.i64.wrap ((IntKind.i64.wrap (atI a0 x4_0)) * 256)))) (IntKind.i64.wrap (x4_0 + 1)))) none) none) (cond (decide (0 ≤ x4_0)) (cond (decide (x4_0 < ((a0.length : Nat) : Int))) (cond (decide ((IntKind.i64.wrap (x3_0 + (IntKind.i64.wrap (atI a0 x4_0)))) > 65535)) (NX (IntKind.i64.wrap ((IntKind.i64.wrap (x3_0 + (IntKind.i64.wrap (atI a0 x4_0)))) - 65535)) (IntKind.i64.wrap (x4_0 + 1))) (NX (IntKind.i64.wrap (x3_0 + (IntKind.i64.wrap (atI a0 x4_0)))) (IntKind.i64.wrap (x4_0 + 1)))) none) none)) (RET x3_0)
def F116_l0 (k : Nat) (a0 : List (den (.int .u8))) : Nat → Int → Int → Option (Int)
  | 0, _, _ => none
  | n + 1, x3_0, x4_0 => F116_l0_T k a0 (fun x3_0 x4_0 => F116_l0 k a0 n x3_0 x4_0) some x3_0 x4_0
theorem F116_l0_rd {β : Type} (k n : Nat) (a0 : List (den (.int .u8))) (x3_0 x4_0 : Int) (K : A × List (List Leaf) → Option β) :
    loopG (F116_E k) Try.f116 [1, 1, 0, 1, 0] 0 (kontAt (F116_E k) [1, 1, 0, 1, 0] (bodyOf Try.f116) 0 (endC (F116_E k) Try.f116 (F116_a a0) K)) (n + 1) (F116_s0 a0 x3_0 x4_0) =
    F116_l0_T k a0 (fun x3_0 x4_0 => loopG (F116_E k) Try.f116 [1, 1, 0, 1, 0] 0 (kontAt (F116_E k) [1, 1, 0, 1, 0] (bodyOf Try.f116) 0 (endC (F116_E k) Try.f116 (F116_a a0) K)) n (F116_s0 a0 x3_0 x4_0)) (fun r => K (F116_r r)) x3_0 x4_0 := by kernel_rfl
theorem F116_l0_lp {β : Type} (k : Nat) (a0 : List (den (.int .u8))) (K : A × List (List Leaf) → Option β) (n : Nat) : ∀ (x3_0 x4_0 : Int), loopG (F116_E k) Try.f116 [1, 1, 0, 1, 0] 0 (kontAt (F116_E k) [1, 1, 0, 1, 0] (bodyOf Try.f116) 0 (endC (F116_E k) Try.f116 (F116_a a0) K)) n (F116_s0 a0 x3_0 x4_0) =
    (F116_l0 k a0 n x3_0 x4_0).bind fun r => K (F116_r r) := by
  induction n with
  | zero => intros; rfl
  | succ n ih =>
    intros
    rw [F116_l0_rd, F116_l0]
    simp only [F116_l0_T, bind_cond, Option.bind_assoc, Option.bind_some, Option.bind_none, Option.bind_fun_some, ih]
def F116_T {β : Type} (k : Nat) (a0 : List (den (.int .u8))) (LP0 : Int → Int → Option β) : Option β := LP0 0 0
def F116 (k : Nat) (a0 : List (den (.int .u8))) : Option (Int) := F116_T k a0 (fun x3_0 x4_0 => F116_l0 k a0 k x3_0 x4_0)
theorem F116_st {β : Type} (k : Nat) (a0 : List (den (.int .u8))) (K : A × List (List Leaf) → Option β) : evalF (F116_E k) Try.f116 (F116_a a0) K =
    F116_T k a0 (fun x3_0 x4_0 => loopG (F116_E k) Try.f116 [1, 1, 0, 1, 0] 0 (kontAt (F116_E k) [1, 1, 0, 1, 0] (bodyOf Try.f116) 0 (endC (F116_E k) Try.f116 (F116_a a0) K)) k (F116_s0 a0 x3_0 x4_0)) := by kernel_rfl
theorem F116_ev {β : Type} (k : Nat) (a0 : List (den (.int .u8))) (K : A × List (List Leaf) → Option β) : evalF (F116_E k) Try.f116 (F116_a a0) K = (F116 k a0).bind fun r => K (F116_r r) := by
  rw [F116_st, F116]
  simp only [F116_T, bind_cond, Option.bind_assoc, Option.bind_some, Option.bind_none, Option.bind_fun_some, F116_l0_lp]
theorem F116_con (k : Nat) (a0 : List (den (.int .u8))) : Contract Try.prog 116 (F116_a a0) ⟨F116 k a0, F116_r⟩ := con_of (envOk .none _ _ _ _) mixed Try.func116 rfl rfl (F116_ev k a0 some)
def F116_sh : List AK := [.one (.l (.sl .ro (.int .u8)))]
def F116_p (k : Nat) : List Arg → Option CR := cle F116_sh fun x => ⟨F116 k x.1, F116_r⟩
theorem F116_q (k : Nat) : ∀ xs cr, F116_p k xs = some cr → Contract Try.prog 116 xs cr := cle_ok fun x => F116_con k _
theorem F116_f : FnOk Try.prog 116 := .of (by kernel_rfl)
def F100_t (k : Nat) : Tab := entT 116 (F116_p k) <| noTab
abbrev F100_E (k : Nat) : Env := env (F100_t k) noHint .own [] k
abbrev F100_a (a0 : List (den (.int .u8))) : List Arg := [.one (.l (.s .ro (.int .u8) a0))]
def F100_r (r : Int) : A × List (List Leaf) := (.one (.v (.int .i64 r)), [])
def F100 (k : Nat) (a0 : List (den (.int .u8))) : Option (Int) := (F116 k a0).bind fun b1 => some (IntKind.i64.wrap (65535 - b1))
theorem F100_st {β : Type} (k : Nat) (a0 : List (den (.int .u8))) (K : A × List (List Leaf) → Option β) : evalF (F100_E k) Try.f100 (F100_a a0) K =
    (F116 k a0).bind fun b1 => K (.one (.v (.int .i64 (IntKind.i64.wrap (65535 - b1)))), []) := by kernel_rfl
theorem F100_ev {β : Type} (k : Nat) (a0 : List (den (.int .u8))) (K : A × List (List Leaf) → Option β) : evalF (F100_E k) Try.f100 (F100_a a0) K = (F100 k a0).bind fun r => K (F100_r r) := by
  rw [F100_st, F100]
  simp only [F100_r, bind_cond, Option.bind_assoc, Option.bind_some, Option.bind_none, Option.bind_fun_some]
theorem F100_tOk (k : Nat) : TabFn Try.prog (F100_t k) := .ent (F116_q k) F116_f (.none)
theorem F100_con (k : Nat) (a0 : List (den (.int .u8))) : Contract Try.prog 100 (F100_a a0) ⟨F100 k a0, F100_r⟩ := con_of (envOk (F100_tOk k) _ _ _ _) mixed Try.func100 rfl rfl (F100_ev k a0 some)
def F100_sh : List AK := [.one (.l (.sl .ro (.int .u8)))]
def F100_p (k : Nat) : List Arg → Option CR := cle F100_sh fun x => ⟨F100 k x.1, F100_r⟩
theorem F100_q (k : Nat) : ∀ xs cr, F100_p k xs = some cr → Contract Try.prog 100 xs cr := cle_ok fun x => F100_con k _
theorem F100_f : FnOk Try.prog 100 := .of (by kernel_rfl)
def F97_t (k : Nat) : Tab := entT 95 (F95_p k) <| entT 100 (F100_p k) <| noTab
abbrev F97_E (k : Nat) : Env := env (F97_t k) noHint .own [] k
abbrev F97_a (a0 a1 : Int) (a2 : List (den (.int .u8))) : List Arg := [.one (.l (.v (.int .i64 a0))), .one (.l (.v (.int .i64 a1))), .one (.l (.s .ro (.int .u8) a2))]
def F97_r (r : Int) : A × List (List Leaf) := (.one (.v (.int .i64 r)), [])
def F97_T {β : Type} (k : Nat) (a0 a1 : Int) (a2 : List (den (.int .u8))) (RET : Int → Option β) : Option β := (F95 k a0 2).bind fun b1 => (F95 k a1 2).bind fun b2 => cond (decide ((b1.length + b2.length) * 1 ≤ 140737488355328)) (cond (decide (((b1 ++ b2).length + a2.length) * 1 ≤ 140737488355328)) ((F100 k ((b1 ++ b2) ++ a2)).bind fun b3 => RET b3) none) none
def F97 (k : Nat) (a0 a1 : Int) (a2 : List (den (.int .u8))) : Option (Int) := F97_T k a0 a1 a2 some
theorem F97_st {β : Type} (k : Nat) (a0 a1 : Int) (a2 : List (den (.int .u8))) (K : A × List (List Leaf) → Option β) : evalF (F97_E k) Try.f97 (F97_a a0 a1 a2) K =
    F97_T k a0 a1 a2 (fun r => K (F97_r r)) := by kernel_rfl
theorem F97_ev {β : Type} (k : Nat) (a0 a1 : Int) (a2 : List (den (.int .u8))) (K : A × List (List Leaf) → Option β) : evalF (F97_E k) Try.f97 (F97_a a0 a1 a2) K = (F97 k a0 a1 a2).bind fun r => K (F97_r r) := by
  rw [F97_st, F97]
  simp only [F97_T, bind_cond, Option.bind_assoc, Option.bind_some, Option.bind_none, Option.bind_fun_some]
theorem F97_tOk (k : Nat) : TabFn Try.prog (F97_t k) := .ent (F95_q k) F95_f (.ent (F100_q k) F100_f (.none))
theorem F97_con (k : Nat) (a0 a1 : Int) (a2 : List (den (.int .u8))) : Contract Try.prog 97 (F97_a a0 a1 a2) ⟨F97 k a0 a1 a2, F97_r⟩ := con_of (envOk (F97_tOk k) _ _ _ _) mixed Try.func97 rfl rfl (F97_ev k a0 a1 a2 some)
def F97_sh : List AK := [.one (.l (.int .i64)), .one (.l (.int .i64)), .one (.l (.sl .ro (.int .u8)))]
def F97_p (k : Nat) : List Arg → Option CR := cle F97_sh fun x => ⟨F97 k x.1 x.2.1 x.2.2.1, F97_r⟩
theorem F97_q (k : Nat) : ∀ xs cr, F97_p k xs = some cr → Contract Try.prog 97 xs cr := cle_ok fun x => F97_con k _ _ _
theorem F97_f : FnOk Try.prog 97 := .of (by kernel_rfl)
def F71_h : Nat → Hint
  | 0 => ⟨[(1, .plain), (2, .plain), (3, .plain), (7, .own .own (.int .u8) []), (8, .plain)], [(3000, .plain), (3001, .plain), (3002, .plain), (3003, .plain), (3004, .plain), (3005, .plain), (3006, .plain), (3007, .plain), (3008, .plain), (3009, .plain), (3010, .plain)]⟩
  | _ => ⟨[], []⟩
def F71_t (k : Nat) : Tab := entT 50 (F50_p k) <| entT 51 (F51_p k) <| entT 95 (F95_p k) <| entT 96 (F96_p k) <| entT 97 (F97_p k) <| noTab
abbrev F71_E (k : Nat) : Env := env (F71_t k) F71_h .own [] k
abbrev F71_a (a0_0 a0_1 a0_2 a0_3 a0_4 : Int) (a0_5 a0_6 a0_7 a0_8 : Bool) (a0_9 : List (den rng)) (a0_10 : List (den (.int .u8))) (a1 a2 : Int) : List Arg := [.agg [.l (.v (.int .i64 a0_0)), .l (.v (.int .i64 a0_1)), .l (.v (.int .i64 a0_2)), .l (.v (.int .i64 a0_3)), .l (.v (.int .i64 a0_4)), .l (.v (.bool a0_5)), .l (.v (.bool a0_6)), .l (.v (.bool a0_7)), .l (.v (.bool a0_8)), .l (.s .ro rng a0_9), .l (.s .ro (.int .u8) a0_10)], .one (.l (.v (.int .i64 a1))), .one (.l (.v (.int .i64 a2)))]
def F71_r (r : List (den (.int .u8))) : A × List (List Leaf) := (.one (.s .own (.int .u8) r), [])
def F71_s0 (a0_0 a0_1 a0_2 a0_3 a0_4 : Int) (a0_5 a0_6 a0_7 a0_8 : Bool) (a0_9 : List (den rng)) (a0_10 : List (den (.int .u8))) (a1 a2 : Int) (x8_0 : Int) (m7900_0 : List (den (.int .u8))) : St := ⟨(.one .d) :: (.one (.v (.int .i64 a1))) :: (.one (.v (.int .i64 a2))) :: (.one (.ptr (.cell 3000) 11 0)) :: dz 3 ((.one (.a (.cell 7900) 0 0 none)) :: (.one (.v (.int .i64 x8_0))) :: dz 83 []), [(3000, ⟨.v (.int .i64 a0_0), 0, 0⟩), (3001, ⟨.v (.int .i64 a0_1), 0, 0⟩), (3002, ⟨.v (.int .i64 a0_2), 0, 0⟩), (3003, ⟨.v (.int .i64 a0_3), 0, 0⟩), (3004, ⟨.v (.int .i64 a0_4), 0, 0⟩), (3005, ⟨.v (.bool a0_5), 0, 0⟩), (3006, ⟨.v (.bool a0_6), 0, 0⟩), (3007, ⟨.v (.bool a0_7), 0, 0⟩), (3008, ⟨.v (.bool a0_8), 0, 0⟩), (3009, ⟨.s .ro rng a0_9, 0, 0⟩), (3010, ⟨.s .ro (.int .u8) a0_10, 0, 0⟩), (7900, ⟨.s .own (.int .u8) m7900_0, 0, 0⟩)]⟩
def F71_l0_T {β : Type} (k : Nat) (a0_0 a0_1 a0_2 a0_3 a0_4 : Int) (a0_5 a0_6 a0_7 a0_8 : Bool) (a0_9 : List (den rng)) (a0_10 : List (den (.int .u8))) (a1 a2 : Int) (NX : Int → List (den (.int .u8)) → Option β) (RET : List (den (.int .u8)) → Option β) (x8_0 : Int) (m7900_0 : List (den (.int .u8))) : Option β := cond (decide (x8_0 < ((a0_9.length : Nat) : Int))) (cond (decide (0 ≤ x8_0)) (cond (decide (x8_0 < ((a0_9.length : Nat) : Int))) ((F95 k ((atI a0_9 x8_0).1) 2).bind fun b7 => cond (decide ((m7900_0.length + b7.length) * 1 ≤ 140737488355328)) (cond (decide (0 ≤ x8_0)) (cond (decide (x8_0 < ((a0_9.length : Nat) : Int))) ((F95 k ((atI a0_9 x8_0).2) 2).bind fun b8 => cond (decide (((m7900_0 ++ b7).length + b8.length) * 1 ≤ 140737488355328)) (NX (IntKind.i64.wrap (x8_0 + 1)) ((m7900_0 ++ b7) ++ b8)) none) none) none) none) none) none) (cond (decide ((m7900_0.length + [IntKind.u8.wrap (((a0_10.length : Nat) : Int))].length) * 1 ≤ 140737488355328)) (cond (decide (((m7900_0 ++ [IntKind.u8.wrap (((a0_10.length : Nat) : Int))]).length + a0_10.length) * 1 ≤ 140737488355328)) ((F97 k a1 a2 ((m7900_0 ++ [IntKind.u8.wrap (((a0_10.length : Nat) : Int))]) ++ a0_10)).bind fun b9 => (F95 k b9 2).bind fun b10 => cond (decide ((((m7900_0 ++ [IntKind.u8.wrap (((a0_10.length : Nat) : Int))]) ++ a0_10).length + b10.length) * 1 ≤ 140737488355328)) (RET (((m7900_0 ++ [IntKind.u8.wrap (((a0_10.length : Nat) : Int))]) ++ a0_10) ++ b10)) none) none) none)
def F71_l0 (k : Nat) (a0_0 a0_1 a0_2 a0_3 a0_4 : Int) (a0_5 a0_6 a0_7 a0_8 : Bool) (a0_9 : List (den rng)) (a0_10 : List (den (.int .u8))) (a1 a2 : Int) : Nat → Int → List (den (.int .u8)) → Option (List (den (.int .u8)))
  | 0, _, _ => none
  | n + 1, x8_0, m7900_0 => F71_l0_T k a0_0 a0_1 a0_2 a0_3 a0_4 a0_5 a0_6 a0_7 a0_8 a0_9 a0_10 a1 a2 (fun x8_0 m7900_0 => F71_l0 k a0_0 a0_1 a0_2 a0_3 a0_4 a0_5 a0_6 a0_7 a0_8 a0_9 a0_10 a1 a2 n x8_0 m7900_0) some x8_0 m7900_0
theorem F71_l0_rd {β : Type} (k n : Nat) (a0_0 a0_1 a0_2 a0_3 a0_4 : Int) (a0_5 a0_6 a0_7 a0_8 : Bool) (a0_9 : List (den rng)) (a0_10 : List (den (.int .u8))) (a1 a2 : Int) (x8_0 : Int) (m7900_0 : List (den (.int .u8))) (K : A × List (List Leaf) → Option β) :
    loopG (F71_E k) Try.f71 [1, 1, 1, 1, 0, 1, 0] 0 (kontAt (F71_E k) [1, 1, 1, 1, 0, 1, 0] (bodyOf Try.f71) 0 (endC (F71_E k) Try.f71 (F71_a a0_0 a0_1 a0_2 a0_3 a0_4 a0_5 a0_6 a0_7 a0_8 a0_9 a0_10 a1 a2) K)) (n + 1) (F71_s0 a0_0 a0_1 a0_2 a0_3 a0_4 a0_5 a0_6 a0_7 a0_8 a0_9 a0_10 a1 a2 x8_0 m7900_0) =
    F71_l0_T k a0_0 a0_1 a0_2 a0_3 a0_4 a0_5 a0_6 a0_7 a0_8 a0_9 a0_10 a1 a2 (fun x8_0 m7900_0 => loopG (F71_E k) Try.f71 [1, 1, 1, 1, 0, 1, 0] 0 (kontAt (F71_E k) [1, 1, 1, 1, 0, 1, 0] (bodyOf Try.f71) 0 (endC (F71_E k) Try.f71 (F71_a a0_0 a0_1 a0_2 a0_3 a0_4 a0_5 a0_6 a0_7 a0_8 a0_9 a0_10 a1 a2) K)) n (F71_s0 a0_0 a0_1 a0_2 a0_3 a0_4 a0_5 a0_6 a0_7 a0_8 a0_9 a0_10 a1 a2 x8_0 m7900_0)) (fun r => K (F71_r r)) x8_0 m7900_0 := by kernel_rfl
theorem F71_l0_lp {β : Type} (k : Nat) (a0_0 a0_1 a0_2 a0_3 a0_4 : Int) (a0_5 a0_6 a0_7 a0_8 : Bool) (a0_9 : List (den rng)) (a0_10 : List (den (.int .u8))) (a1 a2 : Int) (K : A × List (List Leaf) → Option β) (n : Nat) : ∀ (x8_0 : Int) (m7900_0 : List (den (.int .u8))), loopG (F71_E k) Try.f71 [1, 1, 1, 1, 0, 1, 0] 0 (kontAt (F71_E k) [1, 1, 1, 1, 0, 1, 0] (bodyOf Try.f71) 0 (endC (F71_E k) Try.f71 (F71_a a0_0 a0_1 a0_2 a0_3 a0_4 a0_5 a0_6 a0_7 a0_8 a0_9 a0_10 a1 a2) K)) n (F71_s0 a0_0 a0_1 a0_2 a0_3 a0_4 a0_5 a0_6 a0_7 a0_8 a0_9 a0_10 a1 a2 x8_0 m7900_0) =
    (F71_l0 k a0_0 a0_1 a0_2 a0_3 a0_4 a0_5 a0_6 a0_7 a0_8 a0_9 a0_10 a1 a2 n x8_0 m7900_0).bind fun r => K (F71_r r) := by
  induction n with
  | zero => intros; rfl
  | succ n ih =>
    intros
    rw [F71_l0_rd, F71_l0]
    simp only [F71_l0_T, bind_cond, Option.bind_assoc, Option.bind_some, Option.bind_none, Option.bind_fun_some, ih]
def F71_T {β : Type} (k : Nat) (a0_0 a0_1 a0_2 a0_3 a0_4 : Int) (a0_5 a0_6 a0_7 a0_8 : Bool) (a0_9 : List (den rng)) (a0_10 : List (den (.int .u8))) (a1 a2 : Int) (LP0 : Int → List (den (.int .u8)) → Option β) (RET : List (den (.int .u8)) → Option β) : Option β := (F50 k a0_0 a0_1 a0_2 a0_3 a0_4 a0_5 a0_6 a0_7 a0_8 a0_9 a0_10).bind fun b1 => cond (!b1) (RET []) ((F51 k a1 0 65535).bind fun b2 => cond (!b2) (RET []) ((F51 k a2 0 65535).bind fun b3 => cond (!b3) (RET []) ((F95 k a0_2 2).bind fun b4 => cond (decide (([IntKind.u8.wrap (a0_0), IntKind.u8.wrap (a0_1)].length + b4.length) * 1 ≤ 140737488355328)) ((F95 k a0_3 2).bind fun b5 => cond (decide ((([IntKind.u8.wrap (a0_0), IntKind.u8.wrap (a0_1)] ++ b4).length + b5.length) * 1 ≤ 140737488355328)) ((F96 k a0_0 a0_1 a0_2 a0_3 a0_4 a0_5 a0_6 a0_7 a0_8 a0_9 a0_10).bind fun b6 => cond (decide (((([IntKind.u8.wrap (a0_0), IntKind.u8.wrap (a0_1)] ++ b4) ++ b5).length + [IntKind.u8.wrap (a0_4), IntKind.u8.wrap (b6), IntKind.u8.wrap (((a0_9.length : Nat) : Int))].length) * 1 ≤ 140737488355328)) (LP0 0 ((([IntKind.u8.wrap (a0_0), IntKind.u8.wrap (a0_1)] ++ b4) ++ b5) ++ [IntKind.u8.wrap (a0_4), IntKind.u8.wrap (b6), IntKind.u8.wrap (((a0_9.length : Nat) : Int))])) none) none) none)))
def F71 (k : Nat) (a0_0 a0_1 a0_2 a0_3 a0_4 : Int) (a0_5 a0_6 a0_7 a0_8 : Bool) (a0_9 : List (den rng)) (a0_10 : List (den (.int .u8))) (a1 a2 : Int) : Option (List (den (.int .u8))) := F71_T k a0_0 a0_1 a0_2 a0_3 a0_4 a0_5 a0_6 a0_7 a0_8 a0_9 a0_10 a1 a2 (fun x8_0 m7900_0 => F71_l0 k a0_0 a0_1 a0_2 a0_3 a0_4 a0_5 a0_6 a0_7 a0_8 a0_9 a0_10 a1 a2 k x8_0 m7900_0) some
theorem F71_st {β : Type} (k : Nat) (a0_0 a0_1 a0_2 a0_3 a0_4 : Int) (a0_5 a0_6 a0_7 a0_8 : Bool) (a0_9 : List (den rng)) (a0_10 : List (den (.int .u8))) (a1 a2 : Int) (K : A × List (List Leaf) → Option β) : evalF (F71_E k) Try.f71 (F71_a a0_0 a0_1 a0_2 a0_3 a0_4 a0_5 a0_6 a0_7 a0_8 a0_9 a0_10 a1 a2) K =
    F71_T k a0_0 a0_1 a0_2 a0_3 a0_4 a0_5 a0_6 a0_7 a0_8 a0_9 a0_10 a1 a2 (fun x8_0 m7900_0 => loopG (F71_E k) Try.f71 [1, 1, 1, 1, 0, 1, 0] 0 (kontAt (F71_E k) [1, 1, 1, 1, 0, 1, 0] (bodyOf Try.f71) 0 (endC (F71_E k) Try.f71 (F71_a a0_0 a0_1 a0_2 a0_3 a0_4 a0_5 a0_6 a0_7 a0_8 a0_9 a0_10 a1 a2) K)) k (F71_s0 a0_0 a0_1 a0_2 a0_3 a0_4 a0_5 a0_6 a0_7 a0_8 a0_9 a0_10 a1 a2 x8_0 m7900_0)) (fun r => K (F71_r r)) := by kernel_rfl
theorem F71_ev {β : Type} (k : Nat) (a0_0 a0_1 a0_2 a0_3 a0_4 : Int) (a0_5 a0_6 a0_7 a0_8 : Bool) (a0_9 : List (den rng)) (a0_10 : List (den (.int .u8))) (a1 a2 : Int) (K : A × List (List Leaf) → Option β) : evalF (F71_E k) Try.f71 (F71_a a0_0 a0_1 a0_2 a0_3 a0_4 a0_5 a0_6 a0_7 a0_8 a0_9 a0_10 a1 a2) K = (F71 k a0_0 a0_1 a0_2 a0_3 a0_4 a0_5 a0_6 a0_7 a0_8 a0_9 a0_10 a1 a2).bind fun r => K (F71_r r) := by
  rw [F71_st, F71]
  simp only [F71_T, bind_cond, Option.bind_assoc, Option.bind_some, Option.bind_none, Option.bind_fun_some, F71_l0_lp]
theorem F71_tOk (k : Nat) : TabFn Try.prog (F71_t k) := .ent (F50_q k) F50_f (.ent (F51_q k) F51_f (.ent (F95_q k) F95_f (.ent (F96_q k) F96_f (.ent (F97_q k) F97_f (.none)))))
theorem F71_con (k : Nat) (a0_0 a0_1 a0_2 a0_3 a0_4 : Int) (a0_5 a0_6 a0_7 a0_8 : Bool) (a0_9 : List (den rng)) (a0_10 : List (den (.int .u8))) (a1 a2 : Int) : Contract Try.prog 71 (F71_a a0_0 a0_1 a0_2 a0_3 a0_4 a0_5 a0_6 a0_7 a0_8 a0_9 a0_10 a1 a2) ⟨F71 k a0_0 a0_1 a0_2 a0_3 a0_4 a0_5 a0_6 a0_7 a0_8 a0_9 a0_10 a1 a2, F71_r⟩ := con_of (envOk (F71_tOk k) _ _ _ _) mixed Try.func71 rfl rfl (F71_ev k a0_0 a0_1 a0_2 a0_3 a0_4 a0_5 a0_6 a0_7 a0_8 a0_9 a0_10 a1 a2 some)
def F71_sh : List AK := [.agg [.l (.int .i64), .l (.int .i64), .l (.int .i64), .l (.int .i64), .l (.int .i64), .l (.bool), .l (.bool), .l (.bool), .l (.bool), .l (.sl .ro rng), .l (.sl .ro (.int .u8))], .one (.l (.int .i64)), .one (.l (.int .i64))]
def F71_p (k : Nat) : List Arg → Option CR := cle F71_sh fun x => ⟨F71 k x.1.1 x.1.2.1 x.1.2.2.1 x.1.2.2.2.1 x.1.2.2.2.2.1 x.1.2.2.2.2.2.1 x.1.2.2.2.2.2.2.1 x.1.2.2.2.2.2.2.2.1 x.1.2.2.2.2.2.2.2.2.1 x.1.2.2.2.2.2.2.2.2.2.1 x.1.2.2.2.2.2.2.2.2.2.2.1 x.2.1 x.2.2.1, F71_r⟩
theorem F71_q (k : Nat) : ∀ xs cr, F71_p k xs = some cr → Contract Try.prog 71 xs cr := cle_ok fun x => F71_con k _ _ _ _ _ _ _ _ _ _ _ _ _
theorem F71_f : FnOk Try.prog 71 := .of (by kernel_rfl)
def F98_t (k : Nat) : Tab := entT 51 (F51_p k) <| noTab
abbrev F98_E (k : Nat) : Env := env (F98_t k) noHint .own [] k
abbrev F98_a (a0_0 a0_1 a0_2 a0_3 a0_4 a0_5 : Int) (a0_6 a0_7 : Bool) (a0_8 : List (den (.int .u8))) : List Arg := [.agg [.l (.v (.int .i64 a0_0)), .l (.v (.int .i64 a0_1)), .l (.v (.int .i64 a0_2)), .l (.v (.int .i64 a0_3)), .l (.v (.int .i64 a0_4)), .l (.v (.int .i64 a0_5)), .l (.v (.bool a0_6)), .l (.v (.bool a0_7)), .l (.s .ro (.int .u8) a0_8)]]
def F98_r (r : Bool) : A × List (List Leaf) := (.one (.v (.bool r)), [])
def F98_T {β : Type} (k : Nat) (a0_0 a0_1 a0_2 a0_3 a0_4 a0_5 : Int) (a0_6 a0_7 : Bool) (a0_8 : List (den (.int .u8))) (RET : Bool → Option β) : Option β := (F51 k a0_0 0 65535).bind fun b1 => cond (!b1) (RET false) ((F51 k a0_1 0 65535).bind fun b2 => cond (!b2) (RET false) ((F51 k a0_2 0 255).bind fun b3 => cond (!b3) (RET false) ((F51 k a0_3 0 255).bind fun b4 => cond (!b4) (RET false) ((F51 k a0_4 0 255).bind fun b5 => cond (!b5) (RET false) ((F51 k a0_5 0 255).bind fun b6 => cond (!b6) (RET false) (cond (decide (((a0_8.length : Nat) : Int) ≤ 48)) (cond (!a0_6) (cond (!a0_7) (RET true) (cond (a0_5 == 0) (RET (!a0_6)) (RET false))) (cond (decide (((a0_8.length : Nat) : Int) > 0)) (cond (!a0_7) (RET true) (cond (a0_5 == 0) (RET (!a0_6)) (RET false))) (RET false))) (RET false)))))))
def F98 (k : Nat) (a0_0 a0_1 a0_2 a0_3 a0_4 a0_5 : Int) (a0_6 a0_7 : Bool) (a0_8 : List (den (.int .u8))) : Option (Bool) := F98_T k a0_0 a0_1 a0_2 a0_3 a0_4 a0_5 a0_6 a0_7 a0_8 some
theorem F98_st {β : Type} (k : Nat) (a0_0 a0_1 a0_2 a0_3 a0_4 a0_5 : Int) (a0_6 a0_7 : Bool) (a0_8 : List (den (.int .u8))) (K : A × List (List Leaf) → Option β) : evalF (F98_E k) Try.f98 (F98_a a0_0 a0_1 a0_2 a0_3 a0_4 a0_5 a0_6 a0_7 a0_8) K =
    F98_T k a0_0 a0_1 a0_2 a0_3 a0_4 a0_5 a0_6 a0_7 a0_8 (fun r => K (F98_r r)) := by kernel_rfl
theorem F98_ev {β : Type} (k : Nat) (a0_0 a0_1 a0_2 a0_3 a0_4 a0_5 : Int) (a0_6 a0_7 : Bool) (a0_8 : List (den (.int .u8))) (K : A × List (List Leaf) → Option β) : evalF (F98_E k) Try.f98 (F98_a a0_0 a0_1 a0_2 a0_3 a0_4 a0_5 a0_6 a0_7 a0_8) K = (F98 k a0_0 a0_1 a0_2 a0_3 a0_4 a0_5 a0_6 a0_7 a0_8).bind fun r => K (F98_r r) := by
  rw [F98_st, F98]
  simp only [F98_T, bind_cond, Option.bind_assoc, Option.bind_some, Option.bind_none, Option.bind_fun_some]
theorem F98_tOk (k : Nat) : TabFn Try.prog (F98_t k) := .ent (F51_q k) F51_f (.none)
theorem F98_con (k : Nat) (a0_0 a0_1 a0_2 a0_3 a0_4 a0_5 : Int) (a0_6 a0_7 : Bool) (a0_8 : List (den (.int .u8))) : Contract Try.prog 98 (F98_a a0_0 a0_1 a0_2 a0_3 a0_4 a0_5 a0_6 a0_7 a0_8) ⟨F98 k a0_0 a0_1 a0_2 a0_3 a0_4 a0_5 a0_6 a0_7 a0_8, F98_r⟩ := con_of (envOk (F98_tOk k) _ _ _ _) mixed Try.func98 rfl rfl (F98_ev k a0_0 a0_1 a0_2 a0_3 a0_4 a0_5 a0_6 a0_7 a0_8 some)
def F98_sh : List AK := [.agg [.l (.int .i64), .l (.int .i64), .l (.int .i64), .l (.int .i64), .l (.int .i64), .l (.int .i64), .l (.bool), .l (.bool), .l (.sl .ro (.int .u8))]]
def F98_p (k : Nat) : List Arg → Option CR := cle F98_sh fun x => ⟨F98 k x.1.1 x.1.2.1 x.1.2.2.1 x.1.2.2.2.1 x.1.2.2.2.2.1 x.1.2.2.2.2.2.1 x.1.2.2.2.2.2.2.1 x.1.2.2.2.2.2.2.2.1 x.1.2.2.2.2.2.2.2.2.1, F98_r⟩
theorem F98_q (k : Nat) : ∀ xs cr, F98_p k xs = some cr → Contract Try.prog 98 xs cr := cle_ok fun x => F98_con k _ _ _ _ _ _ _ _ _
theorem F98_f : FnOk Try.prog 98 := .of (by kernel_rfl)
abbrev F115_E (k : Nat) : Env := env noTab noHint .own [] k
abbrev F115_a (a0_0 a0_1 a0_2 a0_3 a0_4 a0_5 : Int) (a0_6 a0_7 : Bool) (a0_8 : List (den (.int .u8))) : List Arg := [.agg [.l (.v (.int .i64 a0_0)), .l (.v (.int .i64 a0_1)), .l (.v (.int .i64 a0_2)), .l (.v (.int .i64 a0_3)), .l (.v (.int .i64 a0_4)), .l (.v (.int .i64 a0_5)), .l (.v (.bool a0_6)), .l (.v (.bool a0_7)), .l (.s .ro (.int .u8) a0_8)]]
def F115_r (r : Int) : A × List (List Leaf) := (.one (.v (.int .i64 r)), [])
def F115 (k : Nat) (a0_0 a0_1 a0_2 a0_3 a0_4 a0_5 : Int) (a0_6 a0_7 : Bool) (a0_8 : List (den (.int .u8))) : Option (Int) := cond a0_6 (cond a0_7 (some 3) (some 1)) (cond a0_7 (some 2) (some 0))
theorem F115_st {β : Type} (k : Nat) (a0_0 a0_1 a0_2 a0_3 a0_4 a0_5 : Int) (a0_6 a0_7 : Bool) (a0_8 : List (den (.int .u8))) (K : A × List (List Leaf) → Option β) : evalF (F115_E k) Try.f115 (F115_a a0_0 a0_1 a0_2 a0_3 a0_4 a0_5 a0_6 a0_7 a0_8) K =
    cond a0_6 (cond a0_7 (K (.one (.v (.int .i64 3)), [])) (K (.one (.v (.int .i64 1)), []))) (cond a0_7 (K (.one (.v (.int .i64 2)), [])) (K (.one (.v (.int .i64 0)), []))) := by kernel_rfl
theorem F115_ev {β : Type} (k : Nat) (a0_0 a0_1 a0_2 a0_3 a0_4 a0_5 : Int) (a0_6 a0_7 : Bool) (a0_8 : List (den (.int .u8))) (K : A × List (List Leaf) → Option β) : evalF (F115_E k) Try.f115 (F115_a a0_0 a0_1 a0_2 a0_3 a0_4 a0_5 a0_6 a0_7 a0_8) K = (F115 k a0_0 a0_1 a0_2 a0_3 a0_4 a0_5 a0_6 a0_7 a0_8).bind fun r => K (F115_r r) := by
  rw [F115_st, F115]
  simp only [F115_r, bind_cond, Option.bind_assoc, Option.bind_some, Option.bind_none, Option.bind_fun_some]
theorem F115_con (k : Nat) (a0_0 a0_1 a0_2 a0_3 a0_4 a0_5 : Int) (a0_6 a0_7 : Bool) (a0_8 : List (den (.int .u8))) : Contract Try.prog 115 (F115_a a0_0 a0_1 a0_2 a0_3 a0_4 a0_5 a0_6 a0_7 a0_8) ⟨F115 k a0_0 a0_1 a0_2 a0_3 a0_4 a0_5 a0_6 a0_7 a0_8, F115_r⟩ := con_of (envOk .none _ _ _ _) mixed Try.func115 rfl rfl (F115_ev k a0_0 a0_1 a0_2 a0_3 a0_4 a0_5 a0_6 a0_7 a0_8 some)
def F115_sh : List AK := [.agg [.l (.int .i64), .l (.int .i64), .l (.int .i64), .l (.int .i64), .l (.int .i64), .l (.int .i64), .l (.bool), .l (.bool), .l (.sl .ro (.int .u8))]]
def F115_p (k : Nat) : List Arg → Option CR := cle F115_sh fun x => ⟨F115 k x.1.1 x.1.2.1 x.1.2.2.1 x.1.2.2.2.1 x.1.2.2.2.2.1 x.1.2.2.2.2.2.1 x.1.2.2.2.2.2.2.1 x.1.2.2.2.2.2.2.2.1 x.1.2.2.2.2.2.2.2.2.1, F115_r⟩
theorem F115_q (k : Nat) : ∀ xs cr, F115_p k xs = some cr → Contract Try.prog 115 xs cr := cle_ok fun x => F115_con k _ _ _ _ _ _ _ _ _
theorem F115_f : FnOk Try.prog 115 := .of (by kernel_rfl)
def F99_t (k : Nat) : Tab := entT 95 (F95_p k) <| entT 115 (F115_p k) <| noTab
abbrev F99_E (k : Nat) : Env := env (F99_t k) noHint .own [] k
abbrev F99_a (a0_0 a0_1 a0_2 a0_3 a0_4 a0_5 : Int) (a0_6 a0_7 : Bool) (a0_8 : List (den (.int .u8))) : List Arg := [.agg [.l (.v (.int .i64 a0_0)), .l (.v (.int .i64 a0_1)), .l (.v (.int .i64 a0_2)), .l (.v (.int .i64 a0_3)), .l (.v (.int .i64 a0_4)), .l (.v (.int .i64 a0_5)), .l (.v (.bool a0_6)), .l (.v (.bool a0_7)), .l (.s .ro (.int .u8) a0_8)]]
def F99_r (r : List (den (.int .u8))) : A × List (List Leaf) := (.one (.s .own (.int .u8) r), [])
def F99_T {β : Type} (k : Nat) (a0_0 a0_1 a0_2 a0_3 a0_4 a0_5 : Int) (a0_6 a0_7 : Bool) (a0_8 : List (den (.int .u8))) (RET : List (den (.int .u8)) → Option β) : Option β := (F95 k a0_0 2).bind fun b1 => (F95 k a0_1 2).bind fun b2 => cond (decide ((b1.length + b2.length) * 1 ≤ 140737488355328)) ((F115 k a0_0 a0_1 a0_2 a0_3 a0_4 a0_5 a0_6 a0_7 a0_8).bind fun b3 => cond (decide (((b1 ++ b2).length + [IntKind.u8.wrap (a0_2), IntKind.u8.wrap (a0_3), IntKind.u8.wrap (a0_4), IntKind.u8.wrap (a0_5), IntKind.u8.wrap (b3), IntKind.u8.wrap (((a0_8.length : Nat) : Int))].length) * 1 ≤ 140737488355328)) (RET ((b1 ++ b2) ++ [IntKind.u8.wrap (a0_2), IntKind.u8.wrap (a0_3), IntKind.u8.wrap (a0_4), IntKind.u8.wrap (a0_5), IntKind.u8.wrap (b3), IntKind.u8.wrap (((a0_8.length : Nat) : Int))])) none) none
def F99 (k : Nat) (a0_0 a0_1 a0_2 a0_3 a0_4 a0_5 : Int) (a0_6 a0_7 : Bool) (a0_8 : List (den (.int .u8))) : Option (List (den (.int .u8))) := F99_T k a0_0 a0_1 a0_2 a0_3 a0_4 a0_5 a0_6 a0_7 a0_8 some
theorem F99_st {β : Type} (k : Nat) (a0_0 a0_1 a0_2 a0_3 a0_4 a0_5 : Int) (a0_6 a0_7 : Bool) (a0_8 : List (den (.int .u8))) (K : A × List (List Leaf) → Option β) : evalF (F99_E k) Try.f99 (F99_a a0_0 a0_1 a0_2 a0_3 a0_4 a0_5 a0_6 a0_7 a0_8) K =
    F99_T k a0_0 a0_1 a0_2 a0_3 a0_4 a0_5 a0_6 a0_7 a0_8 (fun r => K (F99_r r)) := by kernel_rfl
theorem F99_ev {β : Type} (k : Nat) (a0_0 a0_1 a0_2 a0_3 a0_4 a0_5 : Int) (a0_6 a0_7 : Bool) (a0_8 : List (den (.int .u8))) (K : A × List (List Leaf) → Option β) : evalF (F99_E k) Try.f99 (F99_a a0_0 a0_1 a0_2 a0_3 a0_4 a0_5 a0_6 a0_7 a0_8) K = (F99 k a0_0 a0_1 a0_2 a0_3 a0_4 a0_5 a0_6 a0_7 a0_8).bind fun r => K (F99_r r) := by
  rw [F99_st, F99]
  simp only [F99_T, bind_cond, Option.bind_assoc, Option.bind_some, Option.bind_none, Option.bind_fun_some]
theorem F99_tOk (k : Nat) : TabFn Try.prog (F99_t k) := .ent (F95_q k) F95_f (.ent (F115_q k) F115_f (.none))
theorem F99_con (k : Nat) (a0_0 a0_1 a0_2 a0_3 a0_4 a0_5 : Int) (a0_6 a0_7 : Bool) (a0_8 : List (den (.int .u8))) : Contract Try.prog 99 (F99_a a0_0 a0_1 a0_2 a0_3 a0_4 a0_5 a0_6 a0_7 a0_8) ⟨F99 k a0_0 a0_1 a0_2 a0_3 a0_4 a0_5 a0_6 a0_7 a0_8, F99_r⟩ := con_of (envOk (F99_tOk k) _ _ _ _) mixed Try.func99 rfl rfl (F99_ev k a0_0 a0_1 a0_2 a0_3 a0_4 a0_5 a0_6 a0_7 a0_8 some)
def F99_sh : List AK := [.agg [.l (.int .i64), .l (.int .i64), .l (.int .i64), .l (.int .i64), .l (.int .i64), .l (.int .i64), .l (.bool), .l (.bool), .l (.sl .ro (.int .u8))]]
def F99_p (k : Nat) : List Arg → Option CR := cle F99_sh fun x => ⟨F99 k x.1.1 x.1.2.1 x.1.2.2.1 x.1.2.2.2.1 x.1.2.2.2.2.1 x.1.2.2.2.2.2.1 x.1.2.2.2.2.2.2.1 x.1.2.2.2.2.2.2.2.1 x.1.2.2.2.2.2.2.2.2.1, F99_r⟩
theorem F99_q (k : Nat) : ∀ xs cr, F99_p k xs = some cr → Contract Try.prog 99 xs cr := cle_ok fun x => F99_con k _ _ _ _ _ _ _ _ _
theorem F99_f : FnOk Try.prog 99 := .of (by kernel_rfl)
def F72_t (k : Nat) : Tab := entT 98 (F98_p k) <| entT 99 (F99_p k) <| entT 100 (F100_p k) <| entT 95 (F95_p k) <| noTab
abbrev F72_E (k : Nat) : Env := env (F72_t k) noHint .own [] k
abbrev F72_a (a0_0 a0_1 a0_2 a0_3 a0_4 a0_5 : Int) (a0_6 a0_7 : Bool) (a0_8 : List (den (.int .u8))) : List Arg := [.agg [.l (.v (.int .i64 a0_0)), .l (.v (.int .i64 a0_1)), .l (.v (.int .i64 a0_2)), .l (.v (.int .i64 a0_3)), .l (.v (.int .i64 a0_4)), .l (.v (.int .i64 a0_5)), .l (.v (.bool a0_6)), .l (.v (.bool a0_7)), .l (.s .ro (.int .u8) a0_8)]]
def F72_r (r : List (den (.int .u8))) : A × List (List Leaf) := (.one (.s .own (.int .u8) r), [])
def F72_T {β : Type} (k : Nat) (a0_0 a0_1 a0_2 a0_3 a0_4 a0_5 : Int) (a0_6 a0_7 : Bool) (a0_8 : List (den (.int .u8))) (RET : List (den (.int .u8)) → Option β) : Option β := (F98 k a0_0 a0_1 a0_2 a0_3 a0_4 a0_5 a0_6 a0_7 a0_8).bind fun b1 => cond (!b1) (RET []) ((F99 k a0_0 a0_1 a0_2 a0_3 a0_4 a0_5 a0_6 a0_7 a0_8).bind fun b2 => (F100 k b2).bind fun b3 => (F95 k b3 2).bind fun b4 => cond (decide ((b2.length + b4.length) * 1 ≤ 140737488355328)) (cond (decide (((b2 ++ b4).length + a0_8.length) * 1 ≤ 140737488355328)) (RET ((b2 ++ b4) ++ a0_8)) none) none)
def F72 (k : Nat) (a0_0 a0_1 a0_2 a0_3 a0_4 a0_5 : Int) (a0_6 a0_7 : Bool) (a0_8 : List (den (.int .u8))) : Option (List (den (.int .u8))) := F72_T k a0_0 a0_1 a0_2 a0_3 a0_4 a0_5 a0_6 a0_7 a0_8 some
theorem F72_st {β : Type} (k : Nat) (a0_0 a0_1 a0_2 a0_3 a0_4 a0_5 : Int) (a0_6 a0_7 : Bool) (a0_8 : List (den (.int .u8))) (K : A × List (List Leaf) → Option β) : evalF (F72_E k) Try.f72 (F72_a a0_0 a0_1 a0_2 a0_3 a0_4 a0_5 a0_6 a0_7 a0_8) K =
    F72_T k a0_0 a0_1 a0_2 a0_3 a0_4 a0_5 a0_6 a0_7 a0_8 (fun r => K (F72_r r)) := by kernel_rfl
theorem F72_ev {β : Type} (k : Nat) (a0_0 a0_1 a0_2 a0_3 a0_4 a0_5 : Int) (a0_6 a0_7 : Bool) (a0_8 : List (den (.int .u8))) (K : A × List (List Leaf) → Option β) : evalF (F72_E k) Try.f72 (F72_a a0_0 a0_1 a0_2 a0_3 a0_4 a0_5 a0_6 a0_7 a0_8) K = (F72 k a0_0 a0_1 a0_2 a0_3 a0_4 a0_5 a0_6 a0_7 a0_8).bind fun r => K (F72_r r) := by
  rw [F72_st, F72]
  simp only [F72_T, bind_cond, Option.bind_assoc, Option.bind_some, Option.bind_none, Option.bind_fun_some]
theorem F72_tOk (k : Nat) : TabFn Try.prog (F72_t k) := .ent (F98_q k) F98_f (.ent (F99_q k) F99_f (.ent (F100_q k) F100_f (.ent (F95_q k) F95_f (.none))))
theorem F72_con (k : Nat) (a0_0 a0_1 a0_2 a0_3 a0_4 a0_5 : Int) (a0_6 a0_7 : Bool) (a0_8 : List (den (.int .u8))) : Contract Try.prog 72 (F72_a a0_0 a0_1 a0_2 a0_3 a0_4 a0_5 a0_6 a0_7 a0_8) ⟨F72 k a0_0 a0_1 a0_2 a0_3 a0_4 a0_5 a0_6 a0_7 a0_8, F72_r⟩ := con_of (envOk (F72_tOk k) _ _ _ _) mixed Try.func72 rfl rfl (F72_ev k a0_0 a0_1 a0_2 a0_3 a0_4 a0_5 a0_6 a0_7 a0_8 some)
def F72_sh : List AK := [.agg [.l (.int .i64), .l (.int .i64), .l (.int .i64), .l (.int .i64), .l (.int .i64), .l (.int .i64), .l (.bool), .l (.bool), .l (.sl .ro (.int .u8))]]
def F72_p (k : Nat) : List Arg → Option CR := cle F72_sh fun x => ⟨F72 k x.1.1 x.1.2.1 x.1.2.2.1 x.1.2.2.2.1 x.1.2.2.2.2.1 x.1.2.2.2.2.2.1 x.1.2.2.2.2.2.2.1 x.1.2.2.2.2.2.2.2.1 x.1.2.2.2.2.2.2.2.2.1, F72_r⟩
theorem F72_q (k : Nat) : ∀ xs cr, F72_p k xs = some cr → Contract Try.prog 72 xs cr := cle_ok fun x => F72_con k _ _ _ _ _ _ _ _ _
theorem F72_f : FnOk Try.prog 72 := .of (by kernel_rfl)
def F101_t (k : Nat) : Tab := entT 51 (F51_p k) <| noTab
abbrev F101_E (k : Nat) : Env := env (F101_t k) noHint .own [] k
abbrev F101_a (a0_0 a0_1 a0_2 : Int) (a0_3 : List (den (.int .u8))) : List Arg := [.agg [.l (.v (.int .i64 a0_0)), .l (.v (.int .i64 a0_1)), .l (.v (.int .i64 a0_2)), .l (.s .ro (.int .u8) a0_3)]]
def F101_r (r : Bool) : A × List (List Leaf) := (.one (.v (.bool r)), [])
def F101_T {β : Type} (k : Nat) (a0_0 a0_1 a0_2 : Int) (a0_3 : List (den (.int .u8))) (RET : Bool → Option β) : Option β := (F51 k a0_0 0 255).bind fun b1 => cond b1 ((F51 k a0_1 0 254).bind fun b2 => cond b2 ((F51 k a0_2 0 255).bind fun b3 => cond b3 (RET (decide (((a0_3.length : Nat) : Int) ≤ 64))) (RET false)) (RET false)) (RET false)
def F101 (k : Nat) (a0_0 a0_1 a0_2 : Int) (a0_3 : List (den (.int .u8))) : Option (Bool) := F101_T k a0_0 a0_1 a0_2 a0_3 some
theorem F101_st {β : Type} (k : Nat) (a0_0 a0_1 a0_2 : Int) (a0_3 : List (den (.int .u8))) (K : A × List (List Leaf) → Option β) : evalF (F101_E k) Try.f101 (F101_a a0_0 a0_1 a0_2 a0_3) K =
    F101_T k a0_0 a0_1 a0_2 a0_3 (fun r => K (F101_r r)) := by kernel_rfl
theorem F101_ev {β : Type} (k : Nat) (a0_0 a0_1 a0_2 : Int) (a0_3 : List (den (.int .u8))) (K : A × List (List Leaf) → Option β) : evalF (F101_E k) Try.f101 (F101_a a0_0 a0_1 a0_2 a0_3) K = (F101 k a0_0 a0_1 a0_2 a0_3).bind fun r => K (F101_r r) := by
  rw [F101_st, F101]
  simp only [F101_T, bind_cond, Option.bind_assoc, Option.bind_some, Option.bind_none, Option.bind_fun_some]
theorem F101_tOk (k : Nat) : TabFn Try.prog (F101_t k) := .ent (F51_q k) F51_f (.none)
theorem F101_con (k : Nat) (a0_0 a0_1 a0_2 : Int) (a0_3 : List (den (.int .u8))) : Contract Try.prog 101 (F101_a a0_0 a0_1 a0_2 a0_3) ⟨F101 k a0_0 a0_1 a0_2 a0_3, F101_r⟩ := con_of (envOk (F101_tOk k) _ _ _ _) mixed Try.func101 rfl rfl (F101_ev k a0_0 a0_1 a0_2 a0_3 some)
def F101_sh : List AK := [.agg [.l (.int .i64), .l (.int .i64), .l (.int .i64), .l (.sl .ro (.int .u8))]]
def F101_p (k : Nat) : List Arg → Option CR := cle F101_sh fun x => ⟨F101 k x.1.1 x.1.2.1 x.1.2.2.1 x.1.2.2.2.1, F101_r⟩
theorem F101_q (k : Nat) : ∀ xs cr, F101_p k xs = some cr → Contract Try.prog 101 xs cr := cle_ok fun x => F101_con k _ _ _ _
theorem F101_f : FnOk Try.prog 101 := .of (by kernel_rfl)
def F73_t (k : Nat) : Tab := entT 101 (F101_p k) <| entT 100 (F100_p k) <| entT 95 (F95_p k) <| noTab
abbrev F73_E (k : Nat) : Env := env (F73_t k) noHint .own [] k
abbrev F73_a (a0_0 a0_1 a0_2 : Int) (a0_3 : List (den (.int .u8))) : List Arg := [.agg [.l (.v (.int .i64 a0_0)), .l (.v (.int .i64 a0_1)), .l (.v (.int .i64 a0_2)), .l (.s .ro (.int .u8) a0_3)]]
def F73_r (r : List (den (.int .u8))) : A × List (List Leaf) := (.one (.s .own (.int .u8) r), [])
def F73_T {β : Type} (k : Nat) (a0_0 a0_1 a0_2 : Int) (a0_3 : List (den (.int .u8))) (RET : List (den (.int .u8)) → Option β) : Option β := (F101 k a0_0 a0_1 a0_2 a0_3).bind fun b1 => cond (!b1) (RET []) (cond (decide (([IntKind.u8.wrap (a0_0), IntKind.u8.wrap (a0_1), IntKind.u8.wrap (a0_2), IntKind.u8.wrap (((a0_3.length : Nat) : Int))].length + a0_3.length) * 1 ≤ 140737488355328)) ((F100 k ([IntKind.u8.wrap (a0_0), IntKind.u8.wrap (a0_1), IntKind.u8.wrap (a0_2), IntKind.u8.wrap (((a0_3.length : Nat) : Int))] ++ a0_3)).bind fun b2 => (F95 k b2 2).bind fun b3 => cond (decide ((([IntKind.u8.wrap (a0_0), IntKind.u8.wrap (a0_1), IntKind.u8.wrap (a0_2), IntKind.u8.wrap (((a0_3.length : Nat) : Int))] ++ a0_3).length + b3.length) * 1 ≤ 140737488355328)) (RET (([IntKind.u8.wrap (a0_0), IntKind.u8.wrap (a0_1), IntKind.u8.wrap (a0_2), IntKind.u8.wrap (((a0_3.length : Nat) : Int))] ++ a0_3) ++ b3)) none) none)
def F73 (k : Nat) (a0_0 a0_1 a0_2 : Int) (a0_3 : List (den (.int .u8))) : Option (List (den (.int .u8))) := F73_T k a0_0 a0_1 a0_2 a0_3 some
theorem F73_st {β : Type} (k : Nat) (a0_0 a0_1 a0_2 : Int) (a0_3 : List (den (.int .u8))) (K : A × List (List Leaf) → Option β) : evalF (F73_E k) Try.f73 (F73_a a0_0 a0_1 a0_2 a0_3) K =
    F73_T k a0_0 a0_1 a0_2 a0_3 (fun r => K (F73_r r)) := by kernel_rfl
theorem F73_ev {β : Type} (k : Nat) (a0_0 a0_1 a0_2 : Int) (a0_3 : List (den (.int .u8))) (K : A × List (List Leaf) → Option β) : evalF (F73_E k) Try.f73 (F73_a a0_0 a0_1 a0_2 a0_3) K = (F73 k a0_0 a0_1 a0_2 a0_3).bind fun r => K (F73_r r) := by
  rw [F73_st, F73]
  simp only [F73_T, bind_cond, Option.bind_assoc, Option.bind_some, Option.bind_none, Option.bind_fun_some]
theorem F73_tOk (k : Nat) : TabFn Try.prog (F73_t k) := .ent (F101_q k) F101_f (.ent (F100_q k) F100_f (.ent (F95_q k) F95_f (.none)))
theorem F73_con (k : Nat) (a0_0 a0_1 a0_2 : Int) (a0_3 : List (den (.int .u8))) : Contract Try.prog 73 (F73_a a0_0 a0_1 a0_2 a0_3) ⟨F73 k a0_0 a0_1 a0_2 a0_3, F73_r⟩ := con_of (envOk (F73_tOk k) _ _ _ _) mixed Try.func73 rfl rfl (F73_ev k a0_0 a0_1 a0_2 a0_3 some)
def F73_sh : List AK := [.agg [.l (.int .i64), .l (.int .i64), .l (.int .i64), .l (.sl .ro (.int .u8))]]
def F73_p (k : Nat) : List Arg → Option CR := cle F73_sh fun x => ⟨F73 k x.1.1 x.1.2.1 x.1.2.2.1 x.1.2.2.2.1, F73_r⟩
theorem F73_q (k : Nat) : ∀ xs cr, F73_p k xs = some cr → Contract Try.prog 73 xs cr := cle_ok fun x => F73_con k _ _ _ _
theorem F73_f : FnOk Try.prog 73 := .of (by kernel_rfl)
def F29_t (k : Nat) : Tab := entT 71 (F71_p k) <| entT 72 (F72_p k) <| entT 73 (F73_p k) <| noTab
abbrev F29_E (k : Nat) : Env := env (F29_t k) noHint .own [] k
abbrev F29_a (a0_0 a0_1 a0_2 a0_3 a0_4 : Int) (a0_5 a0_6 a0_7 a0_8 : Bool) (a0_9 : List (den rng)) (a0_10 : List (den (.int .u8))) (a1 a2 a3 a4 : Int) : List Arg := [.agg [.l (.v (.int .i64 a0_0)), .l (.v (.int .i64 a0_1)), .l (.v (.int .i64 a0_2)), .l (.v (.int .i64 a0_3)), .l (.v (.int .i64 a0_4)), .l (.v (.bool a0_5)), .l (.v (.bool a0_6)), .l (.v (.bool a0_7)), .l (.v (.bool a0_8)), .l (.s .ro rng a0_9), .l (.s .ro (.int .u8) a0_10)], .one (.l (.v (.int .i64 a1))), .one (.l (.v (.int .i64 a2))), .one (.l (.v (.int .i64 a3))), .one (.l (.v (.int .i64 a4)))]
def F29_r (r : List (den (.int .u8))) : A × List (List Leaf) := (.one (.s .own (.int .u8) r), [])
def F29_T {β : Type} (k : Nat) (a0_0 a0_1 a0_2 a0_3 a0_4 : Int) (a0_5 a0_6 a0_7 a0_8 : Bool) (a0_9 : List (den rng)) (a0_10 : List (den (.int .u8))) (a1 a2 a3 a4 : Int) (RET : List (den (.int .u8)) → Option β) : Option β := (F71 k a0_0 a0_1 a0_2 a0_3 a0_4 a0_5 a0_6 a0_7 a0_8 a0_9 a0_10 a1 a2).bind fun b1 => cond (((b1.length : Nat) : Int) == 0) (RET []) ((F72 k a1 a2 6 64 0 0 false false b1).bind fun b2 => (F73 k a4 a3 8 b2).bind fun b3 => RET b3)
def F29 (k : Nat) (a0_0 a0_1 a0_2 a0_3 a0_4 : Int) (a0_5 a0_6 a0_7 a0_8 : Bool) (a0_9 : List (den rng)) (a0_10 : List (den (.int .u8))) (a1 a2 a3 a4 : Int) : Option (List (den (.int .u8))) := F29_T k a0_0 a0_1 a0_2 a0_3 a0_4 a0_5 a0_6 a0_7 a0_8 a0_9 a0_10 a1 a2 a3 a4 some
theorem F29_st {β : Type} (k : Nat) (a0_0 a0_1 a0_2 a0_3 a0_4 : Int) (a0_5 a0_6 a0_7 a0_8 : Bool) (a0_9 : List (den rng)) (a0_10 : List (den (.int .u8))) (a1 a2 a3 a4 : Int) (K : A × List (List Leaf) → Option β) : evalF (F29_E k) Try.f29 (F29_a a0_0 a0_1 a0_2 a0_3 a0_4 a0_5 a0_6 a0_7 a0_8 a0_9 a0_10 a1 a2 a3 a4) K =
    F29_T k a0_0 a0_1 a0_2 a0_3 a0_4 a0_5 a0_6 a0_7 a0_8 a0_9 a0_10 a1 a2 a3 a4 (fun r => K (F29_r r)) := by kernel_rfl
theorem F29_ev {β : Type} (k : Nat) (a0_0 a0_1 a0_2 a0_3 a0_4 : Int) (a0_5 a0_6 a0_7 a0_8 : Bool) (a0_9 : List (den rng)) (a0_10 : List (den (.int .u8))) (a1 a2 a3 a4 : Int) (K : A × List (List Leaf) → Option β) : evalF (F29_E k) Try.f29 (F29_a a0_0 a0_1 a0_2 a0_3 a0_4 a0_5 a0_6 a0_7 a0_8 a0_9 a0_10 a1 a2 a3 a4) K = (F29 k a0_0 a0_1 a0_2 a0_3 a0_4 a0_5 a0_6 a0_7 a0_8 a0_9 a0_10 a1 a2 a3 a4).bind fun r => K (F29_r r) := by
  rw [F29_st, F29]
  simp only [F29_T, bind_cond, Option.bind_assoc, Option.bind_some, Option.bind_none, Option.bind_fun_some]
theorem F29_tOk (k : Nat) : TabFn Try.prog (F29_t k) := .ent (F71_q k) F71_f (.ent (F72_q k) F72_f (.ent (F73_q k) F73_f (.none)))
theorem F29_con (k : Nat) (a0_0 a0_1 a0_2 a0_3 a0_4 : Int) (a0_5 a0_6 a0_7 a0_8 : Bool) (a0_9 : List (den rng)) (a0_10 : List (den (.int .u8))) (a1 a2 a3 a4 : Int) : Contract Try.prog 29 (F29_a a0_0 a0_1 a0_2 a0_3 a0_4 a0_5 a0_6 a0_7 a0_8 a0_9 a0_10 a1 a2 a3 a4) ⟨F29 k a0_0 a0_1 a0_2 a0_3 a0_4 a0_5 a0_6 a0_7 a0_8 a0_9 a0_10 a1 a2 a3 a4, F29_r⟩ := con_of (envOk (F29_tOk k) _ _ _ _) mixed Try.func29 rfl rfl (F29_ev k a0_0 a0_1 a0_2 a0_3 a0_4 a0_5 a0_6 a0_7 a0_8 a0_9 a0_10 a1 a2 a3 a4 some)
def F29_sh : List AK := [.agg [.l (.int .i64), .l (.int .i64), .l (.int .i64), .l (.int .i64), .l (.int .i64), .l (.bool), .l (.bool), .l (.bool), .l (.bool), .l (.sl .ro rng), .l (.sl .ro (.int .u8))], .one (.l (.int .i64)), .one (.l (.int .i64)), .one (.l (.int .i64)), .one (.l (.int .i64))]
def F29_p (k : Nat) : List Arg → Option CR := cle F29_sh fun x => ⟨F29 k x.1.1 x.1.2.1 x.1.2.2.1 x.1.2.2.2.1 x.1.2.2.2.2.1 x.1.2.2.2.2.2.1 x.1.2.2.2.2.2.2.1 x.1.2.2.2.2.2.2.2.1 x.1.2.2.2.2.2.2.2.2.1 x.1.2.2.2.2.2.2.2.2.2.1 x.1.2.2.2.2.2.2.2.2.2.2.1 x.2.1 x.2.2.1 x.2.2.2.1 x.2.2.2.2.1, F29_r⟩
theorem F29_q (k : Nat) : ∀ xs cr, F29_p k xs = some cr → Contract Try.prog 29 xs cr := cle_ok fun x => F29_con k _ _ _ _ _ _ _ _ _ _ _ _ _ _ _
theorem F29_f : FnOk Try.prog 29 := .of (by kernel_rfl)
abbrev F45_E (k : Nat) : Env := env noTab noHint .own [] k
abbrev F45_a (a0 a1 a2 : Int) : List Arg := [.one (.l (.v (.int .i64 a0))), .one (.l (.v (.int .i64 a1))), .one (.l (.v (.int .i64 a2)))]
def F45_r (r : Bool) : A × List (List Leaf) := (.one (.v (.bool r)), [])
def F45 (k : Nat) (a0 a1 a2 : Int) : Option (Bool) := cond (decide (a0 ≥ a1)) (some (decide (a0 ≤ a2))) (some false)
theorem F45_st {β : Type} (k : Nat) (a0 a1 a2 : Int) (K : A × List (List Leaf) → Option β) : evalF (F45_E k) Try.f45 (F45_a a0 a1 a2) K =
    cond (decide (a0 ≥ a1)) (K (.one (.v (.bool (decide (a0 ≤ a2)))), [])) (K (.one (.v (.bool false)), [])) := by kernel_rfl
theorem F45_ev {β : Type} (k : Nat) (a0 a1 a2 : Int) (K : A × List (List Leaf) → Option β) : evalF (F45_E k) Try.f45 (F45_a a0 a1 a2) K = (F45 k a0 a1 a2).bind fun r => K (F45_r r) := by
  rw [F45_st, F45]
  simp only [F45_r, bind_cond, Option.bind_assoc, Option.bind_some, Option.bind_none, Option.bind_fun_some]
theorem F45_con (k : Nat) (a0 a1 a2 : Int) : Contract Try.prog 45 (F45_a a0 a1 a2) ⟨F45 k a0 a1 a2, F45_r⟩ := con_of (envOk .none _ _ _ _) mixed Try.func45 rfl rfl (F45_ev k a0 a1 a2 some)
def F45_sh : List AK := [.one (.l (.int .i64)), .one (.l (.int .i64)), .one (.l (.int .i64))]
def F45_p (k : Nat) : List Arg → Option CR := cle F45_sh fun x => ⟨F45 k x.1 x.2.1 x.2.2.1, F45_r⟩
theorem F45_q (k : Nat) : ∀ xs cr, F45_p k xs = some cr → Contract Try.prog 45 xs cr := cle_ok fun x => F45_con k _ _ _
theorem F45_f : FnOk Try.prog 45 := .of (by kernel_rfl)
def F54_t (k : Nat) : Tab := entT 45 (F45_p k) <| noTab
abbrev F54_E (k : Nat) : Env := env (F54_t k) noHint .own [] k
abbrev F54_a (a0 : Int) : List Arg := [.one (.l (.v (.int .i64 a0)))]
def F54_r (r : Bool) : A × List (List Leaf) := (.one (.v (.bool r)), [])
def F54 (k : Nat) (a0 : Int) : Option (Bool) := (F45 k a0 1 255).bind fun b1 => some b1
theorem F54_st {β : Type} (k : Nat) (a0 : Int) (K : A × List (List Leaf) → Option β) : evalF (F54_E k) Try.f54 (F54_a a0) K =
    (F45 k a0 1 255).bind fun b1 => K (.one (.v (.bool b1)), []) := by kernel_rfl
theorem F54_ev {β : Type} (k : Nat) (a0 : Int) (K : A × List (List Leaf) → Option β) : evalF (F54_E k) Try.f54 (F54_a a0) K = (F54 k a0).bind fun r => K (F54_r r) := by
  rw [F54_st, F54]
  simp only [F54_r, bind_cond, Option.bind_assoc, Option.bind_some, Option.bind_none, Option.bind_fun_some]
theorem F54_tOk (k : Nat) : TabFn Try.prog (F54_t k) := .ent (F45_q k) F45_f (.none)
theorem F54_con (k : Nat) (a0 : Int) : Contract Try.prog 54 (F54_a a0) ⟨F54 k a0, F54_r⟩ := con_of (envOk (F54_tOk k) _ _ _ _) mixed Try.func54 rfl rfl (F54_ev k a0 some)
def F54_sh : List AK := [.one (.l (.int .i64))]
def F54_p (k : Nat) : List Arg → Option CR := cle F54_sh fun x => ⟨F54 k x.1, F54_r⟩
theorem F54_q (k : Nat) : ∀ xs cr, F54_p k xs = some cr → Contract Try.prog 54 xs cr := cle_ok fun x => F54_con k _
theorem F54_f : FnOk Try.prog 54 := .of (by kernel_rfl)
def F55_t (k : Nat) : Tab := entT 45 (F45_p k) <| noTab
abbrev F55_E (k : Nat) : Env := env (F55_t k) noHint .own [] k
abbrev F55_a (a0 : Int) : List Arg := [.one (.l (.v (.int .i64 a0)))]
def F55_r (r : Bool) : A × List (List Leaf) := (.one (.v (.bool r)), [])
def F55 (k : Nat) (a0 : Int) : Option (Bool) := (F45 k a0 0 65535).bind fun b1 => some b1
theorem F55_st {β : Type} (k : Nat) (a0 : Int) (K : A × List (List Leaf) → Option β) : evalF (F55_E k) Try.f55 (F55_a a0) K =
    (F45 k a0 0 65535).bind fun b1 => K (.one (.v (.bool b1)), []) := by kernel_rfl
theorem F55_ev {β : Type} (k : Nat) (a0 : Int) (K : A × List (List Leaf) → Option β) : evalF (F55_E k) Try.f55 (F55_a a0) K = (F55 k a0).bind fun r => K (F55_r r) := by
  rw [F55_st, F55]
  simp only [F55_r, bind_cond, Option.bind_assoc, Option.bind_some, Option.bind_none, Option.bind_fun_some]
theorem F55_tOk (k : Nat) : TabFn Try.prog (F55_t k) := .ent (F45_q k) F45_f (.none)
theorem F55_con (k : Nat) (a0 : Int) : Contract Try.prog 55 (F55_a a0) ⟨F55 k a0, F55_r⟩ := con_of (envOk (F55_tOk k) _ _ _ _) mixed Try.func55 rfl rfl (F55_ev k a0 some)
def F55_sh : List AK := [.one (.l (.int .i64))]
def F55_p (k : Nat) : List Arg → Option CR := cle F55_sh fun x => ⟨F55 k x.1, F55_r⟩
theorem F55_q (k : Nat) : ∀ xs cr, F55_p k xs = some cr → Contract Try.prog 55 xs cr := cle_ok fun x => F55_con k _
theorem F55_f : FnOk Try.prog 55 := .of (by kernel_rfl)
def F57_t (k : Nat) : Tab := entT 55 (F55_p k) <| noTab
abbrev F57_E (k : Nat) : Env := env (F57_t k) noHint .own [] k
abbrev F57_a (a0_0 a0_1 : Int) : List Arg := [.agg [.l (.v (.int .i64 a0_0)), .l (.v (.int .i64 a0_1))]]
def F57_r (r : Bool) : A × List (List Leaf) := (.one (.v (.bool r)), [])
def F57 (k : Nat) (a0_0 a0_1 : Int) : Option (Bool) := (F55 k a0_0).bind fun b1 => cond (!b1) (some true) ((F55 k a0_1).bind fun b2 => some (!b2))
theorem F57_st {β : Type} (k : Nat) (a0_0 a0_1 : Int) (K : A × List (List Leaf) → Option β) : evalF (F57_E k) Try.f57 (F57_a a0_0 a0_1) K =
    (F55 k a0_0).bind fun b1 => cond (!b1) (K (.one (.v (.bool true)), [])) ((F55 k a0_1).bind fun b2 => K (.one (.v (.bool (!b2))), [])) := by kernel_rfl
theorem F57_ev {β : Type} (k : Nat) (a0_0 a0_1 : Int) (K : A × List (List Leaf) → Option β) : evalF (F57_E k) Try.f57 (F57_a a0_0 a0_1) K = (F57 k a0_0 a0_1).bind fun r => K (F57_r r) := by
  rw [F57_st, F57]
  simp only [F57_r, bind_cond, Option.bind_assoc, Option.bind_some, Option.bind_none, Option.bind_fun_some]
theorem F57_tOk (k : Nat) : TabFn Try.prog (F57_t k) := .ent (F55_q k) F55_f (.none)
theorem F57_con (k : Nat) (a0_0 a0_1 : Int) : Contract Try.prog 57 (F57_a a0_0 a0_1) ⟨F57 k a0_0 a0_1, F57_r⟩ := con_of (envOk (F57_tOk k) _ _ _ _) mixed Try.func57 rfl rfl (F57_ev k a0_0 a0_1 some)
def F57_sh : List AK := [.agg [.l (.int .i64), .l (.int .i64)]]
def F57_p (k : Nat) : List Arg → Option CR := cle F57_sh fun x => ⟨F57 k x.1.1 x.1.2.1, F57_r⟩
theorem F57_q (k : Nat) : ∀ xs cr, F57_p k xs = some cr → Contract Try.prog 57 xs cr := cle_ok fun x => F57_con k _ _
theorem F57_f : FnOk Try.prog 57 := .of (by kernel_rfl)
def F90_h : Nat → Hint
  | 0 => ⟨[(0, .plain), (1, .plain), (7, .plain), (8, .plain)], []⟩
  | _ => ⟨[], []⟩
def F90_t (k : Nat) : Tab := entT 57 (F57_p k) <| noTab
abbrev F90_E (k : Nat) : Env := env (F90_t k) F90_h .own [] k
abbrev F90_a (a0 : List (den rng)) : List Arg := [.one (.l (.s .ro rng a0)), .one (.fn 57 [])]
def F90_r (r : Int) : A × List (List Leaf) := (.one (.v (.int .i64 r)), [])
def F90_s0 (a0 : List (den rng)) (x8_0 : Int) : St := ⟨(.one (.s .ro rng a0)) :: (.one (.fn 57 [])) :: dz 5 ((.one (.v (.int .i64 ((a0.length : Nat) : Int)))) :: (.one (.v (.int .i64 x8_0))) :: dz 10 []), []⟩
def F90_l0_T {β : Type} (k : Nat) (a0 : List (den rng)) (NX : Int → Option β) (RET : Int → Option β) (x8_0 : Int) : Option β := cond (decide (x8_0 < ((a0.length : Nat) : Int))) (cond (decide (0 ≤ x8_0)) (cond (decide (x8_0 < ((a0.length : Nat) : Int))) ((F57 k ((atI a0 x8_0).1) ((atI a0 x8_0).2)).bind fun b1 => cond b1 (RET x8_0) (NX (IntKind.i64.wrap (x8_0 + 1)))) none) none) (RET (-1))
def F90_l0 (k : Nat) (a0 : List (den rng)) : Nat → Int → Option (Int)
  | 0, _ => none
  | n + 1, x8_0 => F90_l0_T k a0 (fun x8_0 => F90_l0 k a0 n x8_0) some x8_0
theorem F90_l0_rd {β : Type} (k n : Nat) (a0 : List (den rng)) (x8_0 : Int) (K : A × List (List Leaf) → Option β) :
    loopG (F90_E k) Try.f90 [1, 0, 1, 0] 0 (kontAt (F90_E k) [1, 0, 1, 0] (bodyOf Try.f90) 0 (endC (F90_E k) Try.f90 (F90_a a0) K)) (n + 1) (F90_s0 a0 x8_0) =
    F90_l0_T k a0 (fun x8_0 => loopG (F90_E k) Try.f90 [1, 0, 1, 0] 0 (kontAt (F90_E k) [1, 0, 1, 0] (bodyOf Try.f90) 0 (endC (F90_E k) Try.f90 (F90_a a0) K)) n (F90_s0 a0 x8_0)) (fun r => K (F90_r r)) x8_0 := by kernel_rfl
theorem F90_l0_lp {β : Type} (k : Nat) (a0 : List (den rng)) (K : A × List (List Leaf) → Option β) (n : Nat) : ∀ (x8_0 : Int), loopG (F90_E k) Try.f90 [1, 0, 1, 0] 0 (kontAt (F90_E k) [1, 0, 1, 0] (bodyOf Try.f90) 0 (endC (F90_E k) Try.f90 (F90_a a0) K)) n (F90_s0 a0 x8_0) =
    (F90_l0 k a0 n x8_0).bind fun r => K (F90_r r) := by
  induction n with
  | zero => intros; rfl
  | succ n ih =>
    intros
    rw [F90_l0_rd, F90_l0]
    simp only [F90_l0_T, bind_cond, Option.bind_assoc, Option.bind_some, Option.bind_none, Option.bind_fun_some, ih]
def F90_T {β : Type} (k : Nat) (a0 : List (den rng)) (LP0 : Int → Option β) : Option β := LP0 0
def F90 (k : Nat) (a0 : List (den rng)) : Option (Int) := F90_T k a0 (fun x8_0 => F90_l0 k a0 k x8_0)
theorem F90_st {β : Type} (k : Nat) (a0 : List (den rng)) (K : A × List (List Leaf) → Option β) : evalF (F90_E k) Try.f90 (F90_a a0) K =
    F90_T k a0 (fun x8_0 => loopG (F90_E k) Try.f90 [1, 0, 1, 0] 0 (kontAt (F90_E k) [1, 0, 1, 0] (bodyOf Try.f90) 0 (endC (F90_E k) Try.f90 (F90_a a0) K)) k (F90_s0 a0 x8_0)) := by kernel_rfl
theorem F90_ev {β : Type} (k : Nat) (a0 : List (den rng)) (K : A × List (List Leaf) → Option β) : evalF (F90_E k) Try.f90 (F90_a a0) K = (F90 k a0).bind fun r => K (F90_r r) := by
  rw [F90_st, F90]
  simp only [F90_T, bind_cond, Option.bind_assoc, Option.bind_some, Option.bind_none, Option.bind_fun_some, F90_l0_lp]
theorem F90_tOk (k : Nat) : TabFn Try.prog (F90_t k) := .ent (F57_q k) F57_f (.none)
theorem F90_con (k : Nat) (a0 : List (den rng)) : Contract Try.prog 90 (F90_a a0) ⟨F90 k a0, F90_r⟩ := con_of (envOk (F90_tOk k) _ _ _ _) mixed Try.func90 rfl rfl (F90_ev k a0 some)
def F90_sh : List AK := [.one (.l (.sl .ro rng)), .one (.fn 57)]
def F90_p (k : Nat) : List Arg → Option CR := cle F90_sh fun x => ⟨F90 k x.1, F90_r⟩
theorem F90_q (k : Nat) : ∀ xs cr, F90_p k xs = some cr → Contract Try.prog 90 xs cr := cle_ok fun x => F90_con k _
theorem F90_f : FnOk Try.prog 90 := .of (by kernel_rfl)
def F56_t (k : Nat) : Tab := entT 90 (F90_p k) <| noTab
abbrev F56_E (k : Nat) : Env := env (F56_t k) noHint .own [] k
abbrev F56_a (a0 : List (den rng)) : List Arg := [.one (.l (.s .ro rng a0)), .one (.fn 57 [])]
def F56_r (r : Bool) : A × List (List Leaf) := (.one (.v (.bool r)), [])
def F56 (k : Nat) (a0 : List (den rng)) : Option (Bool) := (F90 k a0).bind fun b1 => some (decide (b1 ≥ 0))
theorem F56_st {β : Type} (k : Nat) (a0 : List (den rng)) (K : A × List (List Leaf) → Option β) : evalF (F56_E k) Try.f56 (F56_a a0) K =
    (F90 k a0).bind fun b1 => K (.one (.v (.bool (decide (b1 ≥ 0)))), []) := by kernel_rfl
theorem F56_ev {β : Type} (k : Nat) (a0 : List (den rng)) (K : A × List (List Leaf) → Option β) : evalF (F56_E k) Try.f56 (F56_a a0) K = (F56 k a0).bind fun r => K (F56_r r) := by
  rw [F56_st, F56]
  simp only [F56_r, bind_cond, Option.bind_assoc, Option.bind_some, Option.bind_none, Option.bind_fun_some]
theorem F56_tOk (k : Nat) : TabFn Try.prog (F56_t k) := .ent (F90_q k) F90_f (.none)
theorem F56_con (k : Nat) (a0 : List (den rng)) : Contract Try.prog 56 (F56_a a0) ⟨F56 k a0, F56_r⟩ := con_of (envOk (F56_tOk k) _ _ _ _) mixed Try.func56 rfl rfl (F56_ev k a0 some)
def F56_sh : List AK := [.one (.l (.sl .ro rng)), .one (.fn 57)]
def F56_p (k : Nat) : List Arg → Option CR := cle F56_sh fun x => ⟨F56 k x.1, F56_r⟩
theorem F56_q (k : Nat) : ∀ xs cr, F56_p k xs = some cr → Contract Try.prog 56 xs cr := cle_ok fun x => F56_con k _
theorem F56_f : FnOk Try.prog 56 := .of (by kernel_rfl)
def F14_t (k : Nat) : Tab := entT 54 (F54_p k) <| entT 55 (F55_p k) <| entT 45 (F45_p k) <| entT 56 (F56_p k) <| noTab
abbrev F14_E (k : Nat) : Env := env (F14_t k) noHint .own [] k
abbrev F14_a (a0_0 a0_1 a0_2 a0_3 a0_4 : Int) (a0_5 a0_6 a0_7 a0_8 : Bool) (a0_9 : List (den rng)) (a0_10 : List (den (.int .u8))) : List Arg := [.agg [.l (.v (.int .i64 a0_0)), .l (.v (.int .i64 a0_1)), .l (.v (.int .i64 a0_2)), .l (.v (.int .i64 a0_3)), .l (.v (.int .i64 a0_4)), .l (.v (.bool a0_5)), .l (.v (.bool a0_6)), .l (.v (.bool a0_7)), .l (.v (.bool a0_8)), .l (.s .ro rng a0_9), .l (.s .ro (.int .u8) a0_10)]]
def F14_r (r : Bool) : A × List (List Leaf) := (.one (.v (.bool r)), [])
def F14_T {β : Type} (k : Nat) (a0_0 a0_1 a0_2 a0_3 a0_4 : Int) (a0_5 a0_6 a0_7 a0_8 : Bool) (a0_9 : List (den rng)) (a0_10 : List (den (.int .u8))) (RET : Bool → Option β) : Option β := (F54 k a0_0).bind fun b1 => cond (!b1) (RET false) ((F54 k a0_1).bind fun b2 => cond (!b2) (RET false) ((F55 k a0_2).bind fun b3 => cond (!b3) (RET false) ((F55 k a0_3).bind fun b4 => cond (!b4) (RET false) ((F45 k a0_4 0 255).bind fun b5 => cond (!b5) (RET false) (cond (decide (((a0_9.length : Nat) : Int) > 2)) (RET false) (cond (decide (((a0_10.length : Nat) : Int) > 12)) (RET false) ((F56 k a0_9).bind fun b6 => cond b6 (RET false) (cond (!a0_6) (cond (a0_3 != 0) (RET false) (cond (a0_4 != 0) (RET false) (cond (decide (((a0_9.length : Nat) : Int) > 0)) (RET false) (cond (!a0_8) (RET true) (cond (!a0_5) (cond (!a0_7) (RET (((a0_10.length : Nat) : Int) == 0)) (RET false)) (RET false)))))) (cond (!a0_8) (RET true) (cond (!a0_5) (cond (!a0_7) (RET (((a0_10.length : Nat) : Int) == 0)) (RET false)) (RET false)))))))))))
def F14 (k : Nat) (a0_0 a0_1 a0_2 a0_3 a0_4 : Int) (a0_5 a0_6 a0_7 a0_8 : Bool) (a0_9 : List (den rng)) (a0_10 : List (den (.int .u8))) : Option (Bool) := F14_T k a0_0 a0_1 a0_2 a0_3 a0_4 a0_5 a0_6 a0_7 a0_8 a0_9 a0_10 some
theorem F14_st {β : Type} (k : Nat) (a0_0 a0_1 a0_2 a0_3 a0_4 : Int) (a0_5 a0_6 a0_7 a0_8 : Bool) (a0_9 : List (den rng)) (a0_10 : List (den (.int .u8))) (K : A × List (List Leaf) → Option β) : evalF (F14_E k) Try.f14 (F14_a a0_0 a0_1 a0_2 a0_3 a0_4 a0_5 a0_6 a0_7 a0_8 a0_9 a0_10) K =
    F14_T k a0_0 a0_1 a0_2 a0_3 a0_4 a0_5 a0_6 a0_7 a0_8 a0_9 a0_10 (fun r => K (F14_r r)) := by kernel_rfl
theorem F14_ev {β : Type} (k : Nat) (a0_0 a0_1 a0_2 a0_3 a0_4 : Int) (a0_5 a0_6 a0_7 a0_8 : Bool) (a0_9 : List (den rng)) (a0_10 : List (den (.int .u8))) (K : A × List (List Leaf) → Option β) : evalF (F14_E k) Try.f14 (F14_a a0_0 a0_1 a0_2 a0_3 a0_4 a0_5 a0_6 a0_7 a0_8 a0_9 a0_10) K = (F14 k a0_0 a0_1 a0_2 a0_3 a0_4 a0_5 a0_6 a0_7 a0_8 a0_9 a0_10).bind fun r => K (F14_r r) := by
  rw [F14_st, F14]
  simp only [F14_T, bind_cond, Option.bind_assoc, Option.bind_some, Option.bind_none, Option.bind_fun_some]
theorem F14_tOk (k : Nat) : TabFn Try.prog (F14_t k) := .ent (F54_q k) F54_f (.ent (F55_q k) F55_f (.ent (F45_q k) F45_f (.ent (F56_q k) F56_f (.none))))
theorem F14_con (k : Nat) (a0_0 a0_1 a0_2 a0_3 a0_4 : Int) (a0_5 a0_6 a0_7 a0_8 : Bool) (a0_9 : List (den rng)) (a0_10 : List (den (.int .u8))) : Contract Try.prog 14 (F14_a a0_0 a0_1 a0_2 a0_3 a0_4 a0_5 a0_6 a0_7 a0_8 a0_9 a0_10) ⟨F14 k a0_0 a0_1 a0_2 a0_3 a0_4 a0_5 a0_6 a0_7 a0_8 a0_9 a0_10, F14_r⟩ := con_of (envOk (F14_tOk k) _ _ _ _) mixed Try.func14 rfl rfl (F14_ev k a0_0 a0_1 a0_2 a0_3 a0_4 a0_5 a0_6 a0_7 a0_8 a0_9 a0_10 some)
def F14_sh : List AK := [.agg [.l (.int .i64), .l (.int .i64), .l (.int .i64), .l (.int .i64), .l (.int .i64), .l (.bool), .l (.bool), .l (.bool), .l (.bool), .l (.sl .ro rng), .l (.sl .ro (.int .u8))]]
def F14_p (k : Nat) : List Arg → Option CR := cle F14_sh fun x => ⟨F14 k x.1.1 x.1.2.1 x.1.2.2.1 x.1.2.2.2.1 x.1.2.2.2.2.1 x.1.2.2.2.2.2.1 x.1.2.2.2.2.2.2.1 x.1.2.2.2.2.2.2.2.1 x.1.2.2.2.2.2.2.2.2.1 x.1.2.2.2.2.2.2.2.2.2.1 x.1.2.2.2.2.2.2.2.2.2.2.1, F14_r⟩
theorem F14_q (k : Nat) : ∀ xs cr, F14_p k xs = some cr → Contract Try.prog 14 xs cr := cle_ok fun x => F14_con k _ _ _ _ _ _ _ _ _ _ _
theorem F14_f : FnOk Try.prog 14 := .of (by kernel_rfl)
abbrev F59_E (k : Nat) : Env := env noTab noHint .own [] k
abbrev F59_a (a0 : Bool) (a1 : Int) : List Arg := [.one (.l (.v (.bool a0))), .one (.l (.v (.int .i64 a1)))]
def F59_r (r : Int) : A × List (List Leaf) := (.one (.v (.int .i64 r)), [])
def F59 (k : Nat) (a0 : Bool) (a1 : Int) : Option (Int) := cond a0 (some a1) (some 0)
theorem F59_st {β : Type} (k : Nat) (a0 : Bool) (a1 : Int) (K : A × List (List Leaf) → Option β) : evalF (F59_E k) Try.f59 (F59_a a0 a1) K =
    cond a0 (K (.one (.v (.int .i64 a1)), [])) (K (.one (.v (.int .i64 0)), [])) := by kernel_rfl
theorem F59_ev {β : Type} (k : Nat) (a0 : Bool) (a1 : Int) (K : A × List (List Leaf) → Option β) : evalF (F59_E k) Try.f59 (F59_a a0 a1) K = (F59 k a0 a1).bind fun r => K (F59_r r) := by
  rw [F59_st, F59]
  simp only [F59_r, bind_cond, Option.bind_assoc, Option.bind_some, Option.bind_none, Option.bind_fun_some]
theorem F59_con (k : Nat) (a0 : Bool) (a1 : Int) : Contract Try.prog 59 (F59_a a0 a1) ⟨F59 k a0 a1, F59_r⟩ := con_of (envOk .none _ _ _ _) mixed Try.func59 rfl rfl (F59_ev k a0 a1 some)
def F59_sh : List AK := [.one (.l (.bool)), .one (.l (.int .i64))]
def F59_p (k : Nat) : List Arg → Option CR := cle F59_sh fun x => ⟨F59 k x.1 x.2.1, F59_r⟩
theorem F59_q (k : Nat) : ∀ xs cr, F59_p k xs = some cr → Contract Try.prog 59 xs cr := cle_ok fun x => F59_con k _ _
theorem F59_f : FnOk Try.prog 59 := .of (by kernel_rfl)
def F91_h : Nat → Hint
  | 0 => ⟨[(0, .plain), (5, .plain), (6, .plain)], [(8000, .plain)]⟩
  | _ => ⟨[], []⟩
abbrev F91_E (k : Nat) : Env := env noTab F91_h .own [] k
abbrev F91_a (a0 a1 : Int) : List Arg := [.one (.l (.v (.int .i64 a0))), .one (.l (.v (.int .i64 a1)))]
def F91_r (r : List (den (.int .u8))) : A × List (List Leaf) := (.one (.s .own (.int .u8) r), [])
def F91_s0 (a0 a1 : Int) (x0_0 x6_0 : Int) (m8000_0 : List (den (.int .u8))) : St := ⟨(.one (.v (.int .i64 x0_0))) :: dz 4 ((.one (.a (.cell 8000) 0 0 none)) :: (.one (.v (.int .i64 x6_0))) :: dz 16 []), [(8000, ⟨.s .own (.int .u8) m8000_0, 0, 0⟩)]⟩
def F91_l0_T {β : Type} (k : Nat) (a0 a1 : Int) (NX : Int → Int → List (den (.int .u8)) → Option β) (RET : List (den (.int .u8)) → Option β) (x0_0 x6_0 : Int) (m8000_0 : List (den (.int .u8))) : Option β := cond (decide (x6_0 ≥ 0)) (cond (decide (0 ≤ x6_0)) (cond (decide (x6_0 < ((m8000_0.length : Nat) : Int))) (NX (x0_0.fdiv (2 ^ (8))) (IntKind.i64.wrap (x6_0 - 1)) (m8000_0.set x6_0.toNat (IntKind.u8.wrap (x0_0)))) none) none) (RET m8000_0)
def F91_l0 (k : Nat) (a0 a1 : Int) : Nat → Int → Int → List (den (.int .u8)) → Option (List (den (.int .u8)))
  | 0, _, _, _ => none
  | n + 1, x0_0, x6_0, m8000_0 => F91_l0_T k a0 a1 (fun x0_0 x6_0 m8000_0 => F91_l0 k a0 a1 n x0_0 x6_0 m8000_0) some x0_0 x6_0 m8000_0
theorem F91_l0_rd {β : Type} (k n : Nat) (a0 a1 : Int) (x0_0 x6_0 : Int) (m8000_0 : List (den (.int .u8))) (K : A × List (List Leaf) → Option β) :
    loopG (F91_E k) Try.f91 [1, 1, 0, 1, 0] 0 (kontAt (F91_E k) [1, 1, 0, 1, 0] (bodyOf Try.f91) 0 (endC (F91_E k) Try.f91 (F91_a a0 a1) K)) (n + 1) (F91_s0 a0 a1 x0_0 x6_0 m8000_0) =
    F91_l0_T k a0 a1 (fun x0_0 x6_0 m8000_0 => loopG (F91_E k) Try.f91 [1, 1, 0, 1, 0] 0 (kontAt (F91_E k) [1, 1, 0, 1, 0] (bodyOf Try.f91) 0 (endC (F91_E k) Try.f91 (F91_a a0 a1) K)) n (F91_s0 a0 a1 x0_0 x6_0 m8000_0)) (fun r => K (F91_r r)) x0_0 x6_0 m8000_0 := by kernel_rfl
theorem F91_l0_lp {β : Type} (k : Nat) (a0 a1 : Int) (K : A × List (List Leaf) → Option β) (n : Nat) : ∀ (x0_0 x6_0 : Int) (m8000_0 : List (den (.int .u8))), loopG (F91_E k) Try.f91 [1, 1, 0, 1, 0] 0 (kontAt (F91_E k) [1, 1, 0, 1, 0] (bodyOf Try.f91) 0 (endC (F91_E k) Try.f91 (F91_a a0 a1) K)) n (F91_s0 a0 a1 x0_0 x6_0 m8000_0) =
    (F91_l0 k a0 a1 n x0_0 x6_0 m8000_0).bind fun r => K (F91_r r) := by
  induction n with
  | zero => intros; rfl
  | succ n ih =>
    intros
    rw [F91_l0_rd, F91_l0]
    simp only [F91_l0_T, bind_cond, Option.bind_assoc, Option.bind_some, Option.bind_none, Option.bind_fun_some, ih]
def F91_T {β : Type} (k : Nat) (a0 a1 : Int) (LP0 : Int → Int → List (den (.int .u8)) → Option β) : Option β := cond (decide (0 ≤ a1) && decide (a1 = a1) && decide (a1 * (1 : Nat) ≤ 140737488355328)) (LP0 a0 (IntKind.i64.wrap (a1 - 1)) (List.replicate a1.toNat (dflt (.int .u8)))) none
def F91 (k : Nat) (a0 a1 : Int) : Option (List (den (.int .u8))) := F91_T k a0 a1 (fun x0_0 x6_0 m8000_0 => F91_l0 k a0 a1 k x0_0 x6_0 m8000_0)
theorem F91_st {β : Type} (k : Nat) (a0 a1 : Int) (K : A × List (List Leaf) → Option β) : evalF (F91_E k) Try.f91 (F91_a a0 a1) K =
    F91_T k a0 a1 (fun x0_0 x6_0 m8000_0 => loopG (F91_E k) Try.f91 [1, 1, 0, 1, 0] 0 (kontAt (F91_E k) [1, 1, 0, 1, 0] (bodyOf Try.f91) 0 (endC (F91_E k) Try.f91 (F91_a a0 a1) K)) k (F91_s0 a0 a1 x0_0 x6_0 m8000_0)) := by kernel_rfl
theorem F91_ev {β : Type} (k : Nat) (a0 a1 : Int) (K : A × List (List Leaf) → Option β) : evalF (F91_E k) Try.f91 (F91_a a0 a1) K = (F91 k a0 a1).bind fun r => K (F91_r r) := by
  rw [F91_st, F91]
  simp only [F91_T, bind_cond, Option.bind_assoc, Option.bind_some, Option.bind_none, Option.bind_fun_some, F91_l0_lp]
theorem F91_con (k : Nat) (a0 a1 : Int) : Contract Try.prog 91 (F91_a a0 a1) ⟨F91 k a0 a1, F91_r⟩ := con_of (envOk .none _ _ _ _) mixed Try.func91 rfl rfl (F91_ev k a0 a1 some)
def F91_sh : List AK := [.one (.l (.int .i64)), .one (.l (.int .i64))]
def F91_p (k : Nat) : List Arg → Option CR := cle F91_sh fun x => ⟨F91 k x.1 x.2.1, F91_r⟩
theorem F91_q (k : Nat) : ∀ xs cr, F91_p k xs = some cr → Contract Try.prog 91 xs cr := cle_ok fun x => F91_con k _ _
theorem F91_f : FnOk Try.prog 91 := .of (by kernel_rfl)
abbrev F92_E (k : Nat) : Env := env noTab noHint .own [] k
abbrev F92_a (a1 : Int) : List Arg := [.one (.l (.v (.slice none 0 0))), .one (.l (.v (.int .i64 a1)))]
def F92_r (r : List (den (.int .u8))) : A × List (List Leaf) := (.one (.s .own (.int .u8) r), [])
def F92_T {β : Type} (k : Nat) (a1 : Int) (RET : List (den (.int .u8)) → Option β) : Option β := cond (decide (a1 < 0)) none (cond (decide ((IntKind.i64.wrap (a1 - 0)) > 0)) (cond (decide (0 ≤ 0) && decide (0 ≤ ((0 : Nat) : Int))) (cond (decide (0 < (IntKind.i64.wrap (a1 - 0))) && decide ((IntKind.i64.wrap (a1 - 0)) * (1 : Nat) ≤ 140737488355328)) (cond (decide (0 ≤ 0) && decide (0 ≤ (((List.replicate ((IntKind.i64.wrap (a1 - 0)).toNat) (dflt (.int .u8))).length : Nat) : Int))) (RET (((List.replicate ((IntKind.i64.wrap (a1 - 0)).toNat) (dflt (.int .u8))).take 0).drop 0)) none) none) none) (RET []))
def F92 (k : Nat) (a1 : Int) : Option (List (den (.int .u8))) := F92_T k a1 some
theorem F92_st {β : Type} (k : Nat) (a1 : Int) (K : A × List (List Leaf) → Option β) : evalF (F92_E k) Try.f92 (F92_a a1) K =
    F92_T k a1 (fun r => K (F92_r r)) := by kernel_rfl
theorem F92_ev {β : Type} (k : Nat) (a1 : Int) (K : A × List (List Leaf) → Option β) : evalF (F92_E k) Try.f92 (F92_a a1) K = (F92 k a1).bind fun r => K (F92_r r) := by
  rw [F92_st, F92]
  simp only [F92_T, bind_cond, Option.bind_assoc, Option.bind_some, Option.bind_none, Option.bind_fun_some]
theorem F92_con (k : Nat) (a1 : Int) : Contract Try.prog 92 (F92_a a1) ⟨F92 k a1, F92_r⟩ := con_of (envOk .none _ _ _ _) mixed Try.func92 rfl rfl (F92_ev k a1 some)
def F92_sh : List AK := [.one (.l (.nil)), .one (.l (.int .i64))]
def F92_p (k : Nat) : List Arg → Option CR := cle F92_sh fun x => ⟨F92 k x.2.1, F92_r⟩
theorem F92_q (k : Nat) : ∀ xs cr, F92_p k xs = some cr → Contract Try.prog 92 xs cr := cle_ok fun x => F92_con k _
theorem F92_f : FnOk Try.prog 92 := .of (by kernel_rfl)
def F62_h : Nat → Hint
  | 0 => ⟨[(0, .plain), (3, .plain), (9, .plain), (10, .plain), (11, .plain)], []⟩
  | 2 => ⟨[(6, .own .own (.int .u8) []), (25, .plain), (26, .plain), (27, .plain)], []⟩
  | _ => ⟨[], []⟩
def F62_t (k : Nat) : Tab := entT 92 (F92_p k) <| noTab
abbrev F62_E (k : Nat) : Env := env (F62_t k) F62_h .own [] k
abbrev F62_a (a0 : List (den (.sl (.int .u8)))) : List Arg := [.one (.l (.s .ro (.sl (.int .u8)) a0))]
def F62_r (r : List (den (.int .u8))) : A × List (List Leaf) := (.one (.s .own (.int .u8) r), [])
def F62_s2 (a0 : List (den (.sl (.int .u8)))) (x27_2 : Int) (m6900_2 : List (den (.int .u8))) : St := ⟨dz 6 ((.one (.a (.cell 6900) 0 0 none)) :: dz 18 ((.one (.s .ro (.sl (.int .u8)) a0)) :: (.one (.v (.int .i64 ((a0.length : Nat) : Int)))) :: (.one (.v (.int .i64 x27_2))) :: dz 8 [])), [(6900, ⟨.s .own (.int .u8) m6900_2, 0, 0⟩)]⟩
def F62_l2_T {β : Type} (k : Nat) (a0 : List (den (.sl (.int .u8)))) (NX : Int → List (den (.int .u8)) → Option β) (RET : List (den (.int .u8)) → Option β) (x27_2 : Int) (m6900_2 : List (den (.int .u8))) : Option β := cond (decide (x27_2 < ((a0.length : Nat) : Int))) (cond (decide (0 ≤ x27_2)) (cond (decide (x27_2 < ((a0.length : Nat) : Int))) (cond (decide ((m6900_2.length + (atI a0 x27_2).length) * 1 ≤ 140737488355328)) (NX (IntKind.i64.wrap (x27_2 + 1)) (m6900_2 ++ (atI a0 x27_2))) none) none) none) (RET m6900_2)
def F62_l2 (k : Nat) (a0 : List (den (.sl (.int .u8)))) : Nat → Int → List (den (.int .u8)) → Option (List (den (.int .u8)))
  | 0, _, _ => none
  | n + 1, x27_2, m6900_2 => F62_l2_T k a0 (fun x27_2 m6900_2 => F62_l2 k a0 n x27_2 m6900_2) some x27_2 m6900_2
theorem F62_l2_rd {β : Type} (k n : Nat) (a0 : List (den (.sl (.int .u8)))) (x27_2 : Int) (m6900_2 : List (den (.int .u8))) (K : A × List (List Leaf) → Option β) :
    loopG (F62_E k) Try.f62 [1, 1, 1, 1, 0, 1, 0] 2 (kontAt (F62_E k) [1, 1, 1, 1, 0, 1, 0] (bodyOf Try.f62) 0 (endC (F62_E k) Try.f62 (F62_a a0) K)) (n + 1) (F62_s2 a0 x27_2 m6900_2) =
    F62_l2_T k a0 (fun x27_2 m6900_2 => loopG (F62_E k) Try.f62 [1, 1, 1, 1, 0, 1, 0] 2 (kontAt (F62_E k) [1, 1, 1, 1, 0, 1, 0] (bodyOf Try.f62) 0 (endC (F62_E k) Try.f62 (F62_a a0) K)) n (F62_s2 a0 x27_2 m6900_2)) (fun r => K (F62_r r)) x27_2 m6900_2 := by kernel_rfl
theorem F62_l2_lp {β : Type} (k : Nat) (a0 : List (den (.sl (.int .u8)))) (K : A × List (List Leaf) → Option β) (n : Nat) : ∀ (x27_2 : Int) (m6900_2 : List (den (.int .u8))), loopG (F62_E k) Try.f62 [1, 1, 1, 1, 0, 1, 0] 2 (kontAt (F62_E k) [1, 1, 1, 1, 0, 1, 0] (bodyOf Try.f62) 0 (endC (F62_E k) Try.f62 (F62_a a0) K)) n (F62_s2 a0 x27_2 m6900_2) =
    (F62_l2 k a0 n x27_2 m6900_2).bind fun r => K (F62_r r) := by
  induction n with
  | zero => intros; rfl
  | succ n ih =>
    intros
    rw [F62_l2_rd, F62_l2]
    simp only [F62_l2_T, bind_cond, Option.bind_assoc, Option.bind_some, Option.bind_none, Option.bind_fun_some, ih]
def F62_s0 (a0 : List (den (.sl (.int .u8)))) (x3_0 x11_0 : Int) : St := ⟨(.one (.s .ro (.sl (.int .u8)) a0)) :: (.one .d) :: (.one .d) :: (.one (.v (.int .i64 x3_0))) :: dz 5 ((.one (.s .ro (.sl (.int .u8)) a0)) :: (.one (.v (.int .i64 ((a0.length : Nat) : Int)))) :: (.one (.v (.int .i64 x11_0))) :: dz 24 []), []⟩
def F62_l0_T {β : Type} (k : Nat) (a0 : List (den (.sl (.int .u8)))) (NX : Int → Int → Option β) (LP2 : Int → List (den (.int .u8)) → Option β) (x3_0 x11_0 : Int) : Option β := cond (decide (x11_0 < ((a0.length : Nat) : Int))) (cond (decide (0 ≤ x11_0)) (cond (decide (x11_0 < ((a0.length : Nat) : Int))) (cond (decide ((IntKind.i64.wrap (x3_0 + (((atI a0 x11_0).length : Nat) : Int))) < 0)) none (NX (IntKind.i64.wrap (x3_0 + (((atI a0 x11_0).length : Nat) : Int))) (IntKind.i64.wrap (x11_0 + 1)))) none) none) ((F92 k x3_0).bind fun b1 => LP2 0 b1)
def F62_l0 (k : Nat) (a0 : List (den (.sl (.int .u8)))) : Nat → Int → Int → Option (List (den (.int .u8)))
  | 0, _, _ => none
  | n + 1, x3_0, x11_0 => F62_l0_T k a0 (fun x3_0 x11_0 => F62_l0 k a0 n x3_0 x11_0) (fun x27_2 m6900_2 => F62_l2 k a0 k x27_2 m6900_2) x3_0 x11_0
theorem F62_l0_rd {β : Type} (k n : Nat) (a0 : List (den (.sl (.int .u8)))) (x3_0 x11_0 : Int) (K : A × List (List Leaf) → Option β) :
    loopG (F62_E k) Try.f62 [1, 1, 0, 1, 0] 0 (kontAt (F62_E k) [1, 1, 0, 1, 0] (bodyOf Try.f62) 0 (endC (F62_E k) Try.f62 (F62_a a0) K)) (n + 1) (F62_s0 a0 x3_0 x11_0) =
    F62_l0_T k a0 (fun x3_0 x11_0 => loopG (F62_E k) Try.f62 [1, 1, 0, 1, 0] 0 (kontAt (F62_E k) [1, 1, 0, 1, 0] (bodyOf Try.f62) 0 (endC (F62_E k) Try.f62 (F62_a a0) K)) n (F62_s0 a0 x3_0 x11_0)) (fun x27_2 m6900_2 => loopG (F62_E k) Try.f62 [1, 1, 1, 1, 0, 1, 0] 2 (kontAt (F62_E k) [1, 1, 1, 1, 0, 1, 0] (bodyOf Try.f62) 0 (endC (F62_E k) Try.f62 (F62_a a0) K)) k (F62_s2 a0 x27_2 m6900_2)) x3_0 x11_0 := by kernel_rfl
theorem F62_l0_lp {β : Type} (k : Nat) (a0 : List (den (.sl (.int .u8)))) (K : A × List (List Leaf) → Option β) (n : Nat) : ∀ (x3_0 x11_0 : Int), loopG (F62_E k) Try.f62 [1, 1, 0, 1, 0] 0 (kontAt (F62_E k) [1, 1, 0, 1, 0] (bodyOf Try.f62) 0 (endC (F62_E k) Try.f62 (F62_a a0) K)) n (F62_s0 a0 x3_0 x11_0) =
    (F62_l0 k a0 n x3_0 x11_0).bind fun r => K (F62_r r) := by
  induction n with
  | zero => intros; rfl
  | succ n ih =>
    intros
    rw [F62_l0_rd, F62_l0]
    simp only [F62_l0_T, bind_cond, Option.bind_assoc, Option.bind_some, Option.bind_none, Option.bind_fun_some, F62_l2_lp, ih]
def F62_T {β : Type} (k : Nat) (a0 : List (den (.sl (.int .u8)))) (LP0 : Int → Int → Option β) : Option β := LP0 0 0
def F62 (k : Nat) (a0 : List (den (.sl (.int .u8)))) : Option (List (den (.int .u8))) := F62_T k a0 (fun x3_0 x11_0 => F62_l0 k a0 k x3_0 x11_0)
theorem F62_st {β : Type} (k : Nat) (a0 : List (den (.sl (.int .u8)))) (K : A × List (List Leaf) → Option β) : evalF (F62_E k) Try.f62 (F62_a a0) K =
    F62_T k a0 (fun x3_0 x11_0 => loopG (F62_E k) Try.f62 [1, 1, 0, 1, 0] 0 (kontAt (F62_E k) [1, 1, 0, 1, 0] (bodyOf Try.f62) 0 (endC (F62_E k) Try.f62 (F62_a a0) K)) k (F62_s0 a0 x3_0 x11_0)) := by kernel_rfl
theorem F62_ev {β : Type} (k : Nat) (a0 : List (den (.sl (.int .u8)))) (K : A × List (List Leaf) → Option β) : evalF (F62_E k) Try.f62 (F62_a a0) K = (F62 k a0).bind fun r => K (F62_r r) := by
  rw [F62_st, F62]
  simp only [F62_T, bind_cond, Option.bind_assoc, Option.bind_some, Option.bind_none, Option.bind_fun_some, F62_l0_lp]
theorem F62_tOk (k : Nat) : TabFn Try.prog (F62_t k) := .ent (F92_q k) F92_f (.none)
theorem F62_con (k : Nat) (a0 : List (den (.sl (.int .u8)))) : Contract Try.prog 62 (F62_a a0) ⟨F62 k a0, F62_r⟩ := con_of (envOk (F62_tOk k) _ _ _ _) mixed Try.func62 rfl rfl (F62_ev k a0 some)
def F62_sh : List AK := [.one (.l (.sl .ro (.sl (.int .u8))))]
def F62_p (k : Nat) : List Arg → Option CR := cle F62_sh fun x => ⟨F62 k x.1, F62_r⟩
theorem F62_q (k : Nat) : ∀ xs cr, F62_p k xs = some cr → Contract Try.prog 62 xs cr := cle_ok fun x => F62_con k _
theorem F62_f : FnOk Try.prog 62 := .of (by kernel_rfl)
def F102_h : Nat → Hint
  | 0 => ⟨[(1, .plain), (4, .own .own (.int .u8) []), (48, .plain), (49, .plain), (50, .plain)], [(1000, .plain), (1001, .plain), (1002, .plain), (1003, .plain), (1004, .plain), (1005, .plain), (1006, .plain), (1007, .plain), (1008, .plain), (1009, .plain), (1010, .plain)]⟩
  | _ => ⟨[], []⟩
def F102_t (k : Nat) : Tab := entT 59 (F59_p k) <| entT 91 (F91_p k) <| entT 62 (F62_p k) <| noTab
abbrev F102_E (k : Nat) : Env := env (F102_t k) F102_h .own [] k
abbrev F102_a (a0_0 a0_1 a0_2 a0_3 a0_4 : Int) (a0_5 a0_6 a0_7 a0_8 : Bool) (a0_9 : List (den rng)) (a0_10 : List (den (.int .u8))) : List Arg := [.agg [.l (.v (.int .i64 a0_0)), .l (.v (.int .i64 a0_1)), .l (.v (.int .i64 a0_2)), .l (.v (.int .i64 a0_3)), .l (.v (.int .i64 a0_4)), .l (.v (.bool a0_5)), .l (.v (.bool a0_6)), .l (.v (.bool a0_7)), .l (.v (.bool a0_8)), .l (.s .ro rng a0_9), .l (.s .ro (.int .u8) a0_10)]]
def F102_r (r : List (den (.int .u8))) : A × List (List Leaf) := (.one (.s .own (.int .u8) r), [])
def F102_s0 (a0_0 a0_1 a0_2 a0_3 a0_4 : Int) (a0_5 a0_6 a0_7 a0_8 : Bool) (a0_9 : List (den rng)) (a0_10 : List (den (.int .u8))) (x50_0 : Int) (m4900_0 : List (den (.int .u8))) : St := ⟨(.one .d) :: (.one (.ptr (.cell 1000) 11 0)) :: (.one .d) :: (.one .d) :: (.one (.a (.cell 4900) 0 0 none)) :: dz 43 ((.one (.s .ro rng a0_9)) :: (.one (.v (.int .i64 ((a0_9.length : Nat) : Int)))) :: (.one (.v (.int .i64 x50_0))) :: dz 23 []), [(1000, ⟨.v (.int .i64 a0_0), 0, 0⟩), (1001, ⟨.v (.int .i64 a0_1), 0, 0⟩), (1002, ⟨.v (.int .i64 a0_2), 0, 0⟩), (1003, ⟨.v (.int .i64 a0_3), 0, 0⟩), (1004, ⟨.v (.int .i64 a0_4), 0, 0⟩), (1005, ⟨.v (.bool a0_5), 0, 0⟩), (1006, ⟨.v (.bool a0_6), 0, 0⟩), (1007, ⟨.v (.bool a0_7), 0, 0⟩), (1008, ⟨.v (.bool a0_8), 0, 0⟩), (1009, ⟨.s .ro rng a0_9, 0, 0⟩), (1010, ⟨.s .ro (.int .u8) a0_10, 0, 0⟩), (4900, ⟨.s .own (.int .u8) m4900_0, 0, 0⟩)]⟩
def F102_l0_T {β : Type} (k : Nat) (a0_0 a0_1 a0_2 a0_3 a0_4 : Int) (a0_5 a0_6 a0_7 a0_8 : Bool) (a0_9 : List (den rng)) (a0_10 : List (den (.int .u8))) (NX : Int → List (den (.int .u8)) → Option β) (RET : List (den (.int .u8)) → Option β) (x50_0 : Int) (m4900_0 : List (den (.int .u8))) : Option β := cond (decide (x50_0 < ((a0_9.length : Nat) : Int))) (cond (decide (0 ≤ x50_0)) (cond (decide (x50_0 < ((a0_9.length : Nat) : Int))) ((F91 k ((atI a0_9 x50_0).1) 2).bind fun b8 => (F91 k ((atI a0_9 x50_0).2) 2).bind fun b9 => (F62 k [m4900_0, b8, b9]).bind fun b10 => NX (IntKind.i64.wrap (x50_0 + 1)) b10) none) none) ((F62 k [m4900_0, [IntKind.u8.wrap (((a0_10.length : Nat) : Int))], a0_10]).bind fun b11 => RET b11)
def F102_l0 (k : Nat) (a0_0 a0_1 a0_2 a0_3 a0_4 : Int) (a0_5 a0_6 a0_7 a0_8 : Bool) (a0_9 : List (den rng)) (a0_10 : List (den (.int .u8))) : Nat → Int → List (den (.int .u8)) → Option (List (den (.int .u8)))
  | 0, _, _ => none
  | n + 1, x50_0, m4900_0 => F102_l0_T k a0_0 a0_1 a0_2 a0_3 a0_4 a0_5 a0_6 a0_7 a0_8 a0_9 a0_10 (fun x50_0 m4900_0 => F102_l0 k a0_0 a0_1 a0_2 a0_3 a0_4 a0_5 a0_6 a0_7 a0_8 a0_9 a0_10 n x50_0 m4900_0) some x50_0 m4900_0
theorem F102_l0_rd {β : Type} (k n : Nat) (a0_0 a0_1 a0_2 a0_3 a0_4 : Int) (a0_5 a0_6 a0_7 a0_8 : Bool) (a0_9 : List (den rng)) (a0_10 : List (den (.int .u8))) (x50_0 : Int) (m4900_0 : List (den (.int .u8))) (K : A × List (List Leaf) → Option β) :
    loopG (F102_E k) Try.f102 [1, 1, 1, 0, 1, 0] 0 (kontAt (F102_E k) [1, 1, 1, 0, 1, 0] (bodyOf Try.f102) 0 (endC (F102_E k) Try.f102 (F102_a a0_0 a0_1 a0_2 a0_3 a0_4 a0_5 a0_6 a0_7 a0_8 a0_9 a0_10) K)) (n + 1) (F102_s0 a0_0 a0_1 a0_2 a0_3 a0_4 a0_5 a0_6 a0_7 a0_8 a0_9 a0_10 x50_0 m4900_0) =
    F102_l0_T k a0_0 a0_1 a0_2 a0_3 a0_4 a0_5 a0_6 a0_7 a0_8 a0_9 a0_10 (fun x50_0 m4900_0 => loopG (F102_E k) Try.f102 [1, 1, 1, 0, 1, 0] 0 (kontAt (F102_E k) [1, 1, 1, 0, 1, 0] (bodyOf Try.f102) 0 (endC (F102_E k) Try.f102 (F102_a a0_0 a0_1 a0_2 a0_3 a0_4 a0_5 a0_6 a0_7 a0_8 a0_9 a0_10) K)) n (F102_s0 a0_0 a0_1 a0_2 a0_3 a0_4 a0_5 a0_6 a0_7 a0_8 a0_9 a0_10 x50_0 m4900_0)) (fun r => K (F102_r r)) x50_0 m4900_0 := by kernel_rfl
theorem F102_l0_lp {β : Type} (k : Nat) (a0_0 a0_1 a0_2 a0_3 a0_4 : Int) (a0_5 a0_6 a0_7 a0_8 : Bool) (a0_9 : List (den rng)) (a0_10 : List (den (.int .u8))) (K : A × List (List Leaf) → Option β) (n : Nat) : ∀ (x50_0 : Int) (m4900_0 : List (den (.int .u8))), loopG (F102_E k) Try.f102 [1, 1, 1, 0, 1, 0] 0 (kontAt (F102_E k) [1, 1, 1, 0, 1, 0] (bodyOf Try.f102) 0 (endC (F102_E k) Try.f102 (F102_a a0_0 a0_1 a0_2 a0_3 a0_4 a0_5 a0_6 a0_7 a0_8 a0_9 a0_10) K)) n (F102_s0 a0_0 a0_1 a0_2 a0_3 a0_4 a0_5 a0_6 a0_7 a0_8 a0_9 a0_10 x50_0 m4900_0) =
    (F102_l0 k a0_0 a0_1 a0_2 a0_3 a0_4 a0_5 a0_6 a0_7 a0_8 a0_9 a0_10 n x50_0 m4900_0).bind fun r => K (F102_r r) := by
  induction n with
  | zero => intros; rfl
  | succ n ih =>
    intros
    rw [F102_l0_rd, F102_l0]
    simp only [F102_l0_T, bind_cond, Option.bind_assoc, Option.bind_some, Option.bind_none, Option.bind_fun_some, ih]
def F102_T {β : Type} (k : Nat) (a0_0 a0_1 a0_2 a0_3 a0_4 : Int) (a0_5 a0_6 a0_7 a0_8 : Bool) (a0_9 : List (den rng)) (a0_10 : List (den (.int .u8))) (LP0 : Int → List (den (.int .u8)) → Option β) : Option β := (F59 k a0_5 1).bind fun b1 => (F59 k a0_6 2).bind fun b2 => (F59 k a0_7 4).bind fun b3 => (F59 k a0_8 8).bind fun b4 => (F91 k a0_2 2).bind fun b5 => (F91 k a0_3 2).bind fun b6 => (F62 k [[IntKind.u8.wrap (a0_0), IntKind.u8.wrap (a0_1)], b5, b6, [IntKind.u8.wrap (a0_4), IntKind.u8.wrap (IntKind.i64.wrap ((IntKind.i64.wrap ((IntKind.i64.wrap (b1 + b2)) + b3)) + b4)), IntKind.u8.wrap (((a0_9.length : Nat) : Int))]]).bind fun b7 => LP0 0 b7
def F102 (k : Nat) (a0_0 a0_1 a0_2 a0_3 a0_4 : Int) (a0_5 a0_6 a0_7 a0_8 : Bool) (a0_9 : List (den rng)) (a0_10 : List (den (.int .u8))) : Option (List (den (.int .u8))) := F102_T k a0_0 a0_1 a0_2 a0_3 a0_4 a0_5 a0_6 a0_7 a0_8 a0_9 a0_10 (fun x50_0 m4900_0 => F102_l0 k a0_0 a0_1 a0_2 a0_3 a0_4 a0_5 a0_6 a0_7 a0_8 a0_9 a0_10 k x50_0 m4900_0)
theorem F102_st {β : Type} (k : Nat) (a0_0 a0_1 a0_2 a0_3 a0_4 : Int) (a0_5 a0_6 a0_7 a0_8 : Bool) (a0_9 : List (den rng)) (a0_10 : List (den (.int .u8))) (K : A × List (List Leaf) → Option β) : evalF (F102_E k) Try.f102 (F102_a a0_0 a0_1 a0_2 a0_3 a0_4 a0_5 a0_6 a0_7 a0_8 a0_9 a0_10) K =
    F102_T k a0_0 a0_1 a0_2 a0_3 a0_4 a0_5 a0_6 a0_7 a0_8 a0_9 a0_10 (fun x50_0 m4900_0 => loopG (F102_E k) Try.f102 [1, 1, 1, 0, 1, 0] 0 (kontAt (F102_E k) [1, 1, 1, 0, 1, 0] (bodyOf Try.f102) 0 (endC (F102_E k) Try.f102 (F102_a a0_0 a0_1 a0_2 a0_3 a0_4 a0_5 a0_6 a0_7 a0_8 a0_9 a0_10) K)) k (F102_s0 a0_0 a0_1 a0_2 a0_3 a0_4 a0_5 a0_6 a0_7 a0_8 a0_9 a0_10 x50_0 m4900_0)) := by kernel_rfl
theorem F102_ev {β : Type} (k : Nat) (a0_0 a0_1 a0_2 a0_3 a0_4 : Int) (a0_5 a0_6 a0_7 a0_8 : Bool) (a0_9 : List (den rng)) (a0_10 : List (den (.int .u8))) (K : A × List (List Leaf) → Option β) : evalF (F102_E k) Try.f102 (F102_a a0_0 a0_1 a0_2 a0_3 a0_4 a0_5 a0_6 a0_7 a0_8 a0_9 a0_10) K = (F102 k a0_0 a0_1 a0_2 a0_3 a0_4 a0_5 a0_6 a0_7 a0_8 a0_9 a0_10).bind fun r => K (F102_r r) := by
  rw [F102_st, F102]
  simp only [F102_T, bind_cond, Option.bind_assoc, Option.bind_some, Option.bind_none, Option.bind_fun_some, F102_l0_lp]
theorem F102_tOk (k : Nat) : TabFn Try.prog (F102_t k) := .ent (F59_q k) F59_f (.ent (F91_q k) F91_f (.ent (F62_q k) F62_f (.none)))
theorem F102_con (k : Nat) (a0_0 a0_1 a0_2 a0_3 a0_4 : Int) (a0_5 a0_6 a0_7 a0_8 : Bool) (a0_9 : List (den rng)) (a0_10 : List (den (.int .u8))) : Contract Try.prog 102 (F102_a a0_0 a0_1 a0_2 a0_3 a0_4 a0_5 a0_6 a0_7 a0_8 a0_9 a0_10) ⟨F102 k a0_0 a0_1 a0_2 a0_3 a0_4 a0_5 a0_6 a0_7 a0_8 a0_9 a0_10, F102_r⟩ := con_of (envOk (F102_tOk k) _ _ _ _) mixed Try.func102 rfl rfl (F102_ev k a0_0 a0_1 a0_2 a0_3 a0_4 a0_5 a0_6 a0_7 a0_8 a0_9 a0_10 some)
def F102_sh : List AK := [.agg [.l (.int .i64), .l (.int .i64), .l (.int .i64), .l (.int .i64), .l (.int .i64), .l (.bool), .l (.bool), .l (.bool), .l (.bool), .l (.sl .ro rng), .l (.sl .ro (.int .u8))]]
def F102_p (k : Nat) : List Arg → Option CR := cle F102_sh fun x => ⟨F102 k x.1.1 x.1.2.1 x.1.2.2.1 x.1.2.2.2.1 x.1.2.2.2.2.1 x.1.2.2.2.2.2.1 x.1.2.2.2.2.2.2.1 x.1.2.2.2.2.2.2.2.1 x.1.2.2.2.2.2.2.2.2.1 x.1.2.2.2.2.2.2.2.2.2.1 x.1.2.2.2.2.2.2.2.2.2.2.1, F102_r⟩
theorem F102_q (k : Nat) : ∀ xs cr, F102_p k xs = some cr → Contract Try.prog 102 xs cr := cle_ok fun x => F102_con k _ _ _ _ _ _ _ _ _ _ _
theorem F102_f : FnOk Try.prog 102 := .of (by kernel_rfl)
def F104_t (k : Nat) : Tab := entT 91 (F91_p k) <| entT 62 (F62_p k) <| noTab
abbrev F104_E (k : Nat) : Env := env (F104_t k) noHint .own [] k
abbrev F104_a (a0 a1 : Int) : List Arg := [.one (.l (.v (.int .i64 a0))), .one (.l (.v (.int .i64 a1)))]
def F104_r (r : List (den (.int .u8))) : A × List (List Leaf) := (.one (.s .own (.int .u8) r), [])
def F104 (k : Nat) (a0 a1 : Int) : Option (List (den (.int .u8))) := (F91 k a0 2).bind fun b1 => (F91 k a1 2).bind fun b2 => (F62 k [b1, b2]).bind fun b3 => some b3
theorem F104_st {β : Type} (k : Nat) (a0 a1 : Int) (K : A × List (List Leaf) → Option β) : evalF (F104_E k) Try.f104 (F104_a a0 a1) K =
    (F91 k a0 2).bind fun b1 => (F91 k a1 2).bind fun b2 => (F62 k [b1, b2]).bind fun b3 => K (.one (.s .own (.int .u8) b3), []) := by kernel_rfl
theorem F104_ev {β : Type} (k : Nat) (a0 a1 : Int) (K : A × List (List Leaf) → Option β) : evalF (F104_E k) Try.f104 (F104_a a0 a1) K = (F104 k a0 a1).bind fun r => K (F104_r r) := by
  rw [F104_st, F104]
  simp only [F104_r, bind_cond, Option.bind_assoc, Option.bind_some, Option.bind_none, Option.bind_fun_some]
theorem F104_tOk (k : Nat) : TabFn Try.prog (F104_t k) := .ent (F91_q k) F91_f (.ent (F62_q k) F62_f (.none))
theorem F104_con (k : Nat) (a0 a1 : Int) : Contract Try.prog 104 (F104_a a0 a1) ⟨F104 k a0 a1, F104_r⟩ := con_of (envOk (F104_tOk k) _ _ _ _) mixed Try.func104 rfl rfl (F104_ev k a0 a1 some)
def F104_sh : List AK := [.one (.l (.int .i64)), .one (.l (.int .i64))]
def F104_p (k : Nat) : List Arg → Option CR := cle F104_sh fun x => ⟨F104 k x.1 x.2.1, F104_r⟩
theorem F104_q (k : Nat) : ∀ xs cr, F104_p k xs = some cr → Contract Try.prog 104 xs cr := cle_ok fun x => F104_con k _ _
theorem F104_f : FnOk Try.prog 104 := .of (by kernel_rfl)
def F117_h : Nat → Hint
  | 0 => ⟨[(3, .plain), (6, .plain), (7, .plain), (8, .plain)], []⟩
  | _ => ⟨[], []⟩
abbrev F117_E (k : Nat) : Env := env noTab F117_h .own [] k
abbrev F117_a (a0 : List (den (.int .i64))) : List Arg := [.one (.l (.s .ro (.int .i64) a0))]
def F117_r (r : Int) : A × List (List Leaf) := (.one (.v (.int .i64 r)), [])
def F117_s0 (a0 : List (den (.int .i64))) (x3_0 x8_0 : Int) : St := ⟨dz 3 ((.one (.v (.int .i64 x3_0))) :: (.one .d) :: (.one .d) :: (.one (.s .ro (.int .i64) a0)) :: (.one (.v (.int .i64 ((a0.length : Nat) : Int)))) :: (.one (.v (.int .i64 x8_0))) :: dz 12 []), []⟩
def F117_l0_T {β : Type} (k : Nat) (a0 : List (den (.int .i64))) (NX : Int → Int → Option β) (RET : Int → Option β) (x3_0 x8_0 : Int) : Option β := cond (decide (x8_0 < ((a0.length : Nat) : Int))) (cond (decide (0 ≤ x8_0)) (cond (decide (x8_0 < ((a0.length : Nat) : Int))) (cond (decide ((IntKind.i64.wrap (x3_0 + (atI a0 x8_0))) > 65535)) (NX (IntKind.i64.wrap ((IntKind.i64.wrap (x3_0 + (atI a0 x8_0))) - 65535)) (IntKind.i64.wrap (x8_0 + 1))) (NX (IntKind.i64.wrap (x3_0 + (atI a0 x8_0))) (IntKind.i64.wrap (x8_0 + 1)))) none) none) (RET x3_0)
def F117_l0 (k : Nat) (a0 : List (den (.int .i64))) : Nat → Int → Int → Option (Int)
  | 0, _, _ => none
  | n + 1, x3_0, x8_0 => F117_l0_T k a0 (fun x3_0 x8_0 => F117_l0 k a0 n x3_0 x8_0) some x3_0 x8_0
theorem F117_l0_rd {β : Type} (k n : Nat) (a0 : List (den (.int .i64))) (x3_0 x8_0 : Int) (K : A × List (List Leaf) → Option β) :
    loopG (F117_E k) Try.f117 [1, 1, 0, 1, 0] 0 (kontAt (F117_E k) [1, 1, 0, 1, 0] (bodyOf Try.f117) 0 (endC (F117_E k) Try.f117 (F117_a a0) K)) (n + 1) (F117_s0 a0 x3_0 x8_0) =
    F117_l0_T k a0 (fun x3_0 x8_0 => loopG (F117_E k) Try.f117 [1, 1, 0, 1, 0] 0 (kontAt (F117_E k) [1, 1, 0, 1, 0] (bodyOf Try.f117) 0 (endC (F117_E k) Try.f117 (F117_a a0) K)) n (F117_s0 a0 x3_0 x8_0)) (fun r => K (F117_r r)) x3_0 x8_0 := by kernel_rfl
theorem F117_l0_lp {β : Type} (k : Nat) (a0 : List (den (.int .i64))) (K : A × List (List Leaf) → Option β) (n : Nat) : ∀ (x3_0 x8_0 : Int), loopG (F117_E k) Try.f117 [1, 1, 0, 1, 0] 0 (kontAt (F117_E k) [1, 1, 0, 1, 0] (bodyOf Try.f117) 0 (endC (F117_E k) Try.f117 (F117_a a0) K)) n (F117_s0 a0 x3_0 x8_0) =
    (F117_l0 k a0 n x3_0 x8_0).bind fun r => K (F117_r r) := by
  induction n with
  | zero => intros; rfl
  | succ n ih =>
    intros
    rw [F117_l0_rd, F117_l0]
    simp only [F117_l0_T, bind_cond, Option.bind_assoc, Option.bind_some, Option.bind_none, Option.bind_fun_some, ih]
def F117_T {β : Type} (k : Nat) (a0 : List (den (.int .i64))) (LP0 : Int → Int → Option β) : Option β := LP0 0 0
def F117 (k : Nat) (a0 : List (den (.int .i64))) : Option (Int) := F117_T k a0 (fun x3_0 x8_0 => F117_l0 k a0 k x3_0 x8_0)
theorem F117_st {β : Type} (k : Nat) (a0 : List (den (.int .i64))) (K : A × List (List Leaf) → Option β) : evalF (F117_E k) Try.f117 (F117_a a0) K =
    F117_T k a0 (fun x3_0 x8_0 => loopG (F117_E k) Try.f117 [1, 1, 0, 1, 0] 0 (kontAt (F117_E k) [1, 1, 0, 1, 0] (bodyOf Try.f117) 0 (endC (F117_E k) Try.f117 (F117_a a0) K)) k (F117_s0 a0 x3_0 x8_0)) := by kernel_rfl
theorem F117_ev {β : Type} (k : Nat) (a0 : List (den (.int .i64))) (K : A × List (List Leaf) → Option β) : evalF (F117_E k) Try.f117 (F117_a a0) K = (F117 k a0).bind fun r => K (F117_r r) := by
  rw [F117_st, F117]
  simp only [F117_T, bind_cond, Option.bind_assoc, Option.bind_some, Option.bind_none, Option.bind_fun_some, F117_l0_lp]
theorem F117_con (k : Nat) (a0 : List (den (.int .i64))) : Contract Try.prog 117 (F117_a a0) ⟨F117 k a0, F117_r⟩ := con_of (envOk .none _ _ _ _) mixed Try.func117 rfl rfl (F117_ev k a0 some)
def F117_sh : List AK := [.one (.l (.sl .ro (.int .i64)))]
def F117_p (k : Nat) : List Arg → Option CR := cle F117_sh fun x => ⟨F117 k x.1, F117_r⟩
theorem F117_q (k : Nat) : ∀ xs cr, F117_p k xs = some cr → Contract Try.prog 117 xs cr := cle_ok fun x => F117_con k _
theorem F117_f : FnOk Try.prog 117 := .of (by kernel_rfl)
def F103_h : Nat → Hint
  | 0 => ⟨[(3, .plain)], [(3000, .plain)]⟩
  | _ => ⟨[], []⟩
def F103_t (k : Nat) : Tab := entT 117 (F117_p k) <| noTab
abbrev F103_E (k : Nat) : Env := env (F103_t k) F103_h .own [] k
abbrev F103_a (a0 : List (den (.int .u8))) : List Arg := [.one (.l (.s .ro (.int .u8) a0))]
def F103_r (r : Int) : A × List (List Leaf) := (.one (.v (.int .i64 r)), [])
def F103_s0 (a0 : List (den (.int .u8))) (m3000_0 : Int) : St := ⟨dz 3 ((.one (.ptr (.cell 3000) 1 0)) :: dz 25 []), [(3000, ⟨.v (.int .i64 m3000_0), 0, 0⟩)]⟩
def F103_l0 (k : Nat) (a0 : List (den (.int .u8))) : List (List (den (.int .u8))) → Int → Option (Int)
  | [], m3000_0 => some (IntKind.i64.wrap (65535 - m3000_0))
  | z0_0 :: r, m3000_0 => cond (decide (0 < ((z0_0.length : Nat) : Int))) (cond (decide (((z0_0.length : Nat) : Int) > 1)) (cond (decide (1 < ((z0_0.length : Nat) : Int))) ((F117 k [m3000_0, bitsOf .or .i64 (IntKind.i64.wrap ((IntKind.i64.wrap (atI z0_0 0)) * 2 ^ (8))) (IntKind.i64.wrap (atI z0_0 1))]).bind fun b1 => F103_l0 k a0 r b1) none) ((F117 k [m3000_0, IntKind.i64.wrap ((IntKind.i64.wrap (atI z0_0 0)) * 2 ^ (8))]).bind fun b2 => F103_l0 k a0 r b2)) none
theorem F103_l0_r0 {β : Type} (k : Nat) (a0 : List (den (.int .u8))) (m3000_0 : Int) (K : A × List (List Leaf) → Option β) :
    rangeG (F103_E k) Try.f103 [1, 1, 0, 1, 0] 0 8 (kontAt (F103_E k) [1, 1, 0, 1, 0] (bodyOf Try.f103) 0 (endC (F103_E k) Try.f103 (F103_a a0) K)) ([] : List (List (den (.int .u8)))) (F103_s0 a0 m3000_0) =
    K (.one (.v (.int .i64 (IntKind.i64.wrap (65535 - m3000_0)))), []) := by kernel_rfl
theorem F103_l0_rd {β : Type} (k : Nat) (a0 : List (den (.int .u8))) (z0_0 : List (den (.int .u8))) (r : List (List (den (.int .u8)))) (m3000_0 : Int) (K : A × List (List Leaf) → Option β) :
    rangeG (F103_E k) Try.f103 [1, 1, 0, 1, 0] 0 8 (kontAt (F103_E k) [1, 1, 0, 1, 0] (bodyOf Try.f103) 0 (endC (F103_E k) Try.f103 (F103_a a0) K)) (z0_0 :: r) (F103_s0 a0 m3000_0) =
    cond (decide (0 < ((z0_0.length : Nat) : Int))) (cond (decide (((z0_0.length : Nat) : Int) > 1)) (cond (decide (1 < ((z0_0.length : Nat) : Int))) ((F117 k [m3000_0, bitsOf .or .i64 (IntKind.i64.wrap ((IntKind.i64.wrap (atI z0_0 0)) * 2 ^ (8))) (IntKind.i64.wrap (atI z0_0 1))]).bind fun b1 => rangeG (F103_E k) Try.f103 [1, 1, 0, 1, 0] 0 8 (kontAt (F103_E k) [1, 1, 0, 1, 0] (bodyOf Try.f103) 0 (endC (F103_E k) Try.f103 (F103_a a0) K)) r (F103_s0 a0 b1)) none) ((F117 k [m3000_0, IntKind.i64.wrap ((IntKind.i64.wrap (atI z0_0 0)) * 2 ^ (8))]).bind fun b2 => rangeG (F103_E k) Try.f103 [1, 1, 0, 1, 0] 0 8 (kontAt (F103_E k) [1, 1, 0, 1, 0] (bodyOf Try.f103) 0 (endC (F103_E k) Try.f103 (F103_a a0) K)) r (F103_s0 a0 b2))) none := by kernel_rfl
theorem F103_l0_lp {β : Type} (k : Nat) (a0 : List (den (.int .u8))) (K : A × List (List Leaf) → Option β) (l : List (List (den (.int .u8)))) : ∀ (m3000_0 : Int), rangeG (F103_E k) Try.f103 [1, 1, 0, 1, 0] 0 8 (kontAt (F103_E k) [1, 1, 0, 1, 0] (bodyOf Try.f103) 0 (endC (F103_E k) Try.f103 (F103_a a0) K)) l (F103_s0 a0 m3000_0) =
    (F103_l0 k a0 l m3000_0).bind fun r => K (F103_r r) := by
  induction l with
  | nil => intros; rw [F103_l0_r0, F103_l0]; simp only [F103_r, bind_cond, Option.bind_assoc, Option.bind_some, Option.bind_none, Option.bind_fun_some]
  | cons z r ih =>
    intros
    rw [F103_l0_rd, F103_l0]
    simp only [F103_r, bind_cond, Option.bind_assoc, Option.bind_some, Option.bind_none, Option.bind_fun_some, ih]
def F103 (k : Nat) (a0 : List (den (.int .u8))) : Option (Int) := cond (decide (1 ≤ 2) && decide (2 ≤ 9223372036854775807) && decide (a0.length ≤ 140737488355328)) (F103_l0 k a0 (pieces ((2 : Int).toNat) a0) 0) none
theorem F103_st {β : Type} (k : Nat) (a0 : List (den (.int .u8))) (K : A × List (List Leaf) → Option β) : evalF (F103_E k) Try.f103 (F103_a a0) K =
    cond (decide (1 ≤ 2) && decide (2 ≤ 9223372036854775807) && decide (a0.length ≤ 140737488355328)) (rangeG (F103_E k) Try.f103 [1, 1, 0, 1, 0] 0 8 (kontAt (F103_E k) [1, 1, 0, 1, 0] (bodyOf Try.f103) 0 (endC (F103_E k) Try.f103 (F103_a a0) K)) (pieces ((2 : Int).toNat) a0) (F103_s0 a0 0)) none := by kernel_rfl
theorem F103_ev {β : Type} (k : Nat) (a0 : List (den (.int .u8))) (K : A × List (List Leaf) → Option β) : evalF (F103_E k) Try.f103 (F103_a a0) K = (F103 k a0).bind fun r => K (F103_r r) := by
  rw [F103_st, F103]
  simp only [F103_r, bind_cond, Option.bind_assoc, Option.bind_some, Option.bind_none, Option.bind_fun_some, F103_l0_lp]
theorem F103_tOk (k : Nat) : TabFn Try.prog (F103_t k) := .ent (F117_q k) F117_f (.none)
theorem F103_con (k : Nat) (a0 : List (den (.int .u8))) : Contract Try.prog 103 (F103_a a0) ⟨F103 k a0, F103_r⟩ := con_of (envOk (F103_tOk k) _ _ _ _) mixed Try.func103 rfl rfl (F103_ev k a0 some)
def F103_sh : List AK := [.one (.l (.sl .ro (.int .u8)))]
def F103_p (k : Nat) : List Arg → Option CR := cle F103_sh fun x => ⟨F103 k x.1, F103_r⟩
theorem F103_q (k : Nat) : ∀ xs cr, F103_p k xs = some cr → Contract Try.prog 103 xs cr := cle_ok fun x => F103_con k _
theorem F103_f : FnOk Try.prog 103 := .of (by kernel_rfl)
def F74_t (k : Nat) : Tab := entT 14 (F14_p k) <| entT 55 (F55_p k) <| entT 102 (F102_p k) <| entT 104 (F104_p k) <| entT 62 (F62_p k) <| entT 103 (F103_p k) <| entT 91 (F91_p k) <| noTab
abbrev F74_E (k : Nat) : Env := { env (F74_t k) noHint .own [] k with frz := [28, 32] }
abbrev F74_a (a0_0 a0_1 a0_2 a0_3 a0_4 : Int) (a0_5 a0_6 a0_7 a0_8 : Bool) (a0_9 : List (den rng)) (a0_10 : List (den (.int .u8))) (a1 a2 : Int) : List Arg := [.agg [.l (.v (.int .i64 a0_0)), .l (.v (.int .i64 a0_1)), .l (.v (.int .i64 a0_2)), .l (.v (.int .i64 a0_3)), .l (.v (.int .i64 a0_4)), .l (.v (.bool a0_5)), .l (.v (.bool a0_6)), .l (.v (.bool a0_7)), .l (.v (.bool a0_8)), .l (.s .ro rng a0_9), .l (.s .ro (.int .u8) a0_10)], .one (.l (.v (.int .i64 a1))), .one (.l (.v (.int .i64 a2)))]
def F74_r (r : List (den (.int .u8))) : A × List (List Leaf) := (.one (.s .own (.int .u8) r), [])
def F74_T {β : Type} (k : Nat) (a0_0 a0_1 a0_2 a0_3 a0_4 : Int) (a0_5 a0_6 a0_7 a0_8 : Bool) (a0_9 : List (den rng)) (a0_10 : List (den (.int .u8))) (a1 a2 : Int) (RET : List (den (.int .u8)) → Option β) : Option β := (F14 k a0_0 a0_1 a0_2 a0_3 a0_4 a0_5 a0_6 a0_7 a0_8 a0_9 a0_10).bind fun b1 => cond (!b1) (RET []) ((F55 k a1).bind fun b2 => cond (!b2) (RET []) ((F55 k a2).bind fun b3 => cond (!b3) (RET []) ((F102 k a0_0 a0_1 a0_2 a0_3 a0_4 a0_5 a0_6 a0_7 a0_8 a0_9 a0_10).bind fun b4 => (F104 k a1 a2).bind fun b5 => (F62 k [b5, b4]).bind fun b6 => (F103 k b6).bind fun b7 => (F91 k b7 2).bind fun b8 => (F62 k [b4, b8]).bind fun b9 => RET b9)))
def F74 (k : Nat) (a0_0 a0_1 a0_2 a0_3 a0_4 : Int) (a0_5 a0_6 a0_7 a0_8 : Bool) (a0_9 : List (den rng)) (a0_10 : List (den (.int .u8))) (a1 a2 : Int) : Option (List (den (.int .u8))) := F74_T k a0_0 a0_1 a0_2 a0_3 a0_4 a0_5 a0_6 a0_7 a0_8 a0_9 a0_10 a1 a2 some
theorem F74_st {β : Type} (k : Nat) (a0_0 a0_1 a0_2 a0_3 a0_4 : Int) (a0_5 a0_6 a0_7 a0_8 : Bool) (a0_9 : List (den rng)) (a0_10 : List (den (.int .u8))) (a1 a2 : Int) (K : A × List (List Leaf) → Option β) : evalF (F74_E k) Try.f74 (F74_a a0_0 a0_1 a0_2 a0_3 a0_4 a0_5 a0_6 a0_7 a0_8 a0_9 a0_10 a1 a2) K =
    F74_T k a0_0 a0_1 a0_2 a0_3 a0_4 a0_5 a0_6 a0_7 a0_8 a0_9 a0_10 a1 a2 (fun r => K (F74_r r)) := by kernel_rfl
theorem F74_ev {β : Type} (k : Nat) (a0_0 a0_1 a0_2 a0_3 a0_4 : Int) (a0_5 a0_6 a0_7 a0_8 : Bool) (a0_9 : List (den rng)) (a0_10 : List (den (.int .u8))) (a1 a2 : Int) (K : A × List (List Leaf) → Option β) : evalF (F74_E k) Try.f74 (F74_a a0_0 a0_1 a0_2 a0_3 a0_4 a0_5 a0_6 a0_7 a0_8 a0_9 a0_10 a1 a2) K = (F74 k a0_0 a0_1 a0_2 a0_3 a0_4 a0_5 a0_6 a0_7 a0_8 a0_9 a0_10 a1 a2).bind fun r => K (F74_r r) := by
  rw [F74_st, F74]
  simp only [F74_T, bind_cond, Option.bind_assoc, Option.bind_some, Option.bind_none, Option.bind_fun_some]
theorem F74_tOk (k : Nat) : TabFn Try.prog (F74_t k) := .ent (F14_q k) F14_f (.ent (F55_q k) F55_f (.ent (F102_q k) F102_f (.ent (F104_q k) F104_f (.ent (F62_q k) F62_f (.ent (F103_q k) F103_f (.ent (F91_q k) F91_f (.none)))))))
theorem F74_con (k : Nat) (a0_0 a0_1 a0_2 a0_3 a0_4 : Int) (a0_5 a0_6 a0_7 a0_8 : Bool) (a0_9 : List (den rng)) (a0_10 : List (den (.int .u8))) (a1 a2 : Int) : Contract Try.prog 74 (F74_a a0_0 a0_1 a0_2 a0_3 a0_4 a0_5 a0_6 a0_7 a0_8 a0_9 a0_10 a1 a2) ⟨F74 k a0_0 a0_1 a0_2 a0_3 a0_4 a0_5 a0_6 a0_7 a0_8 a0_9 a0_10 a1 a2, F74_r⟩ := con_of (envOkF [28, 32] (F74_tOk k) _ _ _ _) mixed Try.func74 rfl rfl (F74_ev k a0_0 a0_1 a0_2 a0_3 a0_4 a0_5 a0_6 a0_7 a0_8 a0_9 a0_10 a1 a2 some)
def F74_sh : List AK := [.agg [.l (.int .i64), .l (.int .i64), .l (.int .i64), .l (.int .i64), .l (.int .i64), .l (.bool), .l (.bool), .l (.bool), .l (.bool), .l (.sl .ro rng), .l (.sl .ro (.int .u8))], .one (.l (.int .i64)), .one (.l (.int .i64))]
def F74_p (k : Nat) : List Arg → Option CR := cle F74_sh fun x => ⟨F74 k x.1.1 x.1.2.1 x.1.2.2.1 x.1.2.2.2.1 x.1.2.2.2.2.1 x.1.2.2.2.2.2.1 x.1.2.2.2.2.2.2.1 x.1.2.2.2.2.2.2.2.1 x.1.2.2.2.2.2.2.2.2.1 x.1.2.2.2.2.2.2.2.2.2.1 x.1.2.2.2.2.2.2.2.2.2.2.1 x.2.1 x.2.2.1, F74_r⟩
theorem F74_q (k : Nat) : ∀ xs cr, F74_p k xs = some cr → Contract Try.prog 74 xs cr := cle_ok fun x => F74_con k _ _ _ _ _ _ _ _ _ _ _ _ _
theorem F74_f : FnOk Try.prog 74 := .of (by kernel_rfl)
def F105_t (k : Nat) : Tab := entT 55 (F55_p k) <| entT 45 (F45_p k) <| noTab
abbrev F105_E (k : Nat) : Env := env (F105_t k) noHint .own [] k
abbrev F105_a (a0_0 a0_1 a0_2 a0_3 a0_4 a0_5 : Int) (a0_6 a0_7 : Bool) (a0_8 : List (den (.int .u8))) : List Arg := [.agg [.l (.v (.int .i64 a0_0)), .l (.v (.int .i64 a0_1)), .l (.v (.int .i64 a0_2)), .l (.v (.int .i64 a0_3)), .l (.v (.int .i64 a0_4)), .l (.v (.int .i64 a0_5)), .l (.v (.bool a0_6)), .l (.v (.bool a0_7)), .l (.s .ro (.int .u8) a0_8)]]
def F105_r (r : Bool) : A × List (List Leaf) := (.one (.v (.bool r)), [])
def F105_T {β : Type} (k : Nat) (a0_0 a0_1 a0_2 a0_3 a0_4 a0_5 : Int) (a0_6 a0_7 : Bool) (a0_8 : List (den (.int .u8))) (RET : Bool → Option β) : Option β := (F55 k a0_0).bind fun b1 => cond b1 ((F55 k a0_1).bind fun b2 => cond b2 ((F45 k a0_2 0 255).bind fun b3 => cond b3 ((F45 k a0_3 0 255).bind fun b4 => cond b4 ((F45 k a0_4 0 255).bind fun b5 => cond b5 ((F45 k a0_5 0 255).bind fun b6 => cond b6 (cond (decide (((a0_8.length : Nat) : Int) ≤ 48)) (cond (!a0_6) (cond (!a0_7) (RET true) (cond (a0_5 == 0) (RET (!a0_6)) (RET false))) (cond (decide (((a0_8.length : Nat) : Int) > 0)) (cond (!a0_7) (RET true) (cond (a0_5 == 0) (RET (!a0_6)) (RET false))) (RET false))) (RET false)) (RET false)) (RET false)) (RET false)) (RET false)) (RET false)) (RET false)
def F105 (k : Nat) (a0_0 a0_1 a0_2 a0_3 a0_4 a0_5 : Int) (a0_6 a0_7 : Bool) (a0_8 : List (den (.int .u8))) : Option (Bool) := F105_T k a0_0 a0_1 a0_2 a0_3 a0_4 a0_5 a0_6 a0_7 a0_8 some
theorem F105_st {β : Type} (k : Nat) (a0_0 a0_1 a0_2 a0_3 a0_4 a0_5 : Int) (a0_6 a0_7 : Bool) (a0_8 : List (den (.int .u8))) (K : A × List (List Leaf) → Option β) : evalF (F105_E k) Try.f105 (F105_a a0_0 a0_1 a0_2 a0_3 a0_4 a0_5 a0_6 a0_7 a0_8) K =
    F105_T k a0_0 a0_1 a0_2 a0_3 a0_4 a0_5 a0_6 a0_7 a0_8 (fun r => K (F105_r r)) := by kernel_rfl
theorem F105_ev {β : Type} (k : Nat) (a0_0 a0_1 a0_2 a0_3 a0_4 a0_5 : Int) (a0_6 a0_7 : Bool) (a0_8 : List (den (.int .u8))) (K : A × List (List Leaf) → Option β) : evalF (F105_E k) Try.f105 (F105_a a0_0 a0_1 a0_2 a0_3 a0_4 a0_5 a0_6 a0_7 a0_8) K = (F105 k a0_0 a0_1 a0_2 a0_3 a0_4 a0_5 a0_6 a0_7 a0_8).bind fun r => K (F105_r r) := by
  rw [F105_st, F105]
  simp only [F105_T, bind_cond, Option.bind_assoc, Option.bind_some, Option.bind_none, Option.bind_fun_some]
theorem F105_tOk (k : Nat) : TabFn Try.prog (F105_t k) := .ent (F55_q k) F55_f (.ent (F45_q k) F45_f (.none))
theorem F105_con (k : Nat) (a0_0 a0_1 a0_2 a0_3 a0_4 a0_5 : Int) (a0_6 a0_7 : Bool) (a0_8 : List (den (.int .u8))) : Contract Try.prog 105 (F105_a a0_0 a0_1 a0_2 a0_3 a0_4 a0_5 a0_6 a0_7 a0_8) ⟨F105 k a0_0 a0_1 a0_2 a0_3 a0_4 a0_5 a0_6 a0_7 a0_8, F105_r⟩ := con_of (envOk (F105_tOk k) _ _ _ _) mixed Try.func105 rfl rfl (F105_ev k a0_0 a0_1 a0_2 a0_3 a0_4 a0_5 a0_6 a0_7 a0_8 some)
def F105_sh : List AK := [.agg [.l (.int .i64), .l (.int .i64), .l (.int .i64), .l (.int .i64), .l (.int .i64), .l (.int .i64), .l (.bool), .l (.bool), .l (.sl .ro (.int .u8))]]
def F105_p (k : Nat) : List Arg → Option CR := cle F105_sh fun x => ⟨F105 k x.1.1 x.1.2.1 x.1.2.2.1 x.1.2.2.2.1 x.1.2.2.2.2.1 x.1.2.2.2.2.2.1 x.1.2.2.2.2.2.2.1 x.1.2.2.2.2.2.2.2.1 x.1.2.2.2.2.2.2.2.2.1, F105_r⟩
theorem F105_q (k : Nat) : ∀ xs cr, F105_p k xs = some cr → Contract Try.prog 105 xs cr := cle_ok fun x => F105_con k _ _ _ _ _ _ _ _ _
theorem F105_f : FnOk Try.prog 105 := .of (by kernel_rfl)
def F106_t (k : Nat) : Tab := entT 91 (F91_p k) <| entT 59 (F59_p k) <| entT 62 (F62_p k) <| entT 103 (F103_p k) <| noTab
abbrev F106_E (k : Nat) : Env := env (F106_t k) noHint .own [] k
abbrev F106_a (a0_0 a0_1 a0_2 a0_3 a0_4 a0_5 : Int) (a0_6 a0_7 : Bool) (a0_8 : List (den (.int .u8))) : List Arg := [.agg [.l (.v (.int .i64 a0_0)), .l (.v (.int .i64 a0_1)), .l (.v (.int .i64 a0_2)), .l (.v (.int .i64 a0_3)), .l (.v (.int .i64 a0_4)), .l (.v (.int .i64 a0_5)), .l (.v (.bool a0_6)), .l (.v (.bool a0_7)), .l (.s .ro (.int .u8) a0_8)]]
def F106_r (r : List (den (.int .u8))) : A × List (List Leaf) := (.one (.s .own (.int .u8) r), [])
def F106_T {β : Type} (k : Nat) (a0_0 a0_1 a0_2 a0_3 a0_4 a0_5 : Int) (a0_6 a0_7 : Bool) (a0_8 : List (den (.int .u8))) (RET : List (den (.int .u8)) → Option β) : Option β := (F91 k a0_0 2).bind fun b1 => (F91 k a0_1 2).bind fun b2 => (F59 k a0_6 1).bind fun b3 => (F59 k a0_7 2).bind fun b4 => (F62 k [b1, b2, [IntKind.u8.wrap (a0_2), IntKind.u8.wrap (a0_3), IntKind.u8.wrap (a0_4), IntKind.u8.wrap (a0_5), IntKind.u8.wrap (IntKind.i64.wrap (b3 + b4)), IntKind.u8.wrap (((a0_8.length : Nat) : Int))]]).bind fun b5 => (F103 k b5).bind fun b6 => (F91 k b6 2).bind fun b7 => (F62 k [b5, b7, a0_8]).bind fun b8 => RET b8
def F106 (k : Nat) (a0_0 a0_1 a0_2 a0_3 a0_4 a0_5 : Int) (a0_6 a0_7 : Bool) (a0_8 : List (den (.int .u8))) : Option (List (den (.int .u8))) := F106_T k a0_0 a0_1 a0_2 a0_3 a0_4 a0_5 a0_6 a0_7 a0_8 some
theorem F106_st {β : Type} (k : Nat) (a0_0 a0_1 a0_2 a0_3 a0_4 a0_5 : Int) (a0_6 a0_7 : Bool) (a0_8 : List (den (.int .u8))) (K : A × List (List Leaf) → Option β) : evalF (F106_E k) Try.f106 (F106_a a0_0 a0_1 a0_2 a0_3 a0_4 a0_5 a0_6 a0_7 a0_8) K =
    F106_T k a0_0 a0_1 a0_2 a0_3 a0_4 a0_5 a0_6 a0_7 a0_8 (fun r => K (F106_r r)) := by kernel_rfl
theorem F106_ev {β : Type} (k : Nat) (a0_0 a0_1 a0_2 a0_3 a0_4 a0_5 : Int) (a0_6 a0_7 : Bool) (a0_8 : List (den (.int .u8))) (K : A × List (List Leaf) → Option β) : evalF (F106_E k) Try.f106 (F106_a a0_0 a0_1 a0_2 a0_3 a0_4 a0_5 a0_6 a0_7 a0_8) K = (F106 k a0_0 a0_1 a0_2 a0_3 a0_4 a0_5 a0_6 a0_7 a0_8).bind fun r => K (F106_r r) := by
  rw [F106_st, F106]
  simp only [F106_T, bind_cond, Option.bind_assoc, Option.bind_some, Option.bind_none, Option.bind_fun_some]
theorem F106_tOk (k : Nat) : TabFn Try.prog (F106_t k) := .ent (F91_q k) F91_f (.ent (F59_q k) F59_f (.ent (F62_q k) F62_f (.ent (F103_q k) F103_f (.none))))
theorem F106_con (k : Nat) (a0_0 a0_1 a0_2 a0_3 a0_4 a0_5 : Int) (a0_6 a0_7 : Bool) (a0_8 : List (den (.int .u8))) : Contract Try.prog 106 (F106_a a0_0 a0_1 a0_2 a0_3 a0_4 a0_5 a0_6 a0_7 a0_8) ⟨F106 k a0_0 a0_1 a0_2 a0_3 a0_4 a0_5 a0_6 a0_7 a0_8, F106_r⟩ := con_of (envOk (F106_tOk k) _ _ _ _) mixed Try.func106 rfl rfl (F106_ev k a0_0 a0_1 a0_2 a0_3 a0_4 a0_5 a0_6 a0_7 a0_8 some)
def F106_sh : List AK := [.agg [.l (.int .i64), .l (.int .i64), .l (.int .i64), .l (.int .i64), .l (.int .i64), .l (.int .i64), .l (.bool), .l (.bool), .l (.sl .ro (.int .u8))]]
def F106_p (k : Nat) : List Arg → Option CR := cle F106_sh fun x => ⟨F106 k x.1.1 x.1.2.1 x.1.2.2.1 x.1.2.2.2.1 x.1.2.2.2.2.1 x.1.2.2.2.2.2.1 x.1.2.2.2.2.2.2.1 x.1.2.2.2.2.2.2.2.1 x.1.2.2.2.2.2.2.2.2.1, F106_r⟩
theorem F106_q (k : Nat) : ∀ xs cr, F106_p k xs = some cr → Contract Try.prog 106 xs cr := cle_ok fun x => F106_con k _ _ _ _ _ _ _ _ _
theorem F106_f : FnOk Try.prog 106 := .of (by kernel_rfl)
def F75_t (k : Nat) : Tab := entT 105 (F105_p k) <| entT 106 (F106_p k) <| noTab
abbrev F75_E (k : Nat) : Env := env (F75_t k) noHint .own [] k
abbrev F75_a (a0_0 a0_1 a0_2 a0_3 a0_4 a0_5 : Int) (a0_6 a0_7 : Bool) (a0_8 : List (den (.int .u8))) : List Arg := [.agg [.l (.v (.int .i64 a0_0)), .l (.v (.int .i64 a0_1)), .l (.v (.int .i64 a0_2)), .l (.v (.int .i64 a0_3)), .l (.v (.int .i64 a0_4)), .l (.v (.int .i64 a0_5)), .l (.v (.bool a0_6)), .l (.v (.bool a0_7)), .l (.s .ro (.int .u8) a0_8)]]
def F75_r (r : List (den (.int .u8))) : A × List (List Leaf) := (.one (.s .own (.int .u8) r), [])
def F75_T {β : Type} (k : Nat) (a0_0 a0_1 a0_2 a0_3 a0_4 a0_5 : Int) (a0_6 a0_7 : Bool) (a0_8 : List (den (.int .u8))) (RET : List (den (.int .u8)) → Option β) : Option β := (F105 k a0_0 a0_1 a0_2 a0_3 a0_4 a0_5 a0_6 a0_7 a0_8).bind fun b1 => cond (!b1) (RET []) ((F106 k a0_0 a0_1 a0_2 a0_3 a0_4 a0_5 a0_6 a0_7 a0_8).bind fun b2 => RET b2)
def F75 (k : Nat) (a0_0 a0_1 a0_2 a0_3 a0_4 a0_5 : Int) (a0_6 a0_7 : Bool) (a0_8 : List (den (.int .u8))) : Option (List (den (.int .u8))) := F75_T k a0_0 a0_1 a0_2 a0_3 a0_4 a0_5 a0_6 a0_7 a0_8 some
theorem F75_st {β : Type} (k : Nat) (a0_0 a0_1 a0_2 a0_3 a0_4 a0_5 : Int) (a0_6 a0_7 : Bool) (a0_8 : List (den (.int .u8))) (K : A × List (List Leaf) → Option β) : evalF (F75_E k) Try.f75 (F75_a a0_0 a0_1 a0_2 a0_3 a0_4 a0_5 a0_6 a0_7 a0_8) K =
    F75_T k a0_0 a0_1 a0_2 a0_3 a0_4 a0_5 a0_6 a0_7 a0_8 (fun r => K (F75_r r)) := by kernel_rfl
theorem F75_ev {β : Type} (k : Nat) (a0_0 a0_1 a0_2 a0_3 a0_4 a0_5 : Int) (a0_6 a0_7 : Bool) (a0_8 : List (den (.int .u8))) (K : A × List (List Leaf) → Option β) : evalF (F75_E k) Try.f75 (F75_a a0_0 a0_1 a0_2 a0_3 a0_4 a0_5 a0_6 a0_7 a0_8) K = (F75 k a0_0 a0_1 a0_2 a0_3 a0_4 a0_5 a0_6 a0_7 a0_8).bind fun r => K (F75_r r) := by
  rw [F75_st, F75]
  simp only [F75_T, bind_cond, Option.bind_assoc, Option.bind_some, Option.bind_none, Option.bind_fun_some]
theorem F75_tOk (k : Nat) : TabFn Try.prog (F75_t k) := .ent (F105_q k) F105_f (.ent (F106_q k) F106_f (.none))
theorem F75_con (k : Nat) (a0_0 a0_1 a0_2 a0_3 a0_4 a0_5 : Int) (a0_6 a0_7 : Bool) (a0_8 : List (den (.int .u8))) : Contract Try.prog 75 (F75_a a0_0 a0_1 a0_2 a0_3 a0_4 a0_5 a0_6 a0_7 a0_8) ⟨F75 k a0_0 a0_1 a0_2 a0_3 a0_4 a0_5 a0_6 a0_7 a0_8, F75_r⟩ := con_of (envOk (F75_tOk k) _ _ _ _) mixed Try.func75 rfl rfl (F75_ev k a0_0 a0_1 a0_2 a0_3 a0_4 a0_5 a0_6 a0_7 a0_8 some)
def F75_sh : List AK := [.agg [.l (.int .i64), .l (.int .i64), .l (.int .i64), .l (.int .i64), .l (.int .i64), .l (.int .i64), .l (.bool), .l (.bool), .l (.sl .ro (.int .u8))]]
def F75_p (k : Nat) : List Arg → Option CR := cle F75_sh fun x => ⟨F75 k x.1.1 x.1.2.1 x.1.2.2.1 x.1.2.2.2.1 x.1.2.2.2.2.1 x.1.2.2.2.2.2.1 x.1.2.2.2.2.2.2.1 x.1.2.2.2.2.2.2.2.1 x.1.2.2.2.2.2.2.2.2.1, F75_r⟩
theorem F75_q (k : Nat) : ∀ xs cr, F75_p k xs = some cr → Contract Try.prog 75 xs cr := cle_ok fun x => F75_con k _ _ _ _ _ _ _ _ _
theorem F75_f : FnOk Try.prog 75 := .of (by kernel_rfl)
def F107_t (k : Nat) : Tab := entT 45 (F45_p k) <| noTab
abbrev F107_E (k : Nat) : Env := env (F107_t k) noHint .own [] k
abbrev F107_a (a0_0 a0_1 a0_2 : Int) (a0_3 : List (den (.int .u8))) : List Arg := [.agg [.l (.v (.int .i64 a0_0)), .l (.v (.int .i64 a0_1)), .l (.v (.int .i64 a0_2)), .l (.s .ro (.int .u8) a0_3)]]
def F107_r (r : Bool) : A × List (List Leaf) := (.one (.v (.bool r)), [])
def F107_T {β : Type} (k : Nat) (a0_0 a0_1 a0_2 : Int) (a0_3 : List (den (.int .u8))) (RET : Bool → Option β) : Option β := (F45 k a0_0 0 255).bind fun b1 => cond b1 ((F45 k a0_1 0 254).bind fun b2 => cond b2 ((F45 k a0_2 0 255).bind fun b3 => cond b3 (RET (decide (((a0_3.length : Nat) : Int) ≤ 64))) (RET false)) (RET false)) (RET false)
def F107 (k : Nat) (a0_0 a0_1 a0_2 : Int) (a0_3 : List (den (.int .u8))) : Option (Bool) := F107_T k a0_0 a0_1 a0_2 a0_3 some
theorem F107_st {β : Type} (k : Nat) (a0_0 a0_1 a0_2 : Int) (a0_3 : List (den (.int .u8))) (K : A × List (List Leaf) → Option β) : evalF (F107_E k) Try.f107 (F107_a a0_0 a0_1 a0_2 a0_3) K =
    F107_T k a0_0 a0_1 a0_2 a0_3 (fun r => K (F107_r r)) := by kernel_rfl
theorem F107_ev {β : Type} (k : Nat) (a0_0 a0_1 a0_2 : Int) (a0_3 : List (den (.int .u8))) (K : A × List (List Leaf) → Option β) : evalF (F107_E k) Try.f107 (F107_a a0_0 a0_1 a0_2 a0_3) K = (F107 k a0_0 a0_1 a0_2 a0_3).bind fun r => K (F107_r r) := by
  rw [F107_st, F107]
  simp only [F107_T, bind_cond, Option.bind_assoc, Option.bind_some, Option.bind_none, Option.bind_fun_some]
theorem F107_tOk (k : Nat) : TabFn Try.prog (F107_t k) := .ent (F45_q k) F45_f (.none)
theorem F107_con (k : Nat) (a0_0 a0_1 a0_2 : Int) (a0_3 : List (den (.int .u8))) : Contract Try.prog 107 (F107_a a0_0 a0_1 a0_2 a0_3) ⟨F107 k a0_0 a0_1 a0_2 a0_3, F107_r⟩ := con_of (envOk (F107_tOk k) _ _ _ _) mixed Try.func107 rfl rfl (F107_ev k a0_0 a0_1 a0_2 a0_3 some)
def F107_sh : List AK := [.agg [.l (.int .i64), .l (.int .i64), .l (.int .i64), .l (.sl .ro (.int .u8))]]
def F107_p (k : Nat) : List Arg → Option CR := cle F107_sh fun x => ⟨F107 k x.1.1 x.1.2.1 x.1.2.2.1 x.1.2.2.2.1, F107_r⟩
theorem F107_q (k : Nat) : ∀ xs cr, F107_p k xs = some cr → Contract Try.prog 107 xs cr := cle_ok fun x => F107_con k _ _ _ _
theorem F107_f : FnOk Try.prog 107 := .of (by kernel_rfl)
def F76_t (k : Nat) : Tab := entT 107 (F107_p k) <| entT 103 (F103_p k) <| entT 91 (F91_p k) <| entT 62 (F62_p k) <| noTab
abbrev F76_E (k : Nat) : Env := env (F76_t k) noHint .own [] k
abbrev F76_a (a0_0 a0_1 a0_2 : Int) (a0_3 : List (den (.int .u8))) : List Arg := [.agg [.l (.v (.int .i64 a0_0)), .l (.v (.int .i64 a0_1)), .l (.v (.int .i64 a0_2)), .l (.s .ro (.int .u8) a0_3)]]
def F76_r (r : List (den (.int .u8))) : A × List (List Leaf) := (.one (.s .own (.int .u8) r), [])
def F76_T {β : Type} (k : Nat) (a0_0 a0_1 a0_2 : Int) (a0_3 : List (den (.int .u8))) (RET : List (den (.int .u8)) → Option β) : Option β := (F107 k a0_0 a0_1 a0_2 a0_3).bind fun b1 => cond (!b1) (RET []) (cond (decide (([IntKind.u8.wrap (a0_0), IntKind.u8.wrap (a0_1), IntKind.u8.wrap (a0_2), IntKind.u8.wrap (((a0_3.length : Nat) : Int))].length + a0_3.length) * 1 ≤ 140737488355328)) ((F103 k ([IntKind.u8.wrap (a0_0), IntKind.u8.wrap (a0_1), IntKind.u8.wrap (a0_2), IntKind.u8.wrap (((a0_3.length : Nat) : Int))] ++ a0_3)).bind fun b2 => (F91 k b2 2).bind fun b3 => (F62 k [[IntKind.u8.wrap (a0_0), IntKind.u8.wrap (a0_1), IntKind.u8.wrap (a0_2), IntKind.u8.wrap (((a0_3.length : Nat) : Int))] ++ a0_3, b3]).bind fun b4 => RET b4) none)
def F76 (k : Nat) (a0_0 a0_1 a0_2 : Int) (a0_3 : List (den (.int .u8))) : Option (List (den (.int .u8))) := F76_T k a0_0 a0_1 a0_2 a0_3 some
theorem F76_st {β : Type} (k : Nat) (a0_0 a0_1 a0_2 : Int) (a0_3 : List (den (.int .u8))) (K : A × List (List Leaf) → Option β) : evalF (F76_E k) Try.f76 (F76_a a0_0 a0_1 a0_2 a0_3) K =
    F76_T k a0_0 a0_1 a0_2 a0_3 (fun r => K (F76_r r)) := by kernel_rfl
theorem F76_ev {β : Type} (k : Nat) (a0_0 a0_1 a0_2 : Int) (a0_3 : List (den (.int .u8))) (K : A × List (List Leaf) → Option β) : evalF (F76_E k) Try.f76 (F76_a a0_0 a0_1 a0_2 a0_3) K = (F76 k a0_0 a0_1 a0_2 a0_3).bind fun r => K (F76_r r) := by
  rw [F76_st, F76]
  simp only [F76_T, bind_cond, Option.bind_assoc, Option.bind_some, Option.bind_none, Option.bind_fun_some]
theorem F76_tOk (k : Nat) : TabFn Try.prog (F76_t k) := .ent (F107_q k) F107_f (.ent (F103_q k) F103_f (.ent (F91_q k) F91_f (.ent (F62_q k) F62_f (.none))))
theorem F76_con (k : Nat) (a0_0 a0_1 a0_2 : Int) (a0_3 : List (den (.int .u8))) : Contract Try.prog 76 (F76_a a0_0 a0_1 a0_2 a0_3) ⟨F76 k a0_0 a0_1 a0_2 a0_3, F76_r⟩ := con_of (envOk (F76_tOk k) _ _ _ _) mixed Try.func76 rfl rfl (F76_ev k a0_0 a0_1 a0_2 a0_3 some)
def F76_sh : List AK := [.agg [.l (.int .i64), .l (.int .i64), .l (.int .i64), .l (.sl .ro (.int .u8))]]
def F76_p (k : Nat) : List Arg → Option CR := cle F76_sh fun x => ⟨F76 k x.1.1 x.1.2.1 x.1.2.2.1 x.1.2.2.2.1, F76_r⟩
theorem F76_q (k : Nat) : ∀ xs cr, F76_p k xs = some cr → Contract Try.prog 76 xs cr := cle_ok fun x => F76_con k _ _ _ _
theorem F76_f : FnOk Try.prog 76 := .of (by kernel_rfl)
def F30_t (k : Nat) : Tab := entT 74 (F74_p k) <| entT 75 (F75_p k) <| entT 76 (F76_p k) <| noTab
abbrev F30_E (k : Nat) : Env := env (F30_t k) noHint .own [] k
abbrev F30_a (a0_0 a0_1 a0_2 a0_3 a0_4 : Int) (a0_5 a0_6 a0_7 a0_8 : Bool) (a0_9 : List (den rng)) (a0_10 : List (den (.int .u8))) (a1 a2 a3 a4 : Int) : List Arg := [.agg [.l (.v (.int .i64 a0_0)), .l (.v (.int .i64 a0_1)), .l (.v (.int .i64 a0_2)), .l (.v (.int .i64 a0_3)), .l (.v (.int .i64 a0_4)), .l (.v (.bool a0_5)), .l (.v (.bool a0_6)), .l (.v (.bool a0_7)), .l (.v (.bool a0_8)), .l (.s .ro rng a0_9), .l (.s .ro (.int .u8) a0_10)], .one (.l (.v (.int .i64 a1))), .one (.l (.v (.int .i64 a2))), .one (.l (.v (.int .i64 a3))), .one (.l (.v (.int .i64 a4)))]
def F30_r (r : List (den (.int .u8))) : A × List (List Leaf) := (.one (.s .own (.int .u8) r), [])
def F30_T {β : Type} (k : Nat) (a0_0 a0_1 a0_2 a0_3 a0_4 : Int) (a0_5 a0_6 a0_7 a0_8 : Bool) (a0_9 : List (den rng)) (a0_10 : List (den (.int .u8))) (a1 a2 a3 a4 : Int) (RET : List (den (.int .u8)) → Option β) : Option β := (F74 k a0_0 a0_1 a0_2 a0_3 a0_4 a0_5 a0_6 a0_7 a0_8 a0_9 a0_10 a1 a2).bind fun b1 => cond (((b1.length : Nat) : Int) == 0) (RET []) ((F75 k a1 a2 6 64 0 0 false false b1).bind fun b2 => (F76 k a4 a3 8 b2).bind fun b3 => RET b3)
def F30 (k : Nat) (a0_0 a0_1 a0_2 a0_3 a0_4 : Int) (a0_5 a0_6 a0_7 a0_8 : Bool) (a0_9 : List (den rng)) (a0_10 : List (den (.int .u8))) (a1 a2 a3 a4 : Int) : Option (List (den (.int .u8))) := F30_T k a0_0 a0_1 a0_2 a0_3 a0_4 a0_5 a0_6 a0_7 a0_8 a0_9 a0_10 a1 a2 a3 a4 some
theorem F30_st {β : Type} (k : Nat) (a0_0 a0_1 a0_2 a0_3 a0_4 : Int) (a0_5 a0_6 a0_7 a0_8 : Bool) (a0_9 : List (den rng)) (a0_10 : List (den (.int .u8))) (a1 a2 a3 a4 : Int) (K : A × List (List Leaf) → Option β) : evalF (F30_E k) Try.f30 (F30_a a0_0 a0_1 a0_2 a0_3 a0_4 a0_5 a0_6 a0_7 a0_8 a0_9 a0_10 a1 a2 a3 a4) K =
    F30_T k a0_0 a0_1 a0_2 a0_3 a0_4 a0_5 a0_6 a0_7 a0_8 a0_9 a0_10 a1 a2 a3 a4 (fun r => K (F30_r r)) := by kernel_rfl
theorem F30_ev {β : Type} (k : Nat) (a0_0 a0_1 a0_2 a0_3 a0_4 : Int) (a0_5 a0_6 a0_7 a0_8 : Bool) (a0_9 : List (den rng)) (a0_10 : List (den (.int .u8))) (a1 a2 a3 a4 : Int) (K : A × List (List Leaf) → Option β) : evalF (F30_E k) Try.f30 (F30_a a0_0 a0_1 a0_2 a0_3 a0_4 a0_5 a0_6 a0_7 a0_8 a0_9 a0_10 a1 a2 a3 a4) K = (F30 k a0_0 a0_1 a0_2 a0_3 a0_4 a0_5 a0_6 a0_7 a0_8 a0_9 a0_10 a1 a2 a3 a4).bind fun r => K (F30_r r) := by
  rw [F30_st, F30]
  simp only [F30_T, bind_cond, Option.bind_assoc, Option.bind_some, Option.bind_none, Option.bind_fun_some]
theorem F30_tOk (k : Nat) : TabFn Try.prog (F30_t k) := .ent (F74_q k) F74_f (.ent (F75_q k) F75_f (.ent (F76_q k) F76_f (.none)))
theorem F30_con (k : Nat) (a0_0 a0_1 a0_2 a0_3 a0_4 : Int) (a0_5 a0_6 a0_7 a0_8 : Bool) (a0_9 : List (den rng)) (a0_10 : List (den (.int .u8))) (a1 a2 a3 a4 : Int) : Contract Try.prog 30 (F30_a a0_0 a0_1 a0_2 a0_3 a0_4 a0_5 a0_6 a0_7 a0_8 a0_9 a0_10 a1 a2 a3 a4) ⟨F30 k a0_0 a0_1 a0_2 a0_3 a0_4 a0_5 a0_6 a0_7 a0_8 a0_9 a0_10 a1 a2 a3 a4, F30_r⟩ := con_of (envOk (F30_tOk k) _ _ _ _) mixed Try.func30 rfl rfl (F30_ev k a0_0 a0_1 a0_2 a0_3 a0_4 a0_5 a0_6 a0_7 a0_8 a0_9 a0_10 a1 a2 a3 a4 some)
def F30_sh : List AK := [.agg [.l (.int .i64), .l (.int .i64), .l (.int .i64), .l (.int .i64), .l (.int .i64), .l (.bool), .l (.bool), .l (.bool), .l (.bool), .l (.sl .ro rng), .l (.sl .ro (.int .u8))], .one (.l (.int .i64)), .one (.l (.int .i64)), .one (.l (.int .i64)), .one (.l (.int .i64))]
def F30_p (k : Nat) : List Arg → Option CR := cle F30_sh fun x => ⟨F30 k x.1.1 x.1.2.1 x.1.2.2.1 x.1.2.2.2.1 x.1.2.2.2.2.1 x.1.2.2.2.2.2.1 x.1.2.2.2.2.2.2.1 x.1.2.2.2.2.2.2.2.1 x.1.2.2.2.2.2.2.2.2.1 x.1.2.2.2.2.2.2.2.2.2.1 x.1.2.2.2.2.2.2.2.2.2.2.1 x.2.1 x.2.2.1 x.2.2.2.1 x.2.2.2.2.1, F30_r⟩
theorem F30_q (k : Nat) : ∀ xs cr, F30_p k xs = some cr → Contract Try.prog 30 xs cr := cle_ok fun x => F30_con k _ _ _ _ _ _ _ _ _ _ _ _ _ _ _
theorem F30_f : FnOk Try.prog 30 := .of (by kernel_rfl)
def F31_h : Nat → Hint
  | 0 => ⟨[(0, .plain), (1, .plain), (5, .plain)], []⟩
  | _ => ⟨[], []⟩
abbrev F31_E (k : Nat) : Env := env noTab F31_h .own [] k
abbrev F31_a (a0 a1 : List (den (.int .u8))) : List Arg := [.one (.l (.s .ro (.int .u8) a0)), .one (.l (.s .ro (.int .u8) a1))]
def F31_r (r : Bool) : A × List (List Leaf) := (.one (.v (.bool r)), [])
def F31_s0 (a0 a1 : List (den (.int .u8))) (x5_0 : Int) : St := ⟨(.one (.s .ro (.int .u8) a0)) :: (.one (.s .ro (.int .u8) a1)) :: dz 3 ((.one (.v (.int .i64 x5_0))) :: dz 20 []), []⟩
def F31_l0_T {β : Type} (k : Nat) (a0 a1 : List (den (.int .u8))) (NX : Int → Option β) (RET : Bool → Option β) (x5_0 : Int) : Option β := cond (decide (x5_0 < ((a0.length : Nat) : Int))) (cond (decide (0 ≤ x5_0)) (cond (decide (x5_0 < ((a0.length : Nat) : Int))) (cond (decide (0 ≤ x5_0)) (cond (decide (x5_0 < ((a1.length : Nat) : Int))) (cond ((atI a0 x5_0) != (atI a1 x5_0)) (RET false) (NX (IntKind.i64.wrap (x5_0 + 1)))) none) none) none) none) (RET true)
def F31_l0 (k : Nat) (a0 a1 : List (den (.int .u8))) : Nat → Int → Option (Bool)
  | 0, _ => none
  | n + 1, x5_0 => F31_l0_T k a0 a1 (fun x5_0 => F31_l0 k a0 a1 n x5_0) some x5_0
theorem F31_l0_rd {β : Type} (k n : Nat) (a0 a1 : List (den (.int .u8))) (x5_0 : Int) (K : A × List (List Leaf) → Option β) :
    loopG (F31_E k) Try.f31 [1, 1, 0, 1, 0] 0 (kontAt (F31_E k) [1, 1, 0, 1, 0] (bodyOf Try.f31) 0 (endC (F31_E k) Try.f31 (F31_a a0 a1) K)) (n + 1) (F31_s0 a0 a1 x5_0) =
    F31_l0_T k a0 a1 (fun x5_0 => loopG (F31_E k) Try.f31 [1, 1, 0, 1, 0] 0 (kontAt (F31_E k) [1, 1, 0, 1, 0] (bodyOf Try.f31) 0 (endC (F31_E k) Try.f31 (F31_a a0 a1) K)) n (F31_s0 a0 a1 x5_0)) (fun r => K (F31_r r)) x5_0 := by kernel_rfl
theorem F31_l0_lp {β : Type} (k : Nat) (a0 a1 : List (den (.int .u8))) (K : A × List (List Leaf) → Option β) (n : Nat) : ∀ (x5_0 : Int), loopG (F31_E k) Try.f31 [1, 1, 0, 1, 0] 0 (kontAt (F31_E k) [1, 1, 0, 1, 0] (bodyOf Try.f31) 0 (endC (F31_E k) Try.f31 (F31_a a0 a1) K)) n (F31_s0 a0 a1 x5_0) =
    (F31_l0 k a0 a1 n x5_0).bind fun r => K (F31_r r) := by
  induction n with
  | zero => intros; rfl
  | succ n ih =>
    intros
    rw [F31_l0_rd, F31_l0]
    simp only [F31_l0_T, bind_cond, Option.bind_assoc, Option.bind_some, Option.bind_none, Option.bind_fun_some, ih]
def F31_T {β : Type} (k : Nat) (a0 a1 : List (den (.int .u8))) (LP0 : Int → Option β) (RET : Bool → Option β) : Option β := cond (((a0.length : Nat) : Int) != ((a1.length : Nat) : Int)) (RET false) (LP0 0)
def F31 (k : Nat) (a0 a1 : List (den (.int .u8))) : Option (Bool) := F31_T k a0 a1 (fun x5_0 => F31_l0 k a0 a1 k x5_0) some
theorem F31_st {β : Type} (k : Nat) (a0 a1 : List (den (.int .u8))) (K : A × List (List Leaf) → Option β) : evalF (F31_E k) Try.f31 (F31_a a0 a1) K =
    F31_T k a0 a1 (fun x5_0 => loopG (F31_E k) Try.f31 [1, 1, 0, 1, 0] 0 (kontAt (F31_E k) [1, 1, 0, 1, 0] (bodyOf Try.f31) 0 (endC (F31_E k) Try.f31 (F31_a a0 a1) K)) k (F31_s0 a0 a1 x5_0)) (fun r => K (F31_r r)) := by kernel_rfl
theorem F31_ev {β : Type} (k : Nat) (a0 a1 : List (den (.int .u8))) (K : A × List (List Leaf) → Option β) : evalF (F31_E k) Try.f31 (F31_a a0 a1) K = (F31 k a0 a1).bind fun r => K (F31_r r) := by
  rw [F31_st, F31]
  simp only [F31_T, bind_cond, Option.bind_assoc, Option.bind_some, Option.bind_none, Option.bind_fun_some, F31_l0_lp]
theorem F31_con (k : Nat) (a0 a1 : List (den (.int .u8))) : Contract Try.prog 31 (F31_a a0 a1) ⟨F31 k a0 a1, F31_r⟩ := con_of (envOk .none _ _ _ _) mixed Try.func31 rfl rfl (F31_ev k a0 a1 some)
def F31_sh : List AK := [.one (.l (.sl .ro (.int .u8))), .one (.l (.sl .ro (.int .u8)))]
def F31_p (k : Nat) : List Arg → Option CR := cle F31_sh fun x => ⟨F31 k x.1 x.2.1, F31_r⟩
theorem F31_q (k : Nat) : ∀ xs cr, F31_p k xs = some cr → Contract Try.prog 31 xs cr := cle_ok fun x => F31_con k _ _
theorem F31_f : FnOk Try.prog 31 := .of (by kernel_rfl)
abbrev F94_E (k : Nat) : Env := env noTab noHint .own [] k
abbrev F94_a (a0_0 a0_1 a1_0 a1_1 : Int) : List Arg := [.agg [.l (.v (.int .i64 a0_0)), .l (.v (.int .i64 a0_1))], .agg [.l (.v (.int .i64 a1_0)), .l (.v (.int .i64 a1_1))]]
def F94_r (r : Bool) : A × List (List Leaf) := (.one (.v (.bool r)), [])
def F94 (k : Nat) (a0_0 a0_1 a1_0 a1_1 : Int) : Option (Bool) := cond (a0_0 != a1_0) (some false) (cond (a0_1 != a1_1) (some false) (some true))
theorem F94_st {β : Type} (k : Nat) (a0_0 a0_1 a1_0 a1_1 : Int) (K : A × List (List Leaf) → Option β) : evalF (F94_E k) Try.f94 (F94_a a0_0 a0_1 a1_0 a1_1) K =
    cond (a0_0 != a1_0) (K (.one (.v (.bool false)), [])) (cond (a0_1 != a1_1) (K (.one (.v (.bool false)), [])) (K (.one (.v (.bool true)), []))) := by kernel_rfl
theorem F94_ev {β : Type} (k : Nat) (a0_0 a0_1 a1_0 a1_1 : Int) (K : A × List (List Leaf) → Option β) : evalF (F94_E k) Try.f94 (F94_a a0_0 a0_1 a1_0 a1_1) K = (F94 k a0_0 a0_1 a1_0 a1_1).bind fun r => K (F94_r r) := by
  rw [F94_st, F94]
  simp only [F94_r, bind_cond, Option.bind_assoc, Option.bind_some, Option.bind_none, Option.bind_fun_some]
theorem F94_con (k : Nat) (a0_0 a0_1 a1_0 a1_1 : Int) : Contract Try.prog 94 (F94_a a0_0 a0_1 a1_0 a1_1) ⟨F94 k a0_0 a0_1 a1_0 a1_1, F94_r⟩ := con_of (envOk .none _ _ _ _) mixed Try.func94 rfl rfl (F94_ev k a0_0 a0_1 a1_0 a1_1 some)
def F94_sh : List AK := [.agg [.l (.int .i64), .l (.int .i64)], .agg [.l (.int .i64), .l (.int .i64)]]
def F94_p (k : Nat) : List Arg → Option CR := cle F94_sh fun x => ⟨F94 k x.1.1 x.1.2.1 x.2.1.1 x.2.1.2.1, F94_r⟩
theorem F94_q (k : Nat) : ∀ xs cr, F94_p k xs = some cr → Contract Try.prog 94 xs cr := cle_ok fun x => F94_con k _ _ _ _
theorem F94_f : FnOk Try.prog 94 := .of (by kernel_rfl)
def F68_h : Nat → Hint
  | 0 => ⟨[(0, .plain), (1, .plain), (5, .plain)], []⟩
  | _ => ⟨[], []⟩
def F68_t (k : Nat) : Tab := entT 94 (F94_p k) <| noTab
abbrev F68_E (k : Nat) : Env := env (F68_t k) F68_h .own [] k
abbrev F68_a (a0 a1 : List (den rng)) : List Arg := [.one (.l (.s .ro rng a0)), .one (.l (.s .ro rng a1))]
def F68_r (r : Bool) : A × List (List Leaf) := (.one (.v (.bool r)), [])
def F68_s0 (a0 a1 : List (den rng)) (x5_0 : Int) : St := ⟨(.one (.s .ro rng a0)) :: (.one (.s .ro rng a1)) :: dz 3 ((.one (.v (.int .i64 x5_0))) :: dz 21 []), []⟩
def F68_l0_T {β : Type} (k : Nat) (a0 a1 : List (den rng)) (NX : Int → Option β) (RET : Bool → Option β) (x5_0 : Int) : Option β := cond (decide (x5_0 < ((a0.length : Nat) : Int))) (cond (decide (0 ≤ x5_0)) (cond (decide (x5_0 < ((a0.length : Nat) : Int))) (cond (decide (0 ≤ x5_0)) (cond (decide (x5_0 < ((a1.length : Nat) : Int))) ((F94 k ((atI a0 x5_0).1) ((atI a0 x5_0).2) ((atI a1 x5_0).1) ((atI a1 x5_0).2)).bind fun b1 => cond (!b1) (RET false) (NX (IntKind.i64.wrap (x5_0 + 1)))) none) none) none) none) (RET true)
def F68_l0 (k : Nat) (a0 a1 : List (den rng)) : Nat → Int → Option (Bool)
  | 0, _ => none
  | n + 1, x5_0 => F68_l0_T k a0 a1 (fun x5_0 => F68_l0 k a0 a1 n x5_0) some x5_0
theorem F68_l0_rd {β : Type} (k n : Nat) (a0 a1 : List (den rng)) (x5_0 : Int) (K : A × List (List Leaf) → Option β) :
    loopG (F68_E k) Try.f68 [1, 1, 0, 1, 0] 0 (kontAt (F68_E k) [1, 1, 0, 1, 0] (bodyOf Try.f68) 0 (endC (F68_E k) Try.f68 (F68_a a0 a1) K)) (n + 1) (F68_s0 a0 a1 x5_0) =
    F68_l0_T k a0 a1 (fun x5_0 => loopG (F68_E k) Try.f68 [1, 1, 0, 1, 0] 0 (kontAt (F68_E k) [1, 1, 0, 1, 0] (bodyOf Try.f68) 0 (endC (F68_E k) Try.f68 (F68_a a0 a1) K)) n (F68_s0 a0 a1 x5_0)) (fun r => K (F68_r r)) x5_0 := by kernel_rfl
theorem F68_l0_lp {β : Type} (k : Nat) (a0 a1 : List (den rng)) (K : A × List (List Leaf) → Option β) (n : Nat) : ∀ (x5_0 : Int), loopG (F68_E k) Try.f68 [1, 1, 0, 1, 0] 0 (kontAt (F68_E k) [1, 1, 0, 1, 0] (bodyOf Try.f68) 0 (endC (F68_E k) Try.f68 (F68_a a0 a1) K)) n (F68_s0 a0 a1 x5_0) =
    (F68_l0 k a0 a1 n x5_0).bind fun r => K (F68_r r) := by
  induction n with
  | zero => intros; rfl
  | succ n ih =>
    intros
    rw [F68_l0_rd, F68_l0]
    simp only [F68_l0_T, bind_cond, Option.bind_assoc, Option.bind_some, Option.bind_none, Option.bind_fun_some, ih]
def F68_T {β : Type} (k : Nat) (a0 a1 : List (den rng)) (LP0 : Int → Option β) (RET : Bool → Option β) : Option β := cond (((a0.length : Nat) : Int) != ((a1.length : Nat) : Int)) (RET false) (LP0 0)
def F68 (k : Nat) (a0 a1 : List (den rng)) : Option (Bool) := F68_T k a0 a1 (fun x5_0 => F68_l0 k a0 a1 k x5_0) some
theorem F68_st {β : Type} (k : Nat) (a0 a1 : List (den rng)) (K : A × List (List Leaf) → Option β) : evalF (F68_E k) Try.f68 (F68_a a0 a1) K =
    F68_T k a0 a1 (fun x5_0 => loopG (F68_E k) Try.f68 [1, 1, 0, 1, 0] 0 (kontAt (F68_E k) [1, 1, 0, 1, 0] (bodyOf Try.f68) 0 (endC (F68_E k) Try.f68 (F68_a a0 a1) K)) k (F68_s0 a0 a1 x5_0)) (fun r => K (F68_r r)) := by kernel_rfl
theorem F68_ev {β : Type} (k : Nat) (a0 a1 : List (den rng)) (K : A × List (List Leaf) → Option β) : evalF (F68_E k) Try.f68 (F68_a a0 a1) K = (F68 k a0 a1).bind fun r => K (F68_r r) := by
  rw [F68_st, F68]
  simp only [F68_T, bind_cond, Option.bind_assoc, Option.bind_some, Option.bind_none, Option.bind_fun_some, F68_l0_lp]
theorem F68_tOk (k : Nat) : TabFn Try.prog (F68_t k) := .ent (F94_q k) F94_f (.none)
theorem F68_con (k : Nat) (a0 a1 : List (den rng)) : Contract Try.prog 68 (F68_a a0 a1) ⟨F68 k a0 a1, F68_r⟩ := con_of (envOk (F68_tOk k) _ _ _ _) mixed Try.func68 rfl rfl (F68_ev k a0 a1 some)
def F68_sh : List AK := [.one (.l (.sl .ro rng)), .one (.l (.sl .ro rng))]
def F68_p (k : Nat) : List Arg → Option CR := cle F68_sh fun x => ⟨F68 k x.1 x.2.1, F68_r⟩
theorem F68_q (k : Nat) : ∀ xs cr, F68_p k xs = some cr → Contract Try.prog 68 xs cr := cle_ok fun x => F68_con k _ _
theorem F68_f : FnOk Try.prog 68 := .of (by kernel_rfl)
def F25_t (k : Nat) : Tab := entT 68 (F68_p k) <| entT 31 (F31_p k) <| noTab
abbrev F25_E (k : Nat) : Env := env (F25_t k) noHint .own [] k
abbrev F25_a (a0_0 a0_1 a0_2 a0_3 a0_4 : Int) (a0_5 a0_6 a0_7 a0_8 : Bool) (a0_9 : List (den rng)) (a0_10 : List (den (.int .u8))) (a1_0 a1_1 a1_2 a1_3 a1_4 : Int) (a1_5 a1_6 a1_7 a1_8 : Bool) (a1_9 : List (den rng)) (a1_10 : List (den (.int .u8))) : List Arg := [.agg [.l (.v (.int .i64 a0_0)), .l (.v (.int .i64 a0_1)), .l (.v (.int .i64 a0_2)), .l (.v (.int .i64 a0_3)), .l (.v (.int .i64 a0_4)), .l (.v (.bool a0_5)), .l (.v (.bool a0_6)), .l (.v (.bool a0_7)), .l (.v (.bool a0_8)), .l (.s .ro rng a0_9), .l (.s .ro (.int .u8) a0_10)], .agg [.l (.v (.int .i64 a1_0)), .l (.v (.int .i64 a1_1)), .l (.v (.int .i64 a1_2)), .l (.v (.int .i64 a1_3)), .l (.v (.int .i64 a1_4)), .l (.v (.bool a1_5)), .l (.v (.bool a1_6)), .l (.v (.bool a1_7)), .l (.v (.bool a1_8)), .l (.s .ro rng a1_9), .l (.s .ro (.int .u8) a1_10)]]
def F25_r (r : Bool) : A × List (List Leaf) := (.one (.v (.bool r)), [])
def F25_T {β : Type} (k : Nat) (a0_0 a0_1 a0_2 a0_3 a0_4 : Int) (a0_5 a0_6 a0_7 a0_8 : Bool) (a0_9 : List (den rng)) (a0_10 : List (den (.int .u8))) (a1_0 a1_1 a1_2 a1_3 a1_4 : Int) (a1_5 a1_6 a1_7 a1_8 : Bool) (a1_9 : List (den rng)) (a1_10 : List (den (.int .u8))) (RET : Bool → Option β) : Option β := cond (a0_0 != a1_0) (RET false) (cond (a0_1 != a1_1) (RET false) (cond (a0_2 != a1_2) (RET false) (cond (a0_3 != a1_3) (RET false) (cond (a0_4 != a1_4) (RET false) (cond (!(a0_5 == a1_5)) (RET false) (cond (!(a0_6 == a1_6)) (RET false) (cond (!(a0_7 == a1_7)) (RET false) (cond (!(a0_8 == a1_8)) (RET false) ((F68 k a0_9 a1_9).bind fun b1 => cond (!b1) (RET false) ((F31 k a0_10 a1_10).bind fun b2 => cond (!b2) (RET false) (RET true)))))))))))
def F25 (k : Nat) (a0_0 a0_1 a0_2 a0_3 a0_4 : Int) (a0_5 a0_6 a0_7 a0_8 : Bool) (a0_9 : List (den rng)) (a0_10 : List (den (.int .u8))) (a1_0 a1_1 a1_2 a1_3 a1_4 : Int) (a1_5 a1_6 a1_7 a1_8 : Bool) (a1_9 : List (den rng)) (a1_10 : List (den (.int .u8))) : Option (Bool) := F25_T k a0_0 a0_1 a0_2 a0_3 a0_4 a0_5 a0_6 a0_7 a0_8 a0_9 a0_10 a1_0 a1_1 a1_2 a1_3 a1_4 a1_5 a1_6 a1_7 a1_8 a1_9 a1_10 some
theorem F25_st {β : Type} (k : Nat) (a0_0 a0_1 a0_2 a0_3 a0_4 : Int) (a0_5 a0_6 a0_7 a0_8 : Bool) (a0_9 : List (den rng)) (a0_10 : List (den (.int .u8))) (a1_0 a1_1 a1_2 a1_3 a1_4 : Int) (a1_5 a1_6 a1_7 a1_8 : Bool) (a1_9 : List (den rng)) (a1_10 : List (den (.int .u8))) (K : A × List (List Leaf) → Option β) : evalF (F25_E k) Try.f25 (F25_a a0_0 a0_1 a0_2 a0_3 a0_4 a0_5 a0_6 a0_7 a0_8 a0_9 a0_10 a1_0 a1_1 a1_2 a1_3 a1_4 a1_5 a1_6 a1_7 a1_8 a1_9 a1_10) K =
    F25_T k a0_0 a0_1 a0_2 a0_3 a0_4 a0_5 a0_6 a0_7 a0_8 a0_9 a0_10 a1_0 a1_1 a1_2 a1_3 a1_4 a1_5 a1_6 a1_7 a1_8 a1_9 a1_10 (fun r => K (F25_r r)) := by kernel_rfl
theorem F25_ev {β : Type} (k : Nat) (a0_0 a0_1 a0_2 a0_3 a0_4 : Int) (a0_5 a0_6 a0_7 a0_8 : Bool) (a0_9 : List (den rng)) (a0_10 : List (den (.int .u8))) (a1_0 a1_1 a1_2 a1_3 a1_4 : Int) (a1_5 a1_6 a1_7 a1_8 : Bool) (a1_9 : List (den rng)) (a1_10 : List (den (.int .u8))) (K : A × List (List Leaf) → Option β) : evalF (F25_E k) Try.f25 (F25_a a0_0 a0_1 a0_2 a0_3 a0_4 a0_5 a0_6 a0_7 a0_8 a0_9 a0_10 a1_0 a1_1 a1_2 a1_3 a1_4 a1_5 a1_6 a1_7 a1_8 a1_9 a1_10) K = (F25 k a0_0 a0_1 a0_2 a0_3 a0_4 a0_5 a0_6 a0_7 a0_8 a0_9 a0_10 a1_0 a1_1 a1_2 a1_3 a1_4 a1_5 a1_6 a1_7 a1_8 a1_9 a1_10).bind fun r => K (F25_r r) := by
  rw [F25_st, F25]
  simp only [F25_T, bind_cond, Option.bind_assoc, Option.bind_some, Option.bind_none, Option.bind_fun_some]
theorem F25_tOk (k : Nat) : TabFn Try.prog (F25_t k) := .ent (F68_q k) F68_f (.ent (F31_q k) F31_f (.none))
theorem F25_con (k : Nat) (a0_0 a0_1 a0_2 a0_3 a0_4 : Int) (a0_5 a0_6 a0_7 a0_8 : Bool) (a0_9 : List (den rng)) (a0_10 : List (den (.int .u8))) (a1_0 a1_1 a1_2 a1_3 a1_4 : Int) (a1_5 a1_6 a1_7 a1_8 : Bool) (a1_9 : List (den rng)) (a1_10 : List (den (.int .u8))) : Contract Try.prog 25 (F25_a a0_0 a0_1 a0_2 a0_3 a0_4 a0_5 a0_6 a0_7 a0_8 a0_9 a0_10 a1_0 a1_1 a1_2 a1_3 a1_4 a1_5 a1_6 a1_7 a1_8 a1_9 a1_10) ⟨F25 k a0_0 a0_1 a0_2 a0_3 a0_4 a0_5 a0_6 a0_7 a0_8 a0_9 a0_10 a1_0 a1_1 a1_2 a1_3 a1_4 a1_5 a1_6 a1_7 a1_8 a1_9 a1_10, F25_r⟩ := con_of (envOk (F25_tOk k) _ _ _ _) mixed Try.func25 rfl rfl (F25_ev k a0_0 a0_1 a0_2 a0_3 a0_4 a0_5 a0_6 a0_7 a0_8 a0_9 a0_10 a1_0 a1_1 a1_2 a1_3 a1_4 a1_5 a1_6 a1_7 a1_8 a1_9 a1_10 some)
def F25_sh : List AK := [.agg [.l (.int .i64), .l (.int .i64), .l (.int .i64), .l (.int .i64), .l (.int .i64), .l (.bool), .l (.bool), .l (.bool), .l (.bool), .l (.sl .ro rng), .l (.sl .ro (.int .u8))], .agg [.l (.int .i64), .l (.int .i64), .l (.int .i64), .l (.int .i64), .l (.int .i64), .l (.bool), .l (.bool), .l (.bool), .l (.bool), .l (.sl .ro rng), .l (.sl .ro (.int .u8))]]
def F25_p (k : Nat) : List Arg → Option CR := cle F25_sh fun x => ⟨F25 k x.1.1 x.1.2.1 x.1.2.2.1 x.1.2.2.2.1 x.1.2.2.2.2.1 x.1.2.2.2.2.2.1 x.1.2.2.2.2.2.2.1 x.1.2.2.2.2.2.2.2.1 x.1.2.2.2.2.2.2.2.2.1 x.1.2.2.2.2.2.2.2.2.2.1 x.1.2.2.2.2.2.2.2.2.2.2.1 x.2.1.1 x.2.1.2.1 x.2.1.2.2.1 x.2.1.2.2.2.1 x.2.1.2.2.2.2.1 x.2.1.2.2.2.2.2.1 x.2.1.2.2.2.2.2.2.1 x.2.1.2.2.2.2.2.2.2.1 x.2.1.2.2.2.2.2.2.2.2.1 x.2.1.2.2.2.2.2.2.2.2.2.1 x.2.1.2.2.2.2.2.2.2.2.2.2.1, F25_r⟩
theorem F25_q (k : Nat) : ∀ xs cr, F25_p k xs = some cr → Contract Try.prog 25 xs cr := cle_ok fun x => F25_con k _ _ _ _ _ _ _ _ _ _ _ _ _ _ _ _ _ _ _ _ _ _
theorem F25_f : FnOk Try.prog 25 := .of (by kernel_rfl)
def F69_h : Nat → Hint
  | 0 => ⟨[(0, .plain), (1, .plain), (5, .plain)], [(0, .plain)]⟩
  | _ => ⟨[], []⟩
abbrev F69_E (k : Nat) : Env := env noTab F69_h .own [(true, 0)] k
abbrev F69_a (a0 : List (den rng)) (a1 : Int) : List Arg := [.one (.b (.s .own rng a0)), .one (.l (.v (.int .i64 a1)))]
def F69_r (r : Int × List (den rng)) : A × List (List Leaf) := (.one (.v (.int .i64 r.1)), [[.s .own rng r.2]])
def F69_s0 (a0 : List (den rng)) (a1 : Int) (x1_0 x5_0 : Int) (m0_0 : List (den rng)) : St := ⟨(.one (.a (.cell 0) 0 0 none)) :: (.one (.v (.int .i64 x1_0))) :: dz 3 ((.one (.v (.int .i64 x5_0))) :: dz 21 []), [(0, ⟨.s .own rng m0_0, 0, 0⟩)]⟩
def F69_l0_T {β : Type} (k : Nat) (a0 : List (den rng)) (a1 : Int) (NX : Int → Int → List (den rng) → Option β) (RET : (Int × List (den rng)) → Option β) (x1_0 x5_0 : Int) (m0_0 : List (den rng)) : Option β := cond (decide (x5_0 < ((m0_0.length : Nat) : Int))) (cond (decide (0 ≤ x5_0)) (cond (decide (x5_0 < ((m0_0.length : Nat) : Int))) (cond (decide (0 ≤ x5_0)) (cond (decide (x5_0 < (((m0_0.set x5_0.toNat (x1_0, (atI m0_0 x5_0).2)).length : Nat) : Int))) (NX (IntKind.i64.wrap ((IntKind.i64.wrap (x1_0 + 1)) + 1)) (IntKind.i64.wrap (x5_0 + 1)) ((m0_0.set x5_0.toNat (x1_0, (atI m0_0 x5_0).2)).set x5_0.toNat ((atI (m0_0.set x5_0.toNat (x1_0, (atI m0_0 x5_0).2)) x5_0).1, IntKind.i64.wrap (x1_0 + 1)))) none) none) none) none) (RET (x1_0, m0_0))
def F69_l0 (k : Nat) (a0 : List (den rng)) (a1 : Int) : Nat → Int → Int → List (den rng) → Option (Int × List (den rng))
  | 0, _, _, _ => none
  | n + 1, x1_0, x5_0, m0_0 => F69_l0_T k a0 a1 (fun x1_0 x5_0 m0_0 => F69_l0 k a0 a1 n x1_0 x5_0 m0_0) some x1_0 x5_0 m0_0
theorem F69_l0_rd {β : Type} (k n : Nat) (a0 : List (den rng)) (a1 : Int) (x1_0 x5_0 : Int) (m0_0 : List (den rng)) (K : A × List (List Leaf) → Option β) :
    loopG (F69_E k) Try.f69 [1, 0, 1, 0] 0 (kontAt (F69_E k) [1, 0, 1, 0] (bodyOf Try.f69) 0 (endC (F69_E k) Try.f69 (F69_a a0 a1) K)) (n + 1) (F69_s0 a0 a1 x1_0 x5_0 m0_0) =
    F69_l0_T k a0 a1 (fun x1_0 x5_0 m0_0 => loopG (F69_E k) Try.f69 [1, 0, 1, 0] 0 (kontAt (F69_E k) [1, 0, 1, 0] (bodyOf Try.f69) 0 (endC (F69_E k) Try.f69 (F69_a a0 a1) K)) n (F69_s0 a0 a1 x1_0 x5_0 m0_0)) (fun r => K (F69_r r)) x1_0 x5_0 m0_0 := by kernel_rfl
theorem F69_l0_lp {β : Type} (k : Nat) (a0 : List (den rng)) (a1 : Int) (K : A × List (List Leaf) → Option β) (n : Nat) : ∀ (x1_0 x5_0 : Int) (m0_0 : List (den rng)), loopG (F69_E k) Try.f69 [1, 0, 1, 0] 0 (kontAt (F69_E k) [1, 0, 1, 0] (bodyOf Try.f69) 0 (endC (F69_E k) Try.f69 (F69_a a0 a1) K)) n (F69_s0 a0 a1 x1_0 x5_0 m0_0) =
    (F69_l0 k a0 a1 n x1_0 x5_0 m0_0).bind fun r => K (F69_r r) := by
  induction n with
  | zero => intros; rfl
  | succ n ih =>
    intros
    rw [F69_l0_rd, F69_l0]
    simp only [F69_l0_T, bind_cond, Option.bind_assoc, Option.bind_some, Option.bind_none, Option.bind_fun_some, ih]
def F69_T {β : Type} (k : Nat) (a0 : List (den rng)) (a1 : Int) (LP0 : Int → Int → List (den rng) → Option β) : Option β := LP0 a1 0 a0
def F69 (k : Nat) (a0 : List (den rng)) (a1 : Int) : Option (Int × List (den rng)) := F69_T k a0 a1 (fun x1_0 x5_0 m0_0 => F69_l0 k a0 a1 k x1_0 x5_0 m0_0)
theorem F69_st {β : Type} (k : Nat) (a0 : List (den rng)) (a1 : Int) (K : A × List (List Leaf) → Option β) : evalF (F69_E k) Try.f69 (F69_a a0 a1) K =
    F69_T k a0 a1 (fun x1_0 x5_0 m0_0 => loopG (F69_E k) Try.f69 [1, 0, 1, 0] 0 (kontAt (F69_E k) [1, 0, 1, 0] (bodyOf Try.f69) 0 (endC (F69_E k) Try.f69 (F69_a a0 a1) K)) k (F69_s0 a0 a1 x1_0 x5_0 m0_0)) := by kernel_rfl
theorem F69_ev {β : Type} (k : Nat) (a0 : List (den rng)) (a1 : Int) (K : A × List (List Leaf) → Option β) : evalF (F69_E k) Try.f69 (F69_a a0 a1) K = (F69 k a0 a1).bind fun r => K (F69_r r) := by
  rw [F69_st, F69]
  simp only [F69_T, bind_cond, Option.bind_assoc, Option.bind_some, Option.bind_none, Option.bind_fun_some, F69_l0_lp]
theorem F69_con (k : Nat) (a0 : List (den rng)) (a1 : Int) : Contract Try.prog 69 (F69_a a0 a1) ⟨F69 k a0 a1, F69_r⟩ := con_of (envOk .none _ _ _ _) mixed Try.func69 rfl rfl (F69_ev k a0 a1 some)
def F69_sh : List AK := [.one (.b (.sl .own rng)), .one (.l (.int .i64))]
def F69_p (k : Nat) : List Arg → Option CR := cle F69_sh fun x => ⟨F69 k x.1 x.2.1, F69_r⟩
theorem F69_q (k : Nat) : ∀ xs cr, F69_p k xs = some cr → Contract Try.prog 69 xs cr := cle_ok fun x => F69_con k _ _
theorem F69_f : FnOk Try.prog 69 := .of (by kernel_rfl)
def F32_h : Nat → Hint
  | 0 => ⟨[(0, .plain), (1, .plain), (5, .plain)], [(0, .plain)]⟩
  | _ => ⟨[], []⟩
abbrev F32_E (k : Nat) : Env := env noTab F32_h .own [(true, 0)] k
abbrev F32_a (a0 : List (den (.int .u8))) (a1 : Int) : List Arg := [.one (.b (.s .own (.int .u8) a0)), .one (.l (.v (.int .i64 a1)))]
def F32_r (r : Int × List (den (.int .u8))) : A × List (List Leaf) := (.one (.v (.int .i64 r.1)), [[.s .own (.int .u8) r.2]])
def F32_s0 (a0 : List (den (.int .u8))) (a1 : Int) (x1_0 x5_0 : Int) (m0_0 : List (den (.int .u8))) : St := ⟨(.one (.a (.cell 0) 0 0 none)) :: (.one (.v (.int .i64 x1_0))) :: dz 3 ((.one (.v (.int .i64 x5_0))) :: dz 14 []), [(0, ⟨.s .own (.int .u8) m0_0, 0, 0⟩)]⟩
def F32_l0_T {β : Type} (k : Nat) (a0 : List (den (.int .u8))) (a1 : Int) (NX : Int → Int → List (den (.int .u8)) → Option β) (RET : (Int × List (den (.int .u8))) → Option β) (x1_0 x5_0 : Int) (m0_0 : List (den (.int .u8))) : Option β := cond (decide (x5_0 < ((m0_0.length : Nat) : Int))) (cond (decide (0 ≤ x5_0)) (cond (decide (x5_0 < ((m0_0.length : Nat) : Int))) (NX (IntKind.i64.wrap (x1_0 + 1)) (IntKind.i64.wrap (x5_0 + 1)) (m0_0.set x5_0.toNat (IntKind.u8.wrap (x1_0)))) none) none) (RET (x1_0, m0_0))
def F32_l0 (k : Nat) (a0 : List (den (.int .u8))) (a1 : Int) : Nat → Int → Int → List (den (.int .u8)) → Option (Int × List (den (.int .u8)))
  | 0, _, _, _ => none
  | n + 1, x1_0, x5_0, m0_0 => F32_l0_T k a0 a1 (fun x1_0 x5_0 m0_0 => F32_l0 k a0 a1 n x1_0 x5_0 m0_0) some x1_0 x5_0 m0_0
theorem F32_l0_rd {β : Type} (k n : Nat) (a0 : List (den (.int .u8))) (a1 : Int) (x1_0 x5_0 : Int) (m0_0 : List (den (.int .u8))) (K : A × List (List Leaf) → Option β) :
    loopG (F32_E k) Try.f32 [1, 0, 1, 0] 0 (kontAt (F32_E k) [1, 0, 1, 0] (bodyOf Try.f32) 0 (endC (F32_E k) Try.f32 (F32_a a0 a1) K)) (n + 1) (F32_s0 a0 a1 x1_0 x5_0 m0_0) =
    F32_l0_T k a0 a1 (fun x1_0 x5_0 m0_0 => loopG (F32_E k) Try.f32 [1, 0, 1, 0] 0 (kontAt (F32_E k) [1, 0, 1, 0] (bodyOf Try.f32) 0 (endC (F32_E k) Try.f32 (F32_a a0 a1) K)) n (F32_s0 a0 a1 x1_0 x5_0 m0_0)) (fun r => K (F32_r r)) x1_0 x5_0 m0_0 := by kernel_rfl
theorem F32_l0_lp {β : Type} (k : Nat) (a0 : List (den (.int .u8))) (a1 : Int) (K : A × List (List Leaf) → Option β) (n : Nat) : ∀ (x1_0 x5_0 : Int) (m0_0 : List (den (.int .u8))), loopG (F32_E k) Try.f32 [1, 0, 1, 0] 0 (kontAt (F32_E k) [1, 0, 1, 0] (bodyOf Try.f32) 0 (endC (F32_E k) Try.f32 (F32_a a0 a1) K)) n (F32_s0 a0 a1 x1_0 x5_0 m0_0) =
    (F32_l0 k a0 a1 n x1_0 x5_0 m0_0).bind fun r => K (F32_r r) := by
  induction n with
  | zero => intros; rfl
  | succ n ih =>
    intros
    rw [F32_l0_rd, F32_l0]
    simp only [F32_l0_T, bind_cond, Option.bind_assoc, Option.bind_some, Option.bind_none, Option.bind_fun_some, ih]
def F32_T {β : Type} (k : Nat) (a0 : List (den (.int .u8))) (a1 : Int) (LP0 : Int → Int → List (den (.int .u8)) → Option β) : Option β := LP0 a1 0 a0
def F32 (k : Nat) (a0 : List (den (.int .u8))) (a1 : Int) : Option (Int × List (den (.int .u8))) := F32_T k a0 a1 (fun x1_0 x5_0 m0_0 => F32_l0 k a0 a1 k x1_0 x5_0 m0_0)
theorem F32_st {β : Type} (k : Nat) (a0 : List (den (.int .u8))) (a1 : Int) (K : A × List (List Leaf) → Option β) : evalF (F32_E k) Try.f32 (F32_a a0 a1) K =
    F32_T k a0 a1 (fun x1_0 x5_0 m0_0 => loopG (F32_E k) Try.f32 [1, 0, 1, 0] 0 (kontAt (F32_E k) [1, 0, 1, 0] (bodyOf Try.f32) 0 (endC (F32_E k) Try.f32 (F32_a a0 a1) K)) k (F32_s0 a0 a1 x1_0 x5_0 m0_0)) := by kernel_rfl
theorem F32_ev {β : Type} (k : Nat) (a0 : List (den (.int .u8))) (a1 : Int) (K : A × List (List Leaf) → Option β) : evalF (F32_E k) Try.f32 (F32_a a0 a1) K = (F32 k a0 a1).bind fun r => K (F32_r r) := by
  rw [F32_st, F32]
  simp only [F32_T, bind_cond, Option.bind_assoc, Option.bind_some, Option.bind_none, Option.bind_fun_some, F32_l0_lp]
theorem F32_con (k : Nat) (a0 : List (den (.int .u8))) (a1 : Int) : Contract Try.prog 32 (F32_a a0 a1) ⟨F32 k a0 a1, F32_r⟩ := con_of (envOk .none _ _ _ _) mixed Try.func32 rfl rfl (F32_ev k a0 a1 some)
def F32_sh : List AK := [.one (.b (.sl .own (.int .u8))), .one (.l (.int .i64))]
def F32_p (k : Nat) : List Arg → Option CR := cle F32_sh fun x => ⟨F32 k x.1 x.2.1, F32_r⟩
theorem F32_q (k : Nat) : ∀ xs cr, F32_p k xs = some cr → Contract Try.prog 32 xs cr := cle_ok fun x => F32_con k _ _
theorem F32_f : FnOk Try.prog 32 := .of (by kernel_rfl)
def F26_t (k : Nat) : Tab := entT 69 (F69_p k) <| entT 32 (F32_p k) <| noTab
abbrev F26_E (k : Nat) : Env := env (F26_t k) noHint .own [(true, 9), (true, 10)] k
abbrev F26_a (a0_0 a0_1 a0_2 a0_3 a0_4 : Int) (a0_5 a0_6 a0_7 a0_8 : Bool) (a0_9 : List (den rng)) (a0_10 : List (den (.int .u8))) (a1 : Int) : List Arg := [.agg [.l (.v (.int .i64 a0_0)), .l (.v (.int .i64 a0_1)), .l (.v (.int .i64 a0_2)), .l (.v (.int .i64 a0_3)), .l (.v (.int .i64 a0_4)), .l (.v (.bool a0_5)), .l (.v (.bool a0_6)), .l (.v (.bool a0_7)), .l (.v (.bool a0_8)), .b (.s .own rng a0_9), .b (.s .own (.int .u8) a0_10)], .one (.l (.v (.int .i64 a1)))]
def F26_r (r : Int × List (den rng) × List (den (.int .u8))) : A × List (List Leaf) := (.one (.v (.int .i64 r.1)), [[.s .own rng r.2.1], [.s .own (.int .u8) r.2.2]])
def F26 (k : Nat) (a0_0 a0_1 a0_2 a0_3 a0_4 : Int) (a0_5 a0_6 a0_7 a0_8 : Bool) (a0_9 : List (den rng)) (a0_10 : List (den (.int .u8))) (a1 : Int) : Option (Int × List (den rng) × List (den (.int .u8))) := (F69 k a0_9 a1).bind fun b1 => (F32 k a0_10 b1.1).bind fun b2 => some (b2.1, b1.2, b2.2)
theorem F26_st {β : Type} (k : Nat) (a0_0 a0_1 a0_2 a0_3 a0_4 : Int) (a0_5 a0_6 a0_7 a0_8 : Bool) (a0_9 : List (den rng)) (a0_10 : List (den (.int .u8))) (a1 : Int) (K : A × List (List Leaf) → Option β) : evalF (F26_E k) Try.f26 (F26_a a0_0 a0_1 a0_2 a0_3 a0_4 a0_5 a0_6 a0_7 a0_8 a0_9 a0_10 a1) K =
    (F69 k a0_9 a1).bind fun b1 => (F32 k a0_10 b1.1).bind fun b2 => K (.one (.v (.int .i64 b2.1)), [[.s .own rng b1.2], [.s .own (.int .u8) b2.2]]) := by kernel_rfl
theorem F26_ev {β : Type} (k : Nat) (a0_0 a0_1 a0_2 a0_3 a0_4 : Int) (a0_5 a0_6 a0_7 a0_8 : Bool) (a0_9 : List (den rng)) (a0_10 : List (den (.int .u8))) (a1 : Int) (K : A × List (List Leaf) → Option β) : evalF (F26_E k) Try.f26 (F26_a a0_0 a0_1 a0_2 a0_3 a0_4 a0_5 a0_6 a0_7 a0_8 a0_9 a0_10 a1) K = (F26 k a0_0 a0_1 a0_2 a0_3 a0_4 a0_5 a0_6 a0_7 a0_8 a0_9 a0_10 a1).bind fun r => K (F26_r r) := by
  rw [F26_st, F26]
  simp only [F26_r, bind_cond, Option.bind_assoc, Option.bind_some, Option.bind_none, Option.bind_fun_some]
theorem F26_tOk (k : Nat) : TabFn Try.prog (F26_t k) := .ent (F69_q k) F69_f (.ent (F32_q k) F32_f (.none))
theorem F26_con (k : Nat) (a0_0 a0_1 a0_2 a0_3 a0_4 : Int) (a0_5 a0_6 a0_7 a0_8 : Bool) (a0_9 : List (den rng)) (a0_10 : List (den (.int .u8))) (a1 : Int) : Contract Try.prog 26 (F26_a a0_0 a0_1 a0_2 a0_3 a0_4 a0_5 a0_6 a0_7 a0_8 a0_9 a0_10 a1) ⟨F26 k a0_0 a0_1 a0_2 a0_3 a0_4 a0_5 a0_6 a0_7 a0_8 a0_9 a0_10 a1, F26_r⟩ := con_of (envOk (F26_tOk k) _ _ _ _) mixed Try.func26 rfl rfl (F26_ev k a0_0 a0_1 a0_2 a0_3 a0_4 a0_5 a0_6 a0_7 a0_8 a0_9 a0_10 a1 some)
def F26_sh : List AK := [.agg [.l (.int .i64), .l (.int .i64), .l (.int .i64), .l (.int .i64), .l (.int .i64), .l (.bool), .l (.bool), .l (.bool), .l (.bool), .b (.sl .own rng), .b (.sl .own (.int .u8))], .one (.l (.int .i64))]
def F26_p (k : Nat) : List Arg → Option CR := cle F26_sh fun x => ⟨F26 k x.1.1 x.1.2.1 x.1.2.2.1 x.1.2.2.2.1 x.1.2.2.2.2.1 x.1.2.2.2.2.2.1 x.1.2.2.2.2.2.2.1 x.1.2.2.2.2.2.2.2.1 x.1.2.2.2.2.2.2.2.2.1 x.1.2.2.2.2.2.2.2.2.2.1 x.1.2.2.2.2.2.2.2.2.2.2.1 x.2.1, F26_r⟩
theorem F26_q (k : Nat) : ∀ xs cr, F26_p k xs = some cr → Contract Try.prog 26 xs cr := cle_ok fun x => F26_con k _ _ _ _ _ _ _ _ _ _ _ _
theorem F26_f : FnOk Try.prog 26 := .of (by kernel_rfl)
def F33_h : Nat → Hint
  | 0 => ⟨[(0, .plain), (1, .plain), (5, .plain)], []⟩
  | _ => ⟨[], []⟩
abbrev F33_E (k : Nat) : Env := env noTab F33_h .own [] k
abbrev F33_a (a0 : List (den (.int .u8))) (a1 : Int) : List Arg := [.one (.l (.s .ro (.int .u8) a0)), .one (.l (.v (.int .i64 a1)))]
def F33_r (r : Int) : A × List (List Leaf) := (.one (.v (.int .i64 r)), [])
def F33_s0 (a0 : List (den (.int .u8))) (a1 : Int) (x1_0 x5_0 : Int) : St := ⟨(.one (.s .ro (.int .u8) a0)) :: (.one (.v (.int .i64 x1_0))) :: dz 3 ((.one (.v (.int .i64 x5_0))) :: dz 16 []), []⟩
def F33_l0_T {β : Type} (k : Nat) (a0 : List (den (.int .u8))) (a1 : Int) (NX : Int → Int → Option β) (RET : Int → Option β) (x1_0 x5_0 : Int) : Option β := cond (decide (x5_0 < ((a0.length : Nat) : Int))) (cond (decide (0 ≤ x5_0)) (cond (decide (x5_0 < ((a0.length : Nat) : Int))) (cond ((atI a0 x5_0) != (IntKind.u8.wrap (x1_0))) (RET (-1)) (NX (IntKind.i64.wrap (x1_0 + 1)) (IntKind.i64.wrap (x5_0 + 1)))) none) none) (RET x1_0)
def F33_l0 (k : Nat) (a0 : List (den (.int .u8))) (a1 : Int) : Nat → Int → Int → Option (Int)
  | 0, _, _ => none
  | n + 1, x1_0, x5_0 => F33_l0_T k a0 a1 (fun x1_0 x5_0 => F33_l0 k a0 a1 n x1_0 x5_0) some x1_0 x5_0
theorem F33_l0_rd {β : Type} (k n : Nat) (a0 : List (den (.int .u8))) (a1 : Int) (x1_0 x5_0 : Int) (K : A × List (List Leaf) → Option β) :
    loopG (F33_E k) Try.f33 [1, 0, 1, 0] 0 (kontAt (F33_E k) [1, 0, 1, 0] (bodyOf Try.f33) 0 (endC (F33_E k) Try.f33 (F33_a a0 a1) K)) (n + 1) (F33_s0 a0 a1 x1_0 x5_0) =
    F33_l0_T k a0 a1 (fun x1_0 x5_0 => loopG (F33_E k) Try.f33 [1, 0, 1, 0] 0 (kontAt (F33_E k) [1, 0, 1, 0] (bodyOf Try.f33) 0 (endC (F33_E k) Try.f33 (F33_a a0 a1) K)) n (F33_s0 a0 a1 x1_0 x5_0)) (fun r => K (F33_r r)) x1_0 x5_0 := by kernel_rfl
theorem F33_l0_lp {β : Type} (k : Nat) (a0 : List (den (.int .u8))) (a1 : Int) (K : A × List (List Leaf) → Option β) (n : Nat) : ∀ (x1_0 x5_0 : Int), loopG (F33_E k) Try.f33 [1, 0, 1, 0] 0 (kontAt (F33_E k) [1, 0, 1, 0] (bodyOf Try.f33) 0 (endC (F33_E k) Try.f33 (F33_a a0 a1) K)) n (F33_s0 a0 a1 x1_0 x5_0) =
    (F33_l0 k a0 a1 n x1_0 x5_0).bind fun r => K (F33_r r) := by
  induction n with
  | zero => intros; rfl
  | succ n ih =>
    intros
    rw [F33_l0_rd, F33_l0]
    simp only [F33_l0_T, bind_cond, Option.bind_assoc, Option.bind_some, Option.bind_none, Option.bind_fun_some, ih]
def F33_T {β : Type} (k : Nat) (a0 : List (den (.int .u8))) (a1 : Int) (LP0 : Int → Int → Option β) : Option β := LP0 a1 0
def F33 (k : Nat) (a0 : List (den (.int .u8))) (a1 : Int) : Option (Int) := F33_T k a0 a1 (fun x1_0 x5_0 => F33_l0 k a0 a1 k x1_0 x5_0)
theorem F33_st {β : Type} (k : Nat) (a0 : List (den (.int .u8))) (a1 : Int) (K : A × List (List Leaf) → Option β) : evalF (F33_E k) Try.f33 (F33_a a0 a1) K =
    F33_T k a0 a1 (fun x1_0 x5_0 => loopG (F33_E k) Try.f33 [1, 0, 1, 0] 0 (kontAt (F33_E k) [1, 0, 1, 0] (bodyOf Try.f33) 0 (endC (F33_E k) Try.f33 (F33_a a0 a1) K)) k (F33_s0 a0 a1 x1_0 x5_0)) := by kernel_rfl
theorem F33_ev {β : Type} (k : Nat) (a0 : List (den (.int .u8))) (a1 : Int) (K : A × List (List Leaf) → Option β) : evalF (F33_E k) Try.f33 (F33_a a0 a1) K = (F33 k a0 a1).bind fun r => K (F33_r r) := by
  rw [F33_st, F33]
  simp only [F33_T, bind_cond, Option.bind_assoc, Option.bind_some, Option.bind_none, Option.bind_fun_some, F33_l0_lp]
theorem F33_con (k : Nat) (a0 : List (den (.int .u8))) (a1 : Int) : Contract Try.prog 33 (F33_a a0 a1) ⟨F33 k a0 a1, F33_r⟩ := con_of (envOk .none _ _ _ _) mixed Try.func33 rfl rfl (F33_ev k a0 a1 some)
def F33_sh : List AK := [.one (.l (.sl .ro (.int .u8))), .one (.l (.int .i64))]
def F33_p (k : Nat) : List Arg → Option CR := cle F33_sh fun x => ⟨F33 k x.1 x.2.1, F33_r⟩
theorem F33_q (k : Nat) : ∀ xs cr, F33_p k xs = some cr → Contract Try.prog 33 xs cr := cle_ok fun x => F33_con k _ _
theorem F33_f : FnOk Try.prog 33 := .of (by kernel_rfl)
def F6_t (k : Nat) : Tab := entT 22 (F22_p k) <| entT 23 (F23_p k) <| entT 29 (F29_p k) <| entT 30 (F30_p k) <| entT 31 (F31_p k) <| entT 25 (F25_p k) <| entT 26 (F26_p k) <| entT 32 (F32_p k) <| entT 33 (F33_p k) <| noTab
abbrev F6_E (k : Nat) : Env := env (F6_t k) noHint .own [] k
abbrev F6_a (a0_0 a0_1 a0_2 a0_3 a0_4 : Int) (a0_5 a0_6 a0_7 a0_8 : Bool) (a0_9 : List (den rng)) (a0_10 : List (den (.int .u8))) (a1 a2 a3 a4 : Int) : List Arg := [.agg [.l (.v (.int .i64 a0_0)), .l (.v (.int .i64 a0_1)), .l (.v (.int .i64 a0_2)), .l (.v (.int .i64 a0_3)), .l (.v (.int .i64 a0_4)), .l (.v (.bool a0_5)), .l (.v (.bool a0_6)), .l (.v (.bool a0_7)), .l (.v (.bool a0_8)), .l (.s .ro rng a0_9), .l (.s .ro (.int .u8) a0_10)], .one (.l (.v (.int .i64 a1))), .one (.l (.v (.int .i64 a2))), .one (.l (.v (.int .i64 a3))), .one (.l (.v (.int .i64 a4)))]
def F6_r (r : Bool) : A × List (List Leaf) := (.one (.v (.bool r)), [])
def F6_T {β : Type} (k : Nat) (a0_0 a0_1 a0_2 a0_3 a0_4 : Int) (a0_5 a0_6 a0_7 a0_8 : Bool) (a0_9 : List (den rng)) (a0_10 : List (den (.int .u8))) (a1 a2 a3 a4 : Int) (RET : Bool → Option β) : Option β := (F22 k a0_0 a0_1 a0_2 a0_3 a0_4 a0_5 a0_6 a0_7 a0_8 a0_9 a0_10 1048576).bind fun b1 => cond (decide (b1 < 0)) (RET true) ((F23 k a0_0 a0_1 a0_2 a0_3 a0_4 a0_5 a0_6 a0_7 a0_8 a0_9 a0_10).bind fun b2 => (F29 k b2.1 b2.2.1 b2.2.2.1 b2.2.2.2.1 b2.2.2.2.2.1 b2.2.2.2.2.2.1 b2.2.2.2.2.2.2.1 b2.2.2.2.2.2.2.2.1 b2.2.2.2.2.2.2.2.2.1 b2.2.2.2.2.2.2.2.2.2.1 b2.2.2.2.2.2.2.2.2.2.2 a1 a2 a3 a4).bind fun b3 => (F23 k a0_0 a0_1 a0_2 a0_3 a0_4 a0_5 a0_6 a0_7 a0_8 a0_9 a0_10).bind fun b4 => (F30 k b4.1 b4.2.1 b4.2.2.1 b4.2.2.2.1 b4.2.2.2.2.1 b4.2.2.2.2.2.1 b4.2.2.2.2.2.2.1 b4.2.2.2.2.2.2.2.1 b4.2.2.2.2.2.2.2.2.1 b4.2.2.2.2.2.2.2.2.2.1 b4.2.2.2.2.2.2.2.2.2.2 a1 a2 a3 a4).bind fun b5 => (F31 k b5 b3).bind fun b6 => cond (!b6) (RET false) ((F23 k a0_0 a0_1 a0_2 a0_3 a0_4 a0_5 a0_6 a0_7 a0_8 a0_9 a0_10).bind fun b7 => (F25 k b4.1 b4.2.1 b4.2.2.1 b4.2.2.2.1 b4.2.2.2.2.1 b4.2.2.2.2.2.1 b4.2.2.2.2.2.2.1 b4.2.2.2.2.2.2.2.1 b4.2.2.2.2.2.2.2.2.1 b4.2.2.2.2.2.2.2.2.2.1 b4.2.2.2.2.2.2.2.2.2.2 b7.1 b7.2.1 b7.2.2.1 b7.2.2.2.1 b7.2.2.2.2.1 b7.2.2.2.2.2.1 b7.2.2.2.2.2.2.1 b7.2.2.2.2.2.2.2.1 b7.2.2.2.2.2.2.2.2.1 b7.2.2.2.2.2.2.2.2.2.1 b7.2.2.2.2.2.2.2.2.2.2).bind fun b8 => cond (!b8) (RET false) ((F26 k b4.1 b4.2.1 b4.2.2.1 b4.2.2.2.1 b4.2.2.2.2.1 b4.2.2.2.2.2.1 b4.2.2.2.2.2.2.1 b4.2.2.2.2.2.2.2.1 b4.2.2.2.2.2.2.2.2.1 b4.2.2.2.2.2.2.2.2.2.1 b4.2.2.2.2.2.2.2.2.2.2 1).bind fun b9 => cond (decide (b9.1 < 0)) (RET false) ((F31 k b5 b3).bind fun b10 => cond (!b10) (RET false) ((F32 k b5 1).bind fun b11 => (F33 k b11.2 1).bind fun b12 => cond (decide (b12 < 0)) (RET false) (cond (b12 != b11.1) (RET false) ((F23 k a0_0 a0_1 a0_2 a0_3 a0_4 a0_5 a0_6 a0_7 a0_8 a0_9 a0_10).bind fun b13 => (F30 k b13.1 b13.2.1 b13.2.2.1 b13.2.2.2.1 b13.2.2.2.2.1 b13.2.2.2.2.2.1 b13.2.2.2.2.2.2.1 b13.2.2.2.2.2.2.2.1 b13.2.2.2.2.2.2.2.2.1 b13.2.2.2.2.2.2.2.2.2.1 b13.2.2.2.2.2.2.2.2.2.2 a1 a2 a3 a4).bind fun b14 => (F31 k b14 b3).bind fun b15 => cond (!b15) (RET false) ((F33 k b11.2 1).bind fun b16 => cond (decide (b16 < 0)) (RET false) (cond (b16 != b11.1) (RET false) (RET true))))))))))
def F6 (k : Nat) (a0_0 a0_1 a0_2 a0_3 a0_4 : Int) (a0_5 a0_6 a0_7 a0_8 : Bool) (a0_9 : List (den rng)) (a0_10 : List (den (.int .u8))) (a1 a2 a3 a4 : Int) : Option (Bool) := F6_T k a0_0 a0_1 a0_2 a0_3 a0_4 a0_5 a0_6 a0_7 a0_8 a0_9 a0_10 a1 a2 a3 a4 some
theorem F6_st {β : Type} (k : Nat) (a0_0 a0_1 a0_2 a0_3 a0_4 : Int) (a0_5 a0_6 a0_7 a0_8 : Bool) (a0_9 : List (den rng)) (a0_10 : List (den (.int .u8))) (a1 a2 a3 a4 : Int) (K : A × List (List Leaf) → Option β) : evalF (F6_E k) Try.f6 (F6_a a0_0 a0_1 a0_2 a0_3 a0_4 a0_5 a0_6 a0_7 a0_8 a0_9 a0_10 a1 a2 a3 a4) K =
    F6_T k a0_0 a0_1 a0_2 a0_3 a0_4 a0_5 a0_6 a0_7 a0_8 a0_9 a0_10 a1 a2 a3 a4 (fun r => K (F6_r r)) := by kernel_rfl
theorem F6_ev {β : Type} (k : Nat) (a0_0 a0_1 a0_2 a0_3 a0_4 : Int) (a0_5 a0_6 a0_7 a0_8 : Bool) (a0_9 : List (den rng)) (a0_10 : List (den (.int .u8))) (a1 a2 a3 a4 : Int) (K : A × List (List Leaf) → Option β) : evalF (F6_E k) Try.f6 (F6_a a0_0 a0_1 a0_2 a0_3 a0_4 a0_5 a0_6 a0_7 a0_8 a0_9 a0_10 a1 a2 a3 a4) K = (F6 k a0_0 a0_1 a0_2 a0_3 a0_4 a0_5 a0_6 a0_7 a0_8 a0_9 a0_10 a1 a2 a3 a4).bind fun r => K (F6_r r) := by
  rw [F6_st, F6]
  simp only [F6_T, bind_cond, Option.bind_assoc, Option.bind_some, Option.bind_none, Option.bind_fun_some]
theorem F6_tOk (k : Nat) : TabFn Try.prog (F6_t k) := .ent (F22_q k) F22_f (.ent (F23_q k) F23_f (.ent (F29_q k) F29_f (.ent (F30_q k) F30_f (.ent (F31_q k) F31_f (.ent (F25_q k) F25_f (.ent (F26_q k) F26_f (.ent (F32_q k) F32_f (.ent (F33_q k) F33_f (.none)))))))))
theorem F6_con (k : Nat) (a0_0 a0_1 a0_2 a0_3 a0_4 : Int) (a0_5 a0_6 a0_7 a0_8 : Bool) (a0_9 : List (den rng)) (a0_10 : List (den (.int .u8))) (a1 a2 a3 a4 : Int) : Contract Try.prog 6 (F6_a a0_0 a0_1 a0_2 a0_3 a0_4 a0_5 a0_6 a0_7 a0_8 a0_9 a0_10 a1 a2 a3 a4) ⟨F6 k a0_0 a0_1 a0_2 a0_3 a0_4 a0_5 a0_6 a0_7 a0_8 a0_9 a0_10 a1 a2 a3 a4, F6_r⟩ := con_of (envOk (F6_tOk k) _ _ _ _) mixed Try.func6 rfl rfl (F6_ev k a0_0 a0_1 a0_2 a0_3 a0_4 a0_5 a0_6 a0_7 a0_8 a0_9 a0_10 a1 a2 a3 a4 some)
def F43_T {β : Type} (k : Nat) (a0_0 : List (den (.int .u8))) (a0_1 a1 : Int) (RET : (Int × List (den (.int .u8)) × Int) → Option β) : Option β := cond (decide (a1 < 1)) (RET (0, a0_0, IntKind.i64.wrap (a0_1 + 1))) (cond (((a0_0.length : Nat) : Int) == 0) (RET (0, a0_0, IntKind.i64.wrap (a0_1 + 1))) (cond (decide ((IntKind.i64.wrap ((IntKind.i64.wrap (a0_1 + 1)) - 1)) < ((a0_0.length : Nat) : Int))) (cond (decide (0 ≤ (IntKind.i64.wrap ((IntKind.i64.wrap (a0_1 + 1)) - 1)))) (cond (decide ((IntKind.i64.wrap ((IntKind.i64.wrap (a0_1 + 1)) - 1)) < ((a0_0.length : Nat) : Int))) (cond (decide (a1 = 0)) none (RET (((IntKind.i64.wrap (atI a0_0 (IntKind.i64.wrap ((IntKind.i64.wrap (a0_1 + 1)) - 1)))).tmod a1), a0_0, IntKind.i64.wrap (a0_1 + 1)))) none) none) (cond (decide (((a0_0.length : Nat) : Int) = 0)) none (cond (decide (0 ≤ ((IntKind.i64.wrap ((IntKind.i64.wrap (a0_1 + 1)) - 1)).tmod ((a0_0.length : Nat) : Int)))) (cond (decide (((IntKind.i64.wrap ((IntKind.i64.wrap (a0_1 + 1)) - 1)).tmod ((a0_0.length : Nat) : Int)) < ((a0_0.length : Nat) : Int))) (cond (decide (((a0_0.length : Nat) : Int) = 0)) none (cond (decide (0 ≤ ((IntKind.i64.wrap ((IntKind.i64.wrap ((IntKind.i64.wrap ((IntKind.i64.wrap (a0_1 + 1)) - 1)) * 7)) + 3)).tmod ((a0_0.length : Nat) : Int)))) (cond (decide (((IntKind.i64.wrap ((IntKind.i64.wrap ((IntKind.i64.wrap ((IntKind.i64.wrap (a0_1 + 1)) - 1)) * 7)) + 3)).tmod ((a0_0.length : Nat) : Int)) < ((a0_0.length : Nat) : Int))) (cond (decide (((a0_0.length : Nat) : Int) = 0)) none (cond (decide (a1 = 0)) none (RET (((bitsOf .xor .i64 (IntKind.i64.wrap ((IntKind.i64.wrap ((IntKind.i64.wrap ((IntKind.i64.wrap ((IntKind.i64.wrap (atI a0_0 ((IntKind.i64.wrap ((IntKind.i64.wrap (a0_1 + 1)) - 1)).tmod ((a0_0.length : Nat) : Int)))) * 131)) + (IntKind.i64.wrap ((IntKind.i64.wrap (atI a0_0 ((IntKind.i64.wrap ((IntKind.i64.wrap ((IntKind.i64.wrap ((IntKind.i64.wrap (a0_1 + 1)) - 1)) * 7)) + 3)).tmod ((a0_0.length : Nat) : Int)))) * 1117)))) + (IntKind.i64.wrap ((IntKind.i64.wrap ((IntKind.i64.wrap (a0_1 + 1)) - 1)) * 29)))) + (IntKind.i64.wrap ((IntKind.i64.wrap ((IntKind.i64.wrap ((IntKind.i64.wrap (a0_1 + 1)) - 1)).tdiv ((a0_0.length : Nat) : Int))) * 53)))) (IntKind.i64.wrap ((IntKind.i64.wrap ((IntKind.i64.wrap ((IntKind.i64.wrap ((IntKind.i64.wrap ((IntKind.i64.wrap (atI a0_0 ((IntKind.i64.wrap ((IntKind.i64.wrap (a0_1 + 1)) - 1)).tmod ((a0_0.length : Nat) : Int)))) * 131)) + (IntKind.i64.wrap ((IntKind.i64.wrap (atI a0_0 ((IntKind.i64.wrap ((IntKind.i64.wrap ((IntKind.i64.wrap ((IntKind.i64.wrap (a0_1 + 1)) - 1)) * 7)) + 3)).tmod ((a0_0.length : Nat) : Int)))) * 1117)))) + (IntKind.i64.wrap ((IntKind.i64.wrap ((IntKind.i64.wrap (a0_1 + 1)) - 1)) * 29)))) + (IntKind.i64.wrap ((IntKind.i64.wrap ((IntKind.i64.wrap ((IntKind.i64.wrap (a0_1 + 1)) - 1)).tdiv ((a0_0.length : Nat) : Int))) * 53)))).tdiv 64))).tmod a1), a0_0, IntKind.i64.wrap (a0_1 + 1))))) none) none)) none) none))))
def F43 (k : Nat) (a0_0 : List (den (.int .u8))) (a0_1 a1 : Int) : Option (Int × List (den (.int .u8)) × Int) := F43_T k a0_0 a0_1 a1 some
end Go.Proofs.Ytnagpaikjikhaaa.Gn
end

section
namespace Go.Proofs.Ytnagpaikjikhaaa.Gn
open Go.Rf Go.IntWalk
set_option linter.unusedVariables false
set_option linter.unusedSimpArgs false
def inB (a b c : Int) : Bool := decide (b ≤ a) && decide (a ≤ c)
theorem F51_eq (k : Nat) (a b c : Int) : F51 k a b c = some (inB a b c) := by
  unfold F51 inB
  have : decide (a ≥ b) = decide (b ≤ a) := rfl
  rw [this]
  cases decide (b ≤ a) <;> rfl
theorem F45_eq (k : Nat) (a b c : Int) : F45 k a b c = some (inB a b c) := F51_eq k a b c
theorem F54_eq (k : Nat) (a : Int) : F54 k a = some (inB a 1 255) := by unfold F54; rw [F45_eq]; rfl
theorem F55_eq (k : Nat) (a : Int) : F55 k a = some (inB a 0 65535) := by unfold F55; rw [F45_eq]; rfl
abbrev u8L : Type := List (den (.int .u8))
abbrev rgL : Type := List (den rng)
theorem ml : maxLen = 9223372036854775807 := rfl
theorem F65_eq (k : Nat) (l : rgL) (x : Int) (hl : l.length ≤ maxLen) (hx : 0 ≤ x ∧ x ≤ 1048576) : F65 k l x = some (if (l.length : Int) ≤ x then x - (l.length : Int) else -1) := by
  simp only [F65, F65_T]
  rw [ml] at hl
  rw [i64_in _ (by omega)]
  by_cases h : (l.length : Int) ≤ x
  · rw [decide_eq_false (by omega), if_pos h]; rfl
  · rw [decide_eq_true (by omega), if_neg h]; rfl
theorem F66_eq (k : Nat) (l : u8L) (x : Int) (hl : l.length ≤ maxLen) (hx : 0 ≤ x ∧ x ≤ 1048576) : F66 k l x = some (if (l.length : Int) ≤ x then x - (l.length : Int) else -1) := by
  simp only [F66, F66_T]
  rw [ml] at hl
  rw [i64_in _ (by omega)]
  by_cases h : (l.length : Int) ≤ x
  · rw [decide_eq_false (by omega), if_pos h]; rfl
  · rw [decide_eq_true (by omega), if_neg h]; rfl
theorem F67_eq (k : Nat) (l : rgL) (hl : l.length ≤ 1048576) (hk : l.length < k) : F67 k l = some l := by
  have := copyLoop l id (fun n j m => F67_l0 k l n j m) id
    (fun n j m h hm => by
      simp only [F67_l0, F67_l0_T]
      rw [atI_get l j h, up1 j (by omega), F93]
      simp only [Option.bind_some]
      rw [decide_eq_true (by omega : ((j : Nat) : Int) < (l.length : Nat)), decide_eq_true (by omega : (0 : Int) ≤ (j : Nat)), decide_eq_true (by omega : ((j : Nat) : Int) < (m.length : Nat))]
      rfl)
    (fun n m hm => by simp [F67_l0, F67_l0_T]) k 0 (List.replicate l.length (dflt rng)) (Nat.zero_le _) (by omega) (by simp) (by simp)
  simp only [List.map_id] at this
  simp only [F67, F67_T]
  rw [decide_eq_true (by omega : (0 : Int) ≤ ((l.length : Nat) : Int)), decide_eq_true (by omega : ((l.length : Nat) : Int) * (16 : Nat) ≤ 140737488355328)]
  simp only [decide_true, Bool.and_self, cond_true]
  exact this
theorem F38_eq (k : Nat) (l : u8L) (hl : l.length ≤ 1048576) (hk : l.length < k) : F38 k l = some l := by
  have := copyLoop l id (fun n j m => F38_l0 k l n j m) id
    (fun n j m h hm => by
      simp only [F38_l0, F38_l0_T]
      rw [atI_get l j h, up1 j (by omega)]
      rw [decide_eq_true (by omega : ((j : Nat) : Int) < (l.length : Nat)), decide_eq_true (by omega : (0 : Int) ≤ (j : Nat)), decide_eq_true (by omega : ((j : Nat) : Int) < (m.length : Nat))]
      rfl)
    (fun n m hm => by simp [F38_l0, F38_l0_T]) k 0 (List.replicate l.length (dflt (.int .u8))) (Nat.zero_le _) (by omega) (by simp) (by simp)
  simp only [List.map_id] at this
  simp only [F38, F38_T]
  rw [decide_eq_true (by omega : (0 : Int) ≤ ((l.length : Nat) : Int)), decide_eq_true (by omega : ((l.length : Nat) : Int) * (1 : Nat) ≤ 140737488355328)]
  simp only [decide_true, Bool.and_self, cond_true]
  exact this
theorem some_cond {α : Type} (c : Bool) (a b : α) : cond c (some a) (some b) = some (cond c a b) := by cases c <;> rfl
theorem F68_self (k : Nat) (a : rgL) (h9 : a.length ≤ 4194304) (k9 : a.length < k) : F68 k a a = some true := by
  have := foldLoop a (fun n (_ : Unit) j => F68_l0 k a a n j) (fun s _ => s) (fun _ => true)
    (fun n s j h => by
      simp only [F68_l0, F68_l0_T]
      rw [atI_get a j h, up1 j (by omega), F94]
      simp [h])
    (fun n s => by simp [F68_l0, F68_l0_T]) k () 0 (Nat.zero_le _) (by omega)
  simp only [F68, F68_T, bne_self_eq_false, cond_false]
  exact this
theorem F31_self (k : Nat) (a : u8L) (h9 : a.length ≤ 4194304) (k9 : a.length < k) : F31 k a a = some true := by
  have := foldLoop a (fun n (_ : Unit) j => F31_l0 k a a n j) (fun s _ => s) (fun _ => true)
    (fun n s j h => by
      simp only [F31_l0, F31_l0_T]
      rw [atI_get a j h, up1 j (by omega)]
      simp [h])
    (fun n s => by simp [F31_l0, F31_l0_T]) k () 0 (Nat.zero_le _) (by omega)
  simp only [F31, F31_T, bne_self_eq_false, cond_false]
  exact this
def gR (x : Int) (a : den rng) : den rng := (x, x + 1)
def gB (x : Int) (a : den (.int .u8)) : den (.int .u8) := IntKind.u8.wrap x
theorem F69_eq (k : Nat) (l : rgL) (x : Int) (hk : l.length < k) (h0 : 0 ≤ x) (hB : x + 2 * (l.length : Int) ≤ 1099511627776) :
    F69 k l x = some (x + 2 * (l.length : Int), marks gR (fun _ => 2) x l) := by
  have := markLoop 1099511627776 l.length (fun n y j m => F69_l0 k l x n y j m) gR (fun _ => 2) (fun x m => (x, m)) (fun _ => by decide)
    (fun n y j m h hN h0 hB => by
      simp only [F69_l0, F69_l0_T, List.length_set, Int.toNat_natCast]
      rw [up1 j (by omega), i64_in (y + 1) (by omega), i64_in (y + 1 + 1) (by omega), List.set_set]
      rw [decide_eq_true (by omega : ((j : Nat) : Int) < (m.length : Nat)), decide_eq_true (by omega : (0 : Int) ≤ (j : Nat))]
      rw [atI_get (m.set j (y, (atI m (j : Int)).2)) j (by simpa using h)]
      simp only [List.getElem_set_self, cond_true]
      rw [Int.add_assoc]; rfl)
    (fun n x m => by simp [F69_l0, F69_l0_T]) k x [] l (by simp) hk h0 (by rw [sumS_const]; exact hB)
  rw [sumS_const] at this
  simp only [F69, F69_T]
  exact this
theorem F32_eq (k : Nat) (l : u8L) (x : Int) (hk : l.length < k) (h0 : 0 ≤ x) (hB : x + (l.length : Int) ≤ 1099511627776) :
    F32 k l x = some (x + (l.length : Int), marks gB (fun _ => 1) x l) := by
  have := markLoop 1099511627776 l.length (fun n y j m => F32_l0 k l x n y j m) gB (fun _ => 1) (fun x m => (x, m)) (fun _ => by decide)
    (fun n y j m h hN h0 hB => by
      simp only [F32_l0, F32_l0_T, Int.toNat_natCast]
      rw [up1 j (by omega), i64_in (y + 1) (by omega)]
      rw [decide_eq_true (by omega : ((j : Nat) : Int) < (m.length : Nat)), decide_eq_true (by omega : (0 : Int) ≤ (j : Nat))]
      rfl)
    (fun n x m => by simp [F32_l0, F32_l0_T]) k x [] l (by simp) hk h0 (by rw [sumS_const]; omega)
  rw [sumS_const, Int.one_mul] at this
  simp only [F32, F32_T]
  exact this
theorem F33_eq (k : Nat) (l : u8L) (x : Int) (hk : l.length < k) (h0 : 0 ≤ x) (hB : x + (l.length : Int) ≤ 1099511627776) :
    F33 k (marks gB (fun _ => 1) x l) x = some (x + (l.length : Int)) := by
  have hlen := marks_len gB (fun _ => 1) x l
  have hsum := sumS_marks (g := gB) (s := fun _ => 1) (fun _ _ => rfl) x l
  rw [sumS_const 1 l, Int.one_mul] at hsum
  have hh := Helds_marks (t := fun x a => a = IntKind.u8.wrap x) (g := gB) (s := fun _ => 1) (fun _ _ => rfl) (fun _ _ => rfl) x l
  have h9 := sumS_const 1 (marks gB (fun _ => 1) x l)
  generalize marks gB (fun _ => 1) x l = m at hlen hsum hh h9
  have := heldLoop 1099511627776 m (fun n y j => F33_l0 k m x n y j) (fun x a => a = IntKind.u8.wrap x) (fun _ => 1) (fun x => x) (fun _ => by decide)
    (fun n y j h ht h0 hB => by
      simp only [F33_l0, F33_l0_T]
      rw [up1 j (by omega), i64_in (y + 1) (by omega), atI_get m j h, ht]
      rw [decide_eq_true (by omega : ((j : Nat) : Int) < (m.length : Nat)), decide_eq_true (by omega : (0 : Int) ≤ (j : Nat))]
      simp only [bne_self_eq_false, cond_true, cond_false])
    (fun n y => by simp [F33_l0, F33_l0_T]) k x 0 (Nat.zero_le _) (by omega) h0 (by rw [List.drop_zero, hsum]; exact hB) (by rw [List.drop_zero]; exact hh)
  rw [List.drop_zero, hsum] at this
  simp only [F33, F33_T]
  exact this
theorem bs {α β : Type} {o : Option α} {f : α → Option β} {x : α} (h : o = some x) : o.bind f = f x := by rw [h]; rfl
theorem cf {α : Type} {c : Bool} {a b : α} (h : c = false) : cond c a b = b := by rw [h]; rfl
theorem ct {α : Type} {c : Bool} {a b : α} (h : c = true) : cond c a b = a := by rw [h]; rfl
theorem F22_eq (k : Nat) (a0 a1 a2 a3 a4 : Int) (a5 a6 a7 a8 : Bool) (a9 : List (den rng)) (a10 : List (den (.int .u8))) (x : Int) (h9 : a9.length ≤ maxLen) (h10 : a10.length ≤ maxLen) (hx : 0 ≤ x ∧ x ≤ 1048576) :
    F22 k a0 a1 a2 a3 a4 a5 a6 a7 a8 a9 a10 x = some (if (a9.length : Int) + (a10.length : Int) ≤ x then x - (a9.length : Int) - (a10.length : Int) else -1) := by
  simp only [F22, F22_T]
  rw [F65_eq k a9 x h9 hx, Option.bind_some]
  by_cases h : (a9.length : Int) ≤ x
  · rw [if_pos h, decide_eq_false (by omega), cond_false, F66_eq k a10 _ h10 (by omega), Option.bind_some]
    by_cases h2 : (a10.length : Int) ≤ x - (a9.length : Int)
    · rw [if_pos h2, decide_eq_false (by omega), if_pos (by omega)]; rfl
    · rw [if_neg h2, if_neg (by omega)]; rfl
  · rw [if_neg h, if_neg (by omega)]; rfl
theorem F23_eq (k : Nat) (a0 a1 a2 a3 a4 : Int) (a5 a6 a7 a8 : Bool) (a9 : List (den rng)) (a10 : List (den (.int .u8))) (h9 : a9.length ≤ 1048576) (h10 : a10.length ≤ 1048576) (k9 : a9.length < k) (k10 : a10.length < k) : F23 k a0 a1 a2 a3 a4 a5 a6 a7 a8 a9 a10 = some (a0, a1, a2, a3, a4, a5, a6, a7, a8, a9, a10) := by
  simp only [F23, F23_T]
  rw [F67_eq k a9 h9 k9, F38_eq k a10 h10 k10]; rfl
def rgB (a : den rng) : Bool := inB a.1 0 65535 && inB a.2 0 65535
def okT (a3 a4 : Int) (a5 a6 a7 a8 : Bool) (a9 : rgL) (a10 : u8L) : Bool :=
  cond (!a6) (cond (a3 != 0) false (cond (a4 != 0) false (cond (decide (((a9.length : Nat) : Int) > 0)) false (cond (!a8) true (cond (!a5) (cond (!a7) (((a10.length : Nat) : Int) == 0) false) false)))))
    (cond (!a8) true (cond (!a5) (cond (!a7) (((a10.length : Nat) : Int) == 0) false) false))
def okS (a0 a1 a2 a3 a4 : Int) (a5 a6 a7 a8 : Bool) (a9 : List (den rng)) (a10 : List (den (.int .u8))) : Bool :=
  inB a0 1 255 && inB a1 1 255 && inB a2 0 65535 && inB a3 0 65535 && inB a4 0 255 && !(decide (((a9.length : Nat) : Int) > 2)) && !(decide (((a10.length : Nat) : Int) > 12)) && (a9.all rgB && okT a3 a4 a5 a6 a7 a8 a9 a10)
theorem F50_l (k : Nat) (a0 a1 a2 a3 a4 : Int) (a5 a6 a7 a8 : Bool) (a9 : List (den rng)) (a10 : List (den (.int .u8))) (h9 : a9.length ≤ 1048576) (k9 : a9.length < k) : F50_l0 k a0 a1 a2 a3 a4 a5 a6 a7 a8 a9 a10 k 0 = some (a9.all rgB && okT a3 a4 a5 a6 a7 a8 a9 a10) := by
  have := scanLoop a9 (fun n (_ : Unit) j => F50_l0 k a0 a1 a2 a3 a4 a5 a6 a7 a8 a9 a10 n j) (fun _ _ a => cond (rgB a) (.inl ()) (.inr false)) (fun _ => okT a3 a4 a5 a6 a7 a8 a9 a10)
    (fun n s j h => by
      simp only [F50_l0, F50_l0_T]
      rw [atI_get a9 j h, F51_eq, F51_eq, up1 j (by omega)]
      simp only [Option.bind_some]
      rw [decide_eq_true (by omega : ((j : Nat) : Int) < (a9.length : Nat)), decide_eq_true (by omega : (0 : Int) ≤ (j : Nat))]
      unfold rgB
      cases inB a9[j].1 0 65535 <;> cases inB a9[j].2 0 65535 <;> rfl)
    (fun n s => by
      simp only [F50_l0, F50_l0_T]
      rw [decide_eq_false (by omega : ¬ ((a9.length : Nat) : Int) < (a9.length : Nat))]
      simp only [cond_false, some_cond, okT]) k () 0 (Nat.zero_le _) (by omega)
  rw [scan_all, List.drop_zero] at this
  exact this
theorem F50_eq (k : Nat) (a0 a1 a2 a3 a4 : Int) (a5 a6 a7 a8 : Bool) (a9 : List (den rng)) (a10 : List (den (.int .u8))) (h9 : a9.length ≤ 1048576) (k9 : a9.length < k) : F50 k a0 a1 a2 a3 a4 a5 a6 a7 a8 a9 a10 = some (okS a0 a1 a2 a3 a4 a5 a6 a7 a8 a9 a10) := by
  simp only [F50, F50_T]
  rw [F50_l k a0 a1 a2 a3 a4 a5 a6 a7 a8 a9 a10 h9 k9]
  simp only [F51_eq, Option.bind_some, okS]
  cases inB a0 1 255 <;> try rfl
  cases inB a1 1 255 <;> try rfl
  cases inB a2 0 65535 <;> try rfl
  cases inB a3 0 65535 <;> try rfl
  cases inB a4 0 255 <;> try rfl
  cases decide (((a9.length : Nat) : Int) > 2) <;> try rfl
  cases decide (((a10.length : Nat) : Int) > 12) <;> rfl
theorem F57_eq (k : Nat) (a b : Int) : F57 k a b = some (!(rgB (a, b))) := by
  unfold F57 rgB
  rw [F55_eq, F55_eq]
  simp only [Option.bind_some]
  cases inB a 0 65535 <;> cases inB b 0 65535 <;> rfl
theorem F56_eq (k : Nat) (l : rgL) (h9 : l.length ≤ 1048576) (k9 : l.length < k) : F56 k l = some (!(l.all rgB)) := by
  have := scanLoop l (fun n (_ : Unit) j => F90_l0 k l n j) (fun _ j a => cond (rgB a) (.inl ()) (.inr (j : Int))) (fun _ => -1)
    (fun n s j h => by
      simp only [F90_l0, F90_l0_T]
      rw [atI_get l j h, F57_eq, up1 j (by omega)]
      simp only [Option.bind_some]
      rw [decide_eq_true (by omega : ((j : Nat) : Int) < (l.length : Nat)), decide_eq_true (by omega : (0 : Int) ≤ (j : Nat))]
      show cond true (cond true (cond true (cond (!rgB l[j]) _ _) _) _) _ = _
      cases rgB l[j] <;> rfl)
    (fun n s => by
      simp only [F90_l0, F90_l0_T]
      rw [decide_eq_false (by omega : ¬ ((l.length : Nat) : Int) < (l.length : Nat))]; rfl) k () 0 (Nat.zero_le _) (by omega)
  rw [List.drop_zero] at this
  have hs : ∀ (r : rgL) (j : Nat), (decide (scan (fun (_ : Unit) j a => cond (rgB a) (.inl ()) (.inr (j : Int))) (fun _ => (-1 : Int)) () j r ≥ 0)) = !(r.all rgB) := by
    intro r
    induction r with
    | nil => intro j; rfl
    | cons a r ih =>
      intro j
      rw [scan, List.all_cons]
      cases rgB a with
      | true => simpa using ih (j + 1)
      | false => simp
  simp only [F56, F90, F90_T]
  have this2 : F90_l0 k l k 0 = _ := this
  rw [this2, Option.bind_some, hs l 0]
theorem F14_eq (k : Nat) (a0 a1 a2 a3 a4 : Int) (a5 a6 a7 a8 : Bool) (a9 : List (den rng)) (a10 : List (den (.int .u8))) (h9 : a9.length ≤ 1048576) (k9 : a9.length < k) : F14 k a0 a1 a2 a3 a4 a5 a6 a7 a8 a9 a10 = some (okS a0 a1 a2 a3 a4 a5 a6 a7 a8 a9 a10) := by
  simp only [F14, F14_T]
  rw [F56_eq k a9 h9 k9]
  simp only [F54_eq, F55_eq, F45_eq, Option.bind_some, some_cond, okS]
  cases inB a0 1 255 <;> try rfl
  cases inB a1 1 255 <;> try rfl
  cases inB a2 0 65535 <;> try rfl
  cases inB a3 0 65535 <;> try rfl
  cases inB a4 0 255 <;> try rfl
  cases decide (((a9.length : Nat) : Int) > 2) <;> try rfl
  cases decide (((a10.length : Nat) : Int) > 12) <;> try rfl
  cases a9.all rgB <;> rfl
theorem F92_eq (k : Nat) (a : Int) (h : 0 ≤ a ∧ a ≤ 16777216) : F92 k a = some [] := by
  simp only [F92, F92_T]
  rw [decide_eq_false (by omega : ¬ a < 0), i64_in _ (by omega)]
  by_cases h0 : a = 0
  · subst h0; rfl
  · rw [decide_eq_true (by omega : a - 0 > 0), decide_eq_true (by omega : (a - 0) * (1 : Nat) ≤ 140737488355328)]
    rw [decide_eq_true (by omega : (0 : Int) ≤ (((List.replicate ((a - 0).toNat) (dflt (.int .u8))).length : Nat) : Int))]
    rfl
theorem F26_eq (k : Nat) (a0 a1 a2 a3 a4 : Int) (a5 a6 a7 a8 : Bool) (a9 : List (den rng)) (a10 : List (den (.int .u8))) (x : Int) (k9 : a9.length < k) (k10 : a10.length < k) (h0 : 0 ≤ x) (hB : x + 2 * (a9.length : Int) + (a10.length : Int) ≤ 1099511627776) :
    F26 k a0 a1 a2 a3 a4 a5 a6 a7 a8 a9 a10 x = some (x + 2 * (a9.length : Int) + (a10.length : Int), marks gR (fun _ => 2) x a9, marks gB (fun _ => 1) (x + 2 * (a9.length : Int)) a10) := by
  unfold F26
  rw [F69_eq k a9 x k9 h0 (by omega), Option.bind_some]
  simp only
  rw [F32_eq k a10 _ k10 (by omega) hB]; rfl
def Sm {β : Type} (o : Option β) (P : β → Prop) : Prop := ∃ r, o = some r ∧ P r
theorem Sm.bind {α β : Type} {o : Option α} {f : α → Option β} {P : α → Prop} {Q : β → Prop} (h : Sm o P) (g : ∀ r, P r → Sm (f r) Q) : Sm (o.bind f) Q := by
  obtain ⟨r, e, p⟩ := h
  rw [e]
  exact g r p
theorem Sm.cond {β : Type} {c : Bool} {a b : Option β} {Q : β → Prop} (h1 : c = true → Sm a Q) (h2 : c = false → Sm b Q) : Sm (cond c a b) Q := by
  cases c
  · exact h2 rfl
  · exact h1 rfl
theorem Sm.ct {β : Type} {c : Bool} {a b : Option β} {Q : β → Prop} (hc : c = true) (h : Sm a Q) : Sm (_root_.cond c a b) Q := by rw [hc]; exact h
theorem Sm.cf {β : Type} {c : Bool} {a b : Option β} {Q : β → Prop} (hc : c = false) (h : Sm b Q) : Sm (_root_.cond c a b) Q := by rw [hc]; exact h
def BOk (b : u8L) : Prop := ∀ x ∈ b, @LE.le Int _ 0 x ∧ @LE.le Int _ x 255
theorem atI_mem {t : Ty} {l : List (den t)} {i : Int} (h0 : 0 ≤ i) (h1 : i < (l.length : Nat)) : atI l i ∈ l := by
  obtain ⟨j, rfl⟩ := Int.eq_ofNat_of_zero_le h0
  rw [atI_get l j (by omega)]
  exact List.getElem_mem _
theorem xor_bound (x y : Int) (hx : 0 ≤ x ∧ x < 2 ^ 50) (hy : 0 ≤ y ∧ y < 2 ^ 50) : 0 ≤ bitsOf .xor .i64 x y ∧ bitsOf .xor .i64 x y < 2 ^ 50 := by
  obtain ⟨a, rfl⟩ := Int.eq_ofNat_of_zero_le hx.1
  obtain ⟨b, rfl⟩ := Int.eq_ofNat_of_zero_le hy.1
  have ha : a < 2 ^ 50 := by omega
  have hb : b < 2 ^ 50 := by omega
  have h1 : (BitVec.ofInt 64 (a : Int) ^^^ BitVec.ofInt 64 (b : Int)).toNat = a ^^^ b := by
    rw [BitVec.toNat_xor]
    simp only [BitVec.ofInt_natCast, BitVec.toNat_ofNat]
    rw [Nat.mod_eq_of_lt (by omega), Nat.mod_eq_of_lt (by omega)]
  have h2 : a ^^^ b < 2 ^ 50 := Nat.xor_lt_two_pow ha hb
  have h3 : bitsOf .xor .i64 (a : Int) (b : Int) = ((a ^^^ b : Nat) : Int) := by
    show IntKind.i64.wrap (((BitVec.ofInt 64 (a : Int) ^^^ BitVec.ofInt 64 (b : Int)).toNat : Nat) : Int) = _
    rw [h1, i64_in _ (by omega)]
  rw [h3]
  omega
theorem pick_ok (k : Nat) (b : u8L) (hb : BOk b) (hl : b.length ≤ 2000) (p n : Int) (hp : 0 ≤ p) (hp2 : p < 2 ^ 30) : ∃ r, F43 k b p n = some (r, b, p + 1) ∧ 0 ≤ r ∧ (1 ≤ n → r < n) ∧ (n < 1 → r = 0) := by
  unfold F43 F43_T
  rw [i64_in (p + 1) (by omega), show p + 1 - 1 = p by omega, i64_in p (by omega)]
  by_cases hn : n < 1
  · rw [decide_eq_true hn]; exact ⟨0, rfl, by omega, by omega, fun _ => rfl⟩
  · rw [decide_eq_false hn, cond_false]
    by_cases h0 : b.length = 0
    · have : (((b.length : Nat) : Int) == 0) = true := by simp [h0]
      rw [this]; exact ⟨0, rfl, by omega, by omega, fun _ => rfl⟩
    · have : (((b.length : Nat) : Int) == 0) = false := by simp [h0]
      rw [this, cond_false]
      have hpos : 0 < ((b.length : Nat) : Int) := by omega
      by_cases hlt : p < ((b.length : Nat) : Int)
      · rw [decide_eq_true hlt, decide_eq_true hp, decide_eq_false (by omega : ¬ n = 0)]
        simp only [cond_true, cond_false]
        have hm := hb _ (atI_mem hp hlt)
        rw [i64_in (atI b p) ⟨Int.le_trans (by decide) hm.1, Int.le_trans hm.2 (by decide)⟩]
        exact ⟨_, rfl, Int.tmod_nonneg _ hm.1, fun h => Int.tmod_lt_of_pos _ (by omega), by omega⟩
      · rw [decide_eq_false hlt, decide_eq_false (by omega : ¬ ((b.length : Nat) : Int) = 0)]
        simp only [cond_false]
        rw [i64_in (p * 7) (by omega), i64_in (p * 7 + 3) (by omega)]
        have m1 : 0 ≤ p.tmod ((b.length : Nat) : Int) := Int.tmod_nonneg _ hp
        have m2 : p.tmod ((b.length : Nat) : Int) < ((b.length : Nat) : Int) := Int.tmod_lt_of_pos _ hpos
        have m3 : 0 ≤ (p * 7 + 3).tmod ((b.length : Nat) : Int) := Int.tmod_nonneg _ (by omega)
        have m4 : (p * 7 + 3).tmod ((b.length : Nat) : Int) < ((b.length : Nat) : Int) := Int.tmod_lt_of_pos _ hpos
        have m5 : 0 ≤ p.tdiv ((b.length : Nat) : Int) := Int.tdiv_nonneg hp (by omega)
        have m6 : p.tdiv ((b.length : Nat) : Int) ≤ p := Int.tdiv_le_self _ hp
        rw [decide_eq_true m1, decide_eq_true m2, decide_eq_true m3, decide_eq_true m4, decide_eq_false (by omega : ¬ n = 0)]
        simp only [cond_true, cond_false]
        have g1 := hb _ (atI_mem m1 m2)
        have g2 := hb _ (atI_mem m3 m4)
        obtain ⟨x1, hx1⟩ : ∃ x : Int, x = atI b (p.tmod ((b.length : Nat) : Int)) := ⟨_, rfl⟩
        obtain ⟨x2, hx2⟩ : ∃ x : Int, x = atI b ((p * 7 + 3).tmod ((b.length : Nat) : Int)) := ⟨_, rfl⟩
        rw [← hx1] at g1 ⊢
        rw [← hx2] at g2 ⊢
        generalize p.tdiv ((b.length : Nat) : Int) = q at *
        have g1 : 0 ≤ x1 ∧ x1 ≤ 255 := g1
        have g2 : 0 ≤ x2 ∧ x2 ≤ 255 := g2
        rw [i64_in x1 (by omega), i64_in x2 (by omega), i64_in (x1 * 131) (by omega), i64_in (x2 * 1117) (by omega), i64_in (x1 * 131 + x2 * 1117) (by omega), i64_in (p * 29) (by omega), i64_in (x1 * 131 + x2 * 1117 + p * 29) (by omega),
          i64_in q (by omega), i64_in (q * 53) (by omega), i64_in (x1 * 131 + x2 * 1117 + p * 29 + q * 53) (by omega)]
        generalize hX : x1 * 131 + x2 * 1117 + p * 29 + q * 53 = X
        have hX1 : 0 ≤ X ∧ X < 2 ^ 50 := by omega
        have d1 : 0 ≤ X.tdiv 64 := Int.tdiv_nonneg hX1.1 (by omega)
        have d2 : X.tdiv 64 ≤ X := Int.tdiv_le_self _ hX1.1
        rw [i64_in (X.tdiv 64) (by omega)]
        have hxo := xor_bound X (X.tdiv 64) hX1 (by omega)
        exact ⟨_, rfl, Int.tmod_nonneg _ hxo.1, fun h => Int.tmod_lt_of_pos _ (by omega), by omega⟩
theorem pk {β : Type} (k : Nat) {b : u8L} (hb : BOk b) (hl : b.length ≤ 2000) {p n : Int} (hp : 0 ≤ p) (hp2 : p < 1000000) (hn : 1 ≤ n) {f : Int × u8L × Int → Option β} {Q : β → Prop}
    (h : ∀ x : Int, 0 ≤ x → x < n → Sm (f (x, b, p + 1)) Q) : Sm ((F43 k b p n).bind f) Q := by
  obtain ⟨r, e, h0, h1, _⟩ := pick_ok k b hb hl p n hp (by omega)
  rw [e]
  exact h r h0 (h1 hn)
theorem BOk.of {b : u8L} (h : Wf (.sl (.int .u8)) b) : BOk b := fun x hx => by
  have := h.2 x hx
  unfold Wf Lit.wf at this
  simp only [Bool.and_eq_true, decide_eq_true_eq] at this
  exact this
def by2 (v : Int) : u8L := [v / 256, v % 256]
theorem u8W (v : Int) (h : 0 ≤ v ∧ v ≤ 255) : IntKind.u8.wrap v = v := u8_in v h
theorem u8M (v : Int) : IntKind.u8.wrap v = v % 256 := by rw [IntKind.wrap_u8]
theorem F91_eq (n : Nat) (v : Int) (h : 0 ≤ v ∧ v ≤ 65535) : F91 (n + 4) v 2 = some (by2 v) := by
  have w1 : IntKind.i64.wrap (2 - 1) = 1 := by decide
  have w0 : IntKind.i64.wrap (1 - 1) = 0 := by decide
  have wm : IntKind.i64.wrap (0 - 1) = -1 := by decide
  have hd : v.fdiv 256 = v / 256 := Int.fdiv_eq_ediv_of_nonneg v (by omega)
  have e8 : ((2 : Int) ^ 8) = 256 := by decide
  unfold F91 F91_T
  rw [w1]
  refine (ct (by decide)).trans ?_
  have aux : ∀ k m : Nat, F91_l0 k v 2 (m + 1 + 1 + 1) v 1 (List.replicate (Int.toNat 2) (dflt (.int .u8))) = some (by2 v) := fun k m => by
    rw [F91_l0]
    unfold F91_l0_T
    refine (ct (by decide)).trans ((ct (by decide)).trans ((ct (by decide)).trans ?_))
    dsimp only
    rw [w0, F91_l0]
    unfold F91_l0_T
    refine (ct (by decide)).trans ((ct (by decide)).trans ((ct (by simp)).trans ?_))
    dsimp only
    rw [wm, F91_l0]
    unfold F91_l0_T
    refine (cf (by decide)).trans ?_
    rw [e8, hd, u8M, u8W (v / 256) (by omega)]
    rfl
  exact aux (n + 4) (n + 1)
theorem F95_eq (n : Nat) (v : Int) (h : 0 ≤ v ∧ v ≤ 65535) : F95 (n + 4) v 2 = some (by2 v) := by
  have w1 : IntKind.i64.wrap (2 - 1) = 1 := by decide
  have w0 : IntKind.i64.wrap (1 - 1) = 0 := by decide
  have wm : IntKind.i64.wrap (0 - 1) = -1 := by decide
  have hd : v.fdiv 256 = v / 256 := Int.fdiv_eq_ediv_of_nonneg v (by omega)
  have hd1 : v.fdiv 1 = v := by simp
  have e1 : ((2 : Int) ^ (min (IntKind.i64.wrap (8 * 1)).toNat 64)) = 256 := by decide
  have e0 : ((2 : Int) ^ (min (IntKind.i64.wrap (8 * 0)).toNat 64)) = 1 := by decide
  have i1 : inB 2 1 4 = true := by decide
  have i2 : inB v 0 (IntKind.i64.wrap ((IntKind.i64.wrap (1 * 2 ^ (min (IntKind.i64.wrap (8 * 2)).toNat 64))) - 1)) = true := by
    rw [show IntKind.i64.wrap ((IntKind.i64.wrap (1 * 2 ^ (min (IntKind.i64.wrap (8 * 2)).toNat 64))) - 1) = 65535 by decide]
    unfold inB
    rw [decide_eq_true h.1, decide_eq_true h.2]
    rfl
  unfold F95 F95_T
  rw [F51_eq, i1, Option.bind_some, w1]
  refine (cf rfl).trans ((cf (by decide)).trans ?_)
  rw [F51_eq, i2, Option.bind_some]
  refine (cf rfl).trans ?_
  have aux : ∀ k m : Nat, F95_l0 k v 2 (m + 1 + 1 + 1) 1 [] = some (by2 v) := fun k m => by
    rw [F95_l0]
    unfold F95_l0_T
    refine (ct (by decide)).trans ((cf (by decide)).trans ((ct (by simp)).trans ?_))
    dsimp only
    rw [w0, F95_l0]
    unfold F95_l0_T
    refine (ct (by decide)).trans ((cf (by decide)).trans ((ct (by simp)).trans ?_))
    dsimp only
    rw [wm, F95_l0]
    unfold F95_l0_T
    refine (cf (by decide)).trans ?_
    rw [e1, e0, hd, hd1, Int.tmod_eq_of_lt (by omega) (by omega), Int.tmod_eq_emod_of_nonneg h.1, u8W (v / 256) (by omega), u8W (v % 256) (by omega)]
    rfl
  exact aux (n + 4) (n + 1)
def red (n : Int) : Int := if n > 65535 then n - 65535 else n
def smV : Int → u8L → Int
  | s, [] => s
  | s, [x] => red (s + x * 256)
  | s, x :: y :: r => smV (red (s + (x * 256 + y))) r
theorem red_in {n : Int} (h : 0 ≤ n ∧ n ≤ 131070) : 0 ≤ red n ∧ red n ≤ 65535 := by unfold red; split <;> omega
theorem red_two {s x y : Int} (hs : 0 ≤ s ∧ s ≤ 65535) (hx : 0 ≤ x ∧ x ≤ 255) (hy : 0 ≤ y ∧ y ≤ 255) : red (red (s + x * 256) + y) = red (s + (x * 256 + y)) := by
  unfold red
  split <;> split <;> split <;> omega
theorem byt {l : u8L} (hb : BOk l) (j : Nat) (h : j < l.length) : @LE.le Int _ 0 l[j] ∧ @LE.le Int _ l[j] 255 := hb _ (List.getElem_mem h)
theorem l1Sum_l (k : Nat) (l : u8L) (hb : BOk l) (hl : l.length ≤ 1048576) : ∀ (n j : Nat) (s : Int), j % 2 = 0 → j ≤ l.length → l.length - j < n → (0 ≤ s ∧ s ≤ 65535) → F116_l0 k l n s (j : Int) = some (smV s (l.drop j))
  | 0, j, s, _, _, h, _ => by omega
  | 1, j, s, h2, hj, h, hs => by
    have : j = l.length := by omega
    subst this
    rw [F116_l0, List.drop_length]
    unfold F116_l0_T
    exact (cf (decide_eq_false (by omega))).trans rfl
  | n + 2, j, s, h2, hj, h, hs => by
    rw [F116_l0]
    unfold F116_l0_T
    rcases Nat.lt_or_ge j l.length with hlt | hge
    · obtain ⟨x, hx⟩ : ∃ x : Int, x = l[j] := ⟨_, rfl⟩
      have bx : 0 ≤ x ∧ x ≤ 255 := by rw [hx]; exact byt hb j hlt
      have d1 : decide ((j : Int) < ((l.length : Nat) : Int)) = true := decide_eq_true (by omega)
      have d0 : decide ((0 : Int) ≤ ((j : Nat) : Int)) = true := decide_eq_true (by omega)
      have ev : (((j : Int).tmod 2) == 0) = true := by rw [Int.tmod_eq_emod_of_nonneg (by omega)]; exact beq_iff_eq.2 (by omega)
      have nxt : ∀ s1 : Int, s1 = red (s + x * 256) → F116_l0 k l (n + 1) s1 ((j + 1 : Nat) : Int) = some (smV s (l.drop j)) := fun s1 hs1 => by
        have b1 := red_in (n := s + x * 256) (by omega)
        rw [← hs1] at b1
        rw [F116_l0]
        unfold F116_l0_T
        rcases Nat.lt_or_ge (j + 1) l.length with hlt' | hge'
        · obtain ⟨y, hy⟩ : ∃ y : Int, y = l[j + 1] := ⟨_, rfl⟩
          have by_ : 0 ≤ y ∧ y ≤ 255 := by rw [hy]; exact byt hb (j + 1) hlt'
          have od : ((((j + 1 : Nat) : Int).tmod 2) == 0) = false := by rw [Int.tmod_eq_emod_of_nonneg (by omega)]; exact beq_eq_false_iff_ne.2 (by omega)
          have e2 : smV s (l.drop j) = smV (red (s + (x * 256 + y))) (l.drop (j + 2)) := by
            rw [List.drop_eq_getElem_cons hlt, List.drop_eq_getElem_cons hlt', smV, ← hx, ← hy]
          have b2 := red_in (n := s1 + y) (by omega)
          rw [e2, ← red_two hs bx by_, ← hs1]
          refine (ct (decide_eq_true (by omega))).trans ((cf od).trans ((ct (decide_eq_true (by omega))).trans ((ct (decide_eq_true (by omega))).trans ?_)))
          rw [atI_get l (j + 1) hlt', ← hy, i64_in y (by omega), i64_in (s1 + y) (by omega), i64_in (s1 + y - 65535) (by omega), up1 (j + 1) (by omega)]
          unfold red at b2 ⊢
          by_cases c : s1 + y > 65535
          · rw [if_pos c] at b2 ⊢
            exact (ct (decide_eq_true c)).trans (l1Sum_l k l hb hl n (j + 2) _ (by omega) (by omega) (by omega) b2)
          · rw [if_neg c] at b2 ⊢
            exact (cf (decide_eq_false c)).trans (l1Sum_l k l hb hl n (j + 2) _ (by omega) (by omega) (by omega) b2)
        · have e1 : l.drop j = [l[j]] := by
            rw [List.drop_eq_getElem_cons hlt, List.drop_eq_nil_of_le (by omega)]
          rw [e1, smV, ← hx, ← hs1]
          exact (cf (decide_eq_false (by omega))).trans rfl
      refine (ct d1).trans ((ct ev).trans ((ct d0).trans ((ct d1).trans ?_)))
      rw [atI_get l j hlt, ← hx, i64_in x (by omega), i64_in (x * 256) (by omega), i64_in (s + x * 256) (by omega), i64_in (s + x * 256 - 65535) (by omega), up1 j (by omega)]
      by_cases c : s + x * 256 > 65535
      · exact (ct (decide_eq_true c)).trans (nxt _ (by unfold red; rw [if_pos c]))
      · exact (cf (decide_eq_false c)).trans (nxt _ (by unfold red; rw [if_neg c]))
    · have : j = l.length := by omega
      subst this
      rw [List.drop_length]
      exact (cf (decide_eq_false (by omega))).trans rfl
theorem pieces_nil {α : Type} {N : Nat} (hN : 1 ≤ N) : pieces N ([] : List α) = [] := by
  unfold pieces
  rw [show (([] : List α).length + N - 1) / N = 0 from Nat.div_eq_of_lt (by simp; omega)]
  rfl
theorem pieces_step {α : Type} {N : Nat} (hN : 1 ≤ N) (l : List α) (h : l ≠ []) : pieces N l = l.take N :: pieces N (l.drop N) := by
  have hl : 1 ≤ l.length := List.length_pos_iff.2 h
  have hc : (l.length + N - 1) / N = ((l.drop N).length + N - 1) / N + 1 := by
    rw [List.length_drop]
    by_cases hle : N ≤ l.length
    · rw [show l.length + N - 1 = (l.length - N + N - 1) + N by omega, Nat.add_div_right _ (by omega)]
    · rw [show l.length - N = 0 by omega, Nat.zero_add, Nat.div_eq_of_lt (show N - 1 < N by omega)]
      exact Nat.div_eq_of_lt_le (by omega) (by omega)
  unfold pieces
  rw [hc, List.range_succ_eq_map, List.map_cons, List.map_map]
  congr 1
  · simp [piece]
  · refine List.map_congr_left fun j _ => ?_
    simp only [Function.comp, piece, List.drop_drop]
    congr 2
    rw [Nat.succ_mul]
    omega
theorem or_bytes (x y : Int) (hx : 0 ≤ x ∧ x ≤ 255) (hy : 0 ≤ y ∧ y ≤ 255) : bitsOf .or .i64 (x * 256) y = x * 256 + y := by
  obtain ⟨a, rfl⟩ := Int.eq_ofNat_of_zero_le hx.1
  obtain ⟨b, rfl⟩ := Int.eq_ofNat_of_zero_le hy.1
  have ha : a ≤ 255 := by omega
  have hb : b ≤ 255 := by omega
  have e : ((a : Int) * 256) = ((a * 256 : Nat) : Int) := by omega
  rw [e]
  have h1 : (BitVec.ofInt 64 ((a * 256 : Nat) : Int) ||| BitVec.ofInt 64 (b : Int)).toNat = a * 256 + b := by
    rw [BitVec.toNat_or]
    simp only [BitVec.ofInt_natCast, BitVec.toNat_ofNat]
    rw [Nat.mod_eq_of_lt (by omega), Nat.mod_eq_of_lt (by omega)]
    have := Nat.shiftLeft_add_eq_or_of_lt (show b < 2 ^ 8 by omega) a
    rw [Nat.shiftLeft_eq] at this
    exact this.symm
  show IntKind.i64.wrap (((BitVec.ofInt 64 ((a * 256 : Nat) : Int) ||| BitVec.ofInt 64 (b : Int)).toNat : Nat) : Int) = _
  rw [h1, i64_in _ (by omega)]
  omega
theorem byt2 {l : u8L} (hb : BOk l) {x : den (.int .u8)} (h : x ∈ l) : ∃ v : Int, v = x ∧ (0 ≤ v ∧ v ≤ 255) := ⟨x, rfl, hb x h⟩
theorem F117_eq (n : Nat) (s m : Int) (hs : 0 ≤ s ∧ s ≤ 65535) (hm : 0 ≤ m ∧ m ≤ 65535) : F117 (n + 4) [s, m] = some (red (s + m)) := by
  have aux : ∀ k q : Nat, F117_l0 k [s, m] (q + 1 + 1 + 1) 0 0 = some (red (s + m)) := fun k q => by
    rw [F117_l0]
    unfold F117_l0_T
    refine (ct rfl).trans ((ct rfl).trans ((ct rfl).trans ?_))
    rw [show atI (t := .int .i64) [s, m] 0 = s from rfl, Int.zero_add, i64_in s (by omega)]
    refine (cf (decide_eq_false (by omega))).trans ?_
    dsimp only
    rw [show IntKind.i64.wrap (0 + 1) = 1 by decide, F117_l0]
    unfold F117_l0_T
    refine (ct rfl).trans ((ct rfl).trans ((ct rfl).trans ?_))
    rw [show atI (t := .int .i64) [s, m] 1 = m from rfl, i64_in (s + m) (by omega), i64_in (s + m - 65535) (by omega), show IntKind.i64.wrap (1 + 1) = 2 by decide]
    have fin : ∀ r : Int, F117_l0 k [s, m] (q + 1) r 2 = some r := fun r => by
      rw [F117_l0]
      unfold F117_l0_T
      exact (cf rfl).trans rfl
    unfold red
    by_cases c : s + m > 65535
    · rw [if_pos c]
      exact (ct (decide_eq_true c)).trans (fin _)
    · rw [if_neg c]
      exact (cf (decide_eq_false c)).trans (fin _)
  exact aux (n + 4) (n + 1)
theorem sumOf_l (n : Nat) (a0 : u8L) : ∀ (m : Nat) (l : u8L) (s : Int), l.length ≤ m → BOk l → (0 ≤ s ∧ s ≤ 65535) → F103_l0 (n + 4) a0 (pieces 2 l) s = some (65535 - smV s l)
  | _, [], s, _, _, hs => by
    rw [pieces_nil (by omega), F103_l0, smV, i64_in _ (by omega)]
  | 0, _ :: _, _, h, _, _ => by simp at h
  | m + 1, [x], s, h, hb, hs => by
    obtain ⟨x, rfl, bx⟩ := byt2 hb (x := x) (by simp)
    have e8 : ((2 : Int) ^ 8) = 256 := by decide
    have b1 := red_in (n := s + x * 256) (by omega)
    rw [pieces_step (by omega) [x] (by simp)]
    simp only [List.take_succ_cons, List.take_nil, List.drop_succ_cons, List.drop_nil]
    rw [F103_l0]
    refine (ct (by simp)).trans ((cf (by simp)).trans ?_)
    rw [show atI (t := .int .u8) [x] 0 = x from rfl, e8, i64_in x (by omega), i64_in (x * 256) (by omega), F117_eq n s (x * 256) hs (by omega), Option.bind_some, pieces_nil (by omega), F103_l0, smV, i64_in _ (by omega)]
  | m + 1, x :: y :: r, s, h, hb, hs => by
    obtain ⟨x, rfl, bx⟩ := byt2 hb (x := x) (by simp)
    obtain ⟨y, rfl, by_⟩ := byt2 hb (x := y) (by simp)
    have e8 : ((2 : Int) ^ 8) = 256 := by decide
    have b1 := red_in (n := s + (x * 256 + y)) (by omega)
    rw [pieces_step (by omega) (x :: y :: r) (by simp)]
    simp only [List.take_succ_cons, List.take_zero, List.drop_succ_cons, List.drop_zero]
    rw [F103_l0]
    refine (ct (by simp)).trans ((ct (by simp)).trans ((ct (by simp)).trans ?_))
    rw [show atI (t := .int .u8) [x, y] 0 = x from rfl, show atI (t := .int .u8) [x, y] 1 = y from rfl, e8, i64_in x (by omega), i64_in y (by omega), i64_in (x * 256) (by omega), or_bytes x y bx by_, F117_eq n s (x * 256 + y) hs (by omega), Option.bind_some, smV]
    exact sumOf_l n a0 m r _ (by simp only [List.length_cons] at h; omega) (fun z hz => hb z (by simp [hz])) b1
theorem smV_in : ∀ (l : u8L) (s : Int), BOk l → (0 ≤ s ∧ s ≤ 65535) → 0 ≤ smV s l ∧ smV s l ≤ 65535
  | [], s, _, hs => hs
  | [x], s, hb, hs => by
    obtain ⟨x, rfl, bx⟩ := byt2 hb (x := x) (by simp)
    exact red_in (by omega)
  | x :: y :: r, s, hb, hs => by
    obtain ⟨x, rfl, bx⟩ := byt2 hb (x := x) (by simp)
    obtain ⟨y, rfl, by_⟩ := byt2 hb (x := y) (by simp)
    exact smV_in r _ (fun z hz => hb z (by simp [hz])) (red_in (by omega))
def sumV (l : u8L) : Int := 65535 - smV 0 l
theorem F103_eq (n : Nat) (l : u8L) (hb : BOk l) (hl : l.length ≤ 1048576) : F103 (n + 4) l = some (sumV l) := by
  unfold F103
  rw [decide_eq_true (by omega : l.length ≤ 140737488355328)]
  exact sumOf_l n l l.length l 0 (Nat.le_refl _) hb (by omega)
theorem F100_eq (k : Nat) (l : u8L) (hb : BOk l) (hl : l.length ≤ 1048576) (hk : 1048576 < k) : F100 k l = some (sumV l) := by
  have := l1Sum_l k l hb hl k 0 0 rfl (Nat.zero_le _) (by omega) (by omega)
  have h2 := smV_in l 0 hb (by omega)
  unfold F100 F116 F116_T
  refine (bs this).trans ?_
  rw [List.drop_zero, i64_in _ (by omega)]
  rfl
theorem cat_l2 (k : Nat) (l : List u8L) (hl : l.length ≤ 1048576) : ∀ (n j : Nat) (m : u8L), j ≤ l.length → l.length - j < n → m.length + (l.drop j).flatten.length ≤ 4194304 → F62_l2 k l n (j : Int) m = some (m ++ (l.drop j).flatten)
  | 0, j, m, _, h, _ => by omega
  | n + 1, j, m, hj, h, hm => by
    rw [F62_l2]
    unfold F62_l2_T
    rcases Nat.lt_or_ge j l.length with hlt | hge
    · rw [List.drop_eq_getElem_cons hlt, List.flatten_cons, List.length_append] at hm
      rw [List.drop_eq_getElem_cons hlt, List.flatten_cons, atI_get (t := .sl (.int .u8)) l j hlt, up1 j (by omega)]
      refine (ct (decide_eq_true (by omega))).trans ((ct (decide_eq_true (by omega))).trans ((ct (decide_eq_true (by omega))).trans ((ct (decide_eq_true (by omega))).trans ?_)))
      dsimp only
      rw [cat_l2 k l hl n (j + 1) (m ++ l[j]) hlt (by omega) (by rw [List.length_append]; omega), List.append_assoc]
    · have : j = l.length := by omega
      subst this
      rw [List.drop_length]
      refine (cf (decide_eq_false (by omega))).trans ?_
      simp
theorem cat_l0 (k : Nat) (l : List u8L) (hk : l.length < k) (hl : l.length ≤ 1048576) (ht : l.flatten.length ≤ 4194304) : ∀ (n j : Nat) (s : Int), j ≤ l.length → l.length - j < n → (0 ≤ s ∧ s + ((l.drop j).flatten.length : Int) ≤ 4194304) → F62_l0 k l n s (j : Int) = some l.flatten
  | 0, j, s, _, h, _ => by omega
  | n + 1, j, s, hj, h, hm => by
    rw [F62_l0]
    unfold F62_l0_T
    rcases Nat.lt_or_ge j l.length with hlt | hge
    · rw [List.drop_eq_getElem_cons hlt, List.flatten_cons, List.length_append] at hm
      rw [atI_get (t := .sl (.int .u8)) l j hlt, up1 j (by omega), i64_in (s + ((l[j].length : Nat) : Int)) (by omega)]
      refine (ct (decide_eq_true (by omega))).trans ((ct (decide_eq_true (by omega))).trans ((ct (decide_eq_true (by omega))).trans ((cf (decide_eq_false (by omega))).trans ?_)))
      exact cat_l0 k l hk hl ht n (j + 1) _ hlt (by omega) (by omega)
    · have : j = l.length := by omega
      subst this
      rw [List.drop_length] at hm
      refine (cf (decide_eq_false (by omega))).trans ?_
      refine (bs (F92_eq k s (by simp at hm; omega))).trans ?_
      have := cat_l2 k l hl k 0 [] (Nat.zero_le _) (by omega) (by rw [List.drop_zero]; simpa using ht)
      simpa using this
theorem cat_eq (k : Nat) (l : List u8L) (hk : l.length < k) (hl : l.length ≤ 1048576) (ht : l.flatten.length ≤ 4194304) : F62 k l = some l.flatten := by
  unfold F62 F62_T
  exact cat_l0 k l hk hl ht k 0 0 (Nat.zero_le _) (by omega) (by rw [List.drop_zero]; omega)
def u8v (v : Int) : den (.int .u8) := IntKind.u8.wrap v
def mkS (a5 a6 a7 a8 : Bool) : Int := (if a5 then 1 else 0) + (if a6 then 2 else 0) + (if a7 then 4 else 0) + (if a8 then 8 else 0)
def rgsB : rgL → u8L
  | [] => []
  | r :: l => by2 r.1 ++ by2 r.2 ++ rgsB l
def hdS (a0 a1 a2 a3 a4 : Int) (a5 a6 a7 a8 : Bool) (a9 : List (den rng)) (a10 : List (den (.int .u8))) : u8L := [u8v a0, u8v a1] ++ by2 a2 ++ by2 a3 ++ [u8v a4, u8v (mkS a5 a6 a7 a8), u8v ((a9.length : Nat) : Int)]
def bdS (a0 a1 a2 a3 a4 : Int) (a5 a6 a7 a8 : Bool) (a9 : List (den rng)) (a10 : List (den (.int .u8))) : u8L := hdS a0 a1 a2 a3 a4 a5 a6 a7 a8 a9 a10 ++ rgsB a9 ++ [u8v ((a10.length : Nat) : Int)] ++ a10
def sgB (a0 a1 a2 a3 a4 : Int) (a5 a6 a7 a8 : Bool) (a9 : List (den rng)) (a10 : List (den (.int .u8))) (f t : Int) : u8L := cond (okS a0 a1 a2 a3 a4 a5 a6 a7 a8 a9 a10 && inB f 0 65535 && inB t 0 65535) (bdS a0 a1 a2 a3 a4 a5 a6 a7 a8 a9 a10 ++ by2 (sumV (by2 f ++ by2 t ++ bdS a0 a1 a2 a3 a4 a5 a6 a7 a8 a9 a10))) []
theorem by2_len (v : Int) : (by2 v).length = 2 := rfl
theorem rgsB_len : ∀ l : rgL, (rgsB l).length = 4 * l.length
  | [] => rfl
  | r :: l => by
    have e : (rgsB (r :: l)).length = (rgsB l).length + 4 := rfl
    rw [e, rgsB_len l, List.length_cons]
    omega
theorem BOk.app {x y : u8L} (hx : BOk x) (hy : BOk y) : BOk (x ++ y) := fun z hz => (List.mem_append.1 hz).elim (hx z) (hy z)
theorem BOk.nil : BOk [] := fun z hz => by cases hz
theorem BOk.cons {v : Int} {x : u8L} (hx : BOk x) : BOk (u8v v :: x) := fun z hz => by
  rcases List.mem_cons.1 hz with rfl | hz
  · have e : u8v v = v % 256 := u8M v
    rw [e]
    exact ⟨show (0 : Int) ≤ v % 256 by omega, show v % 256 ≤ (255 : Int) by omega⟩
  · exact hx z hz
theorem by2_BOk {v : Int} (h : 0 ≤ v ∧ v ≤ 65535) : BOk (by2 v) := fun z hz => by
  rcases List.mem_cons.1 hz with rfl | hz
  · exact ⟨show (0 : Int) ≤ v / 256 by omega, show v / 256 ≤ (255 : Int) by omega⟩
  · obtain rfl := List.mem_singleton.1 hz
    exact ⟨show (0 : Int) ≤ v % 256 by omega, show v % 256 ≤ (255 : Int) by omega⟩
theorem rgsB_BOk : ∀ l : rgL, l.all rgB = true → BOk (rgsB l)
  | [], _ => BOk.nil
  | r :: l, h => by
    simp only [List.all_cons, Bool.and_eq_true, rgB, inB, decide_eq_true_eq] at h
    exact ((by2_BOk h.1.1).app (by2_BOk h.1.2)).app (rgsB_BOk l h.2)
theorem okS_all {a0 a1 a2 a3 a4 : Int} {a5 a6 a7 a8 : Bool} {a9 : List (den rng)} {a10 : List (den (.int .u8))} (h : okS a0 a1 a2 a3 a4 a5 a6 a7 a8 a9 a10 = true) : (1 ≤ a0 ∧ a0 ≤ 255) ∧ (1 ≤ a1 ∧ a1 ≤ 255) ∧ (0 ≤ a2 ∧ a2 ≤ 65535) ∧ (0 ≤ a3 ∧ a3 ≤ 65535) ∧ (0 ≤ a4 ∧ a4 ≤ 255) ∧ a9.length ≤ 2 ∧ a10.length ≤ 12 ∧ a9.all rgB = true := by
  unfold okS inB at h
  simp only [Bool.and_eq_true, Bool.not_eq_true', decide_eq_false_iff_not, decide_eq_true_eq] at h
  obtain ⟨⟨⟨⟨⟨⟨⟨q0, q1⟩, q2⟩, q3⟩, q4⟩, q5⟩, q6⟩, q7, _⟩ := h
  exact ⟨q0, q1, q2, q3, q4, by omega, by omega, q7⟩
theorem bdS_ok (a0 a1 a2 a3 a4 : Int) (a5 a6 a7 a8 : Bool) (a9 : List (den rng)) (a10 : List (den (.int .u8))) (h : okS a0 a1 a2 a3 a4 a5 a6 a7 a8 a9 a10 = true) (hb : BOk a10) : BOk (bdS a0 a1 a2 a3 a4 a5 a6 a7 a8 a9 a10) ∧ (bdS a0 a1 a2 a3 a4 a5 a6 a7 a8 a9 a10).length ≤ 30 := by
  obtain ⟨_, _, q2, q3, _, q5, q6, q7⟩ := okS_all h
  refine ⟨?_, ?_⟩
  · exact ((((((BOk.nil.cons.cons).app (by2_BOk q2)).app (by2_BOk q3)).app BOk.nil.cons.cons.cons).app (rgsB_BOk a9 q7)).app BOk.nil.cons).app hb
  · have hh : (hdS a0 a1 a2 a3 a4 a5 a6 a7 a8 a9 a10).length = 9 := rfl
    have hr := rgsB_len a9
    unfold bdS
    rw [List.length_append, List.length_append, List.length_append, hh, hr]
    show 9 + 4 * a9.length + 1 + a10.length ≤ 30
    omega
theorem F96_eq (k : Nat) (a0 a1 a2 a3 a4 : Int) (a5 a6 a7 a8 : Bool) (a9 : List (den rng)) (a10 : List (den (.int .u8))) : F96 k a0 a1 a2 a3 a4 a5 a6 a7 a8 a9 a10 = some (mkS a5 a6 a7 a8) := by
  unfold F96 F96_T mkS
  cases a5 <;> cases a6 <;> cases a7 <;> cases a8 <;> rfl
theorem F59_eq (k : Nat) (b : Bool) (v : Int) : F59 k b v = some (if b then v else 0) := by
  unfold F59
  cases b <;> rfl
theorem F97_eq (q : Nat) (f t : Int) (b : u8L) (hf : 0 ≤ f ∧ f ≤ 65535) (ht : 0 ≤ t ∧ t ≤ 65535) (hb : BOk b) (hl : b.length ≤ 1000) (hk : 1048576 < q + 4) : F97 (q + 4) f t b = some (sumV (by2 f ++ by2 t ++ b)) := by
  unfold F97 F97_T
  refine (bs (F95_eq q f hf)).trans ?_
  refine (bs (F95_eq q t ht)).trans ?_
  refine (ct (by rfl)).trans ?_
  have h4 : (by2 f ++ by2 t).length = 4 := rfl
  refine (ct (decide_eq_true (by rw [h4]; omega))).trans ?_
  refine (bs (F100_eq (q + 4) (by2 f ++ by2 t ++ b) (((by2_BOk hf).app (by2_BOk ht)).app hb) (by rw [List.length_append, h4]; omega) hk)).trans rfl
theorem sumV_in {l : u8L} (hb : BOk l) : 0 ≤ sumV l ∧ sumV l ≤ 65535 := by
  have := smV_in l 0 hb (by omega)
  unfold sumV
  omega
theorem specB_l (q : Nat) (a0 a1 a2 a3 a4 : Int) (a5 a6 a7 a8 : Bool) (a9 : List (den rng)) (a10 : List (den (.int .u8))) (f t : Int) (ho : okS a0 a1 a2 a3 a4 a5 a6 a7 a8 a9 a10 = true) (hb : BOk a10) (hf : 0 ≤ f ∧ f ≤ 65535) (ht : 0 ≤ t ∧ t ≤ 65535) (hk : 1048576 < q + 4) : ∀ (n j : Nat) (m : u8L), j ≤ a9.length → a9.length - j < n → BOk m → m.length + 4 * (a9.length - j) ≤ 90 →
    F71_l0 (q + 4) a0 a1 a2 a3 a4 a5 a6 a7 a8 a9 a10 f t n (j : Int) m = some ((m ++ rgsB (a9.drop j) ++ [u8v ((a10.length : Nat) : Int)] ++ a10) ++ by2 (sumV (by2 f ++ by2 t ++ (m ++ rgsB (a9.drop j) ++ [u8v ((a10.length : Nat) : Int)] ++ a10))))
  | 0, j, m, _, h, _, _ => by omega
  | n + 1, j, m, hj, h, hm, hml => by
    obtain ⟨_, _, q2, q3, _, q5, q6, q7⟩ := okS_all ho
    rw [F71_l0]
    unfold F71_l0_T
    rcases Nat.lt_or_ge j a9.length with hlt | hge
    · have hr : rgB a9[j] = true := List.all_eq_true.1 q7 _ (List.getElem_mem hlt)
      simp only [Bool.and_eq_true, rgB, inB, decide_eq_true_eq] at hr
      have d1 : decide ((j : Int) < ((a9.length : Nat) : Int)) = true := decide_eq_true (by omega)
      have d0 : decide ((0 : Int) ≤ ((j : Nat) : Int)) = true := decide_eq_true (by omega)
      rw [atI_get a9 j hlt, up1 j (by omega)]
      have l1 : ∀ v : Int, (m ++ by2 v).length = m.length + 2 := fun v => by rw [List.length_append]; rfl
      refine (ct d1).trans ((ct d0).trans ((ct d1).trans ?_))
      refine (bs (F95_eq q a9[j].1 hr.1)).trans ?_
      refine (ct (decide_eq_true (by show (m.length + 2) * 1 ≤ _; omega))).trans ((ct d0).trans ((ct d1).trans ?_))
      refine (bs (F95_eq q a9[j].2 hr.2)).trans ?_
      refine (ct (decide_eq_true (by rw [l1]; show (m.length + 2 + 2) * 1 ≤ _; omega))).trans ?_
      have := specB_l q a0 a1 a2 a3 a4 a5 a6 a7 a8 a9 a10 f t ho hb hf ht hk n (j + 1) (m ++ by2 a9[j].1 ++ by2 a9[j].2) hlt (by omega) ((hm.app (by2_BOk hr.1)).app (by2_BOk hr.2)) (by rw [List.length_append, l1]; show m.length + 2 + 2 + 4 * (a9.length - (j + 1)) ≤ 90; omega)
      dsimp only
      rw [this, List.drop_eq_getElem_cons hlt]
      simp only [rgsB, List.append_assoc]
    · have : j = a9.length := by omega
      subst this
      rw [List.drop_length]
      refine (cf (decide_eq_false (by omega))).trans ?_
      have e0 : (m ++ rgsB [] ++ [u8v ((a10.length : Nat) : Int)] ++ a10) = (m ++ [IntKind.u8.wrap ((a10.length : Nat) : Int)]) ++ a10 := by simp [rgsB, u8v]
      rw [e0]
      have hl1 : (m ++ [IntKind.u8.wrap ((a10.length : Nat) : Int)]).length = m.length + 1 := by rw [List.length_append]; rfl
      have hl2 : ((m ++ [IntKind.u8.wrap ((a10.length : Nat) : Int)]) ++ a10).length = m.length + 1 + a10.length := by rw [List.length_append, hl1]
      have hB : BOk ((m ++ [IntKind.u8.wrap ((a10.length : Nat) : Int)]) ++ a10) := (hm.app (BOk.nil.cons (v := ((a10.length : Nat) : Int)))).app hb
      refine (ct (decide_eq_true (by show (m.length + 1) * 1 ≤ _; omega))).trans ?_
      refine (ct (decide_eq_true (by rw [hl1]; omega))).trans ?_
      refine (bs (F97_eq q f t _ hf ht hB (by rw [hl2]; omega) hk)).trans ?_
      refine (bs (F95_eq q _ (sumV_in (((by2_BOk hf).app (by2_BOk ht)).app hB)))).trans ?_
      exact (ct (decide_eq_true (by rw [hl2]; show (m.length + 1 + a10.length + 2) * 1 ≤ _; omega))).trans rfl
theorem F71_eq (q : Nat) (a0 a1 a2 a3 a4 : Int) (a5 a6 a7 a8 : Bool) (a9 : List (den rng)) (a10 : List (den (.int .u8))) (f t : Int) (h9 : a9.length ≤ 1048576) (hb : BOk a10) (hk : 1048576 < q + 4) : F71 (q + 4) a0 a1 a2 a3 a4 a5 a6 a7 a8 a9 a10 f t = some (sgB a0 a1 a2 a3 a4 a5 a6 a7 a8 a9 a10 f t) := by
  unfold F71 F71_T sgB
  refine (bs (F50_eq (q + 4) a0 a1 a2 a3 a4 a5 a6 a7 a8 a9 a10 h9 (by omega))).trans ?_
  cases ho : okS a0 a1 a2 a3 a4 a5 a6 a7 a8 a9 a10 with
  | false => rfl
  | true =>
    refine (cf rfl).trans ?_
    refine (bs (F51_eq (q + 4) f 0 65535)).trans ?_
    cases hf : inB f 0 65535 with
    | false => rfl
    | true =>
      refine (cf rfl).trans ?_
      refine (bs (F51_eq (q + 4) t 0 65535)).trans ?_
      cases ht : inB t 0 65535 with
      | false => rfl
      | true =>
        have hf : 0 ≤ f ∧ f ≤ 65535 := by simpa [inB] using hf
        have ht : 0 ≤ t ∧ t ≤ 65535 := by simpa [inB] using ht
        obtain ⟨_, _, q2, q3, _, q5, q6, q7⟩ := okS_all ho
        refine (cf rfl).trans ?_
        refine (bs (F95_eq q a2 q2)).trans ?_
        refine (ct rfl).trans ?_
        refine (bs (F95_eq q a3 q3)).trans ?_
        refine (ct rfl).trans ?_
        refine (bs (F96_eq (q + 4) a0 a1 a2 a3 a4 a5 a6 a7 a8 a9 a10)).trans ?_
        refine (ct rfl).trans ?_
        have hh : (hdS a0 a1 a2 a3 a4 a5 a6 a7 a8 a9 a10).length = 9 := rfl
        have hB : BOk (hdS a0 a1 a2 a3 a4 a5 a6 a7 a8 a9 a10) := (((BOk.nil.cons.cons).app (by2_BOk q2)).app (by2_BOk q3)).app BOk.nil.cons.cons.cons
        have := specB_l q a0 a1 a2 a3 a4 a5 a6 a7 a8 a9 a10 f t ho hb hf ht hk (q + 4) 0 (hdS a0 a1 a2 a3 a4 a5 a6 a7 a8 a9 a10) (Nat.zero_le _) (by omega) hB (by rw [hh]; omega)
        rw [List.drop_zero] at this
        exact this
theorem F104_eq (q : Nat) (f t : Int) (hf : 0 ≤ f ∧ f ≤ 65535) (ht : 0 ≤ t ∧ t ≤ 65535) : F104 (q + 4) f t = some (by2 f ++ by2 t) := by
  unfold F104
  refine (bs (F91_eq q f hf)).trans ?_
  refine (bs (F91_eq q t ht)).trans ?_
  have := cat_eq (q + 4) [by2 f, by2 t] (show 2 < q + 4 by omega) (by show 2 ≤ 1048576; omega) (by show 4 ≤ 4194304; omega)
  refine (bs this).trans ?_
  simp
theorem body_l (q : Nat) (a0 a1 a2 a3 a4 : Int) (a5 a6 a7 a8 : Bool) (a9 : List (den rng)) (a10 : List (den (.int .u8))) (ho : okS a0 a1 a2 a3 a4 a5 a6 a7 a8 a9 a10 = true) (hq : 10 < q) : ∀ (n j : Nat) (m : u8L), j ≤ a9.length → a9.length - j < n → m.length + 4 * (a9.length - j) ≤ 90 →
    F102_l0 (q + 4) a0 a1 a2 a3 a4 a5 a6 a7 a8 a9 a10 n (j : Int) m = some (m ++ rgsB (a9.drop j) ++ [u8v ((a10.length : Nat) : Int)] ++ a10)
  | 0, j, m, _, h, _ => by omega
  | n + 1, j, m, hj, h, hml => by
    obtain ⟨_, _, q2, q3, _, q5, q6, q7⟩ := okS_all ho
    rw [F102_l0]
    unfold F102_l0_T
    rcases Nat.lt_or_ge j a9.length with hlt | hge
    · have hr : rgB a9[j] = true := List.all_eq_true.1 q7 _ (List.getElem_mem hlt)
      simp only [Bool.and_eq_true, rgB, inB, decide_eq_true_eq] at hr
      have d1 : decide ((j : Int) < ((a9.length : Nat) : Int)) = true := decide_eq_true (by omega)
      have d0 : decide ((0 : Int) ≤ ((j : Nat) : Int)) = true := decide_eq_true (by omega)
      rw [atI_get a9 j hlt, up1 j (by omega)]
      have fl : [m, by2 a9[j].1, by2 a9[j].2].flatten = m ++ by2 a9[j].1 ++ by2 a9[j].2 := by simp
      have fll : (m ++ by2 a9[j].1 ++ by2 a9[j].2).length = m.length + 4 := by rw [List.length_append, List.length_append]; rfl
      refine (ct d1).trans ((ct d0).trans ((ct d1).trans ?_))
      refine (bs (F91_eq q a9[j].1 hr.1)).trans ?_
      refine (bs (F91_eq q a9[j].2 hr.2)).trans ?_
      have := cat_eq (q + 4) [m, by2 a9[j].1, by2 a9[j].2] (show 3 < q + 4 by omega) (by show 3 ≤ 1048576; omega) (by rw [fl, fll]; omega)
      rw [fl] at this
      refine (bs this).trans ?_
      have := body_l q a0 a1 a2 a3 a4 a5 a6 a7 a8 a9 a10 ho hq n (j + 1) (m ++ by2 a9[j].1 ++ by2 a9[j].2) hlt (by omega) (by rw [fll]; omega)
      dsimp only
      rw [this, List.drop_eq_getElem_cons hlt]
      simp only [rgsB, List.append_assoc]
    · have : j = a9.length := by omega
      subst this
      rw [List.drop_length]
      refine (cf (decide_eq_false (by omega))).trans ?_
      have fl : [m, [IntKind.u8.wrap ((a10.length : Nat) : Int)], a10].flatten = m ++ rgsB [] ++ [u8v ((a10.length : Nat) : Int)] ++ a10 := by simp [rgsB, u8v]
      have fll : (m ++ rgsB [] ++ [u8v ((a10.length : Nat) : Int)] ++ a10).length = m.length + 1 + a10.length := by rw [List.length_append, List.length_append, List.length_append]; rfl
      have := cat_eq (q + 4) [m, [IntKind.u8.wrap ((a10.length : Nat) : Int)], a10] (show 3 < q + 4 by omega) (by show 3 ≤ 1048576; omega) (by rw [fl, fll]; omega)
      rw [fl] at this
      exact (bs this).trans rfl
theorem F102_eq (q : Nat) (a0 a1 a2 a3 a4 : Int) (a5 a6 a7 a8 : Bool) (a9 : List (den rng)) (a10 : List (den (.int .u8))) (ho : okS a0 a1 a2 a3 a4 a5 a6 a7 a8 a9 a10 = true) (hq : 10 < q) : F102 (q + 4) a0 a1 a2 a3 a4 a5 a6 a7 a8 a9 a10 = some (bdS a0 a1 a2 a3 a4 a5 a6 a7 a8 a9 a10) := by
  obtain ⟨_, _, q2, q3, _, q5, q6, q7⟩ := okS_all ho
  unfold F102 F102_T
  simp only [F59_eq, Option.bind_some]
  refine (bs (F91_eq q a2 q2)).trans ?_
  refine (bs (F91_eq q a3 q3)).trans ?_
  have hm : IntKind.i64.wrap ((IntKind.i64.wrap ((IntKind.i64.wrap ((if a5 = true then 1 else 0) + (if a6 = true then 2 else 0))) + (if a7 = true then 4 else 0))) + (if a8 = true then 8 else 0)) = mkS a5 a6 a7 a8 := by
    unfold mkS
    cases a5 <;> cases a6 <;> cases a7 <;> cases a8 <;> decide
  rw [hm]
  have := cat_eq (q + 4) [[IntKind.u8.wrap a0, IntKind.u8.wrap a1], by2 a2, by2 a3, [IntKind.u8.wrap a4, IntKind.u8.wrap (mkS a5 a6 a7 a8), IntKind.u8.wrap ((a9.length : Nat) : Int)]] (show 4 < q + 4 by omega) (by show 4 ≤ 1048576; omega) (by show 9 ≤ 4194304; omega)
  refine (bs this).trans ?_
  have hh : (hdS a0 a1 a2 a3 a4 a5 a6 a7 a8 a9 a10).length = 9 := rfl
  have e : [[IntKind.u8.wrap a0, IntKind.u8.wrap a1], by2 a2, by2 a3, [IntKind.u8.wrap a4, IntKind.u8.wrap (mkS a5 a6 a7 a8), IntKind.u8.wrap ((a9.length : Nat) : Int)]].flatten = hdS a0 a1 a2 a3 a4 a5 a6 a7 a8 a9 a10 := rfl
  rw [e]
  have := body_l q a0 a1 a2 a3 a4 a5 a6 a7 a8 a9 a10 ho hq (q + 4) 0 (hdS a0 a1 a2 a3 a4 a5 a6 a7 a8 a9 a10) (Nat.zero_le _) (by omega) (by rw [hh]; omega)
  rw [List.drop_zero] at this
  exact this
theorem F74_eq (q : Nat) (a0 a1 a2 a3 a4 : Int) (a5 a6 a7 a8 : Bool) (a9 : List (den rng)) (a10 : List (den (.int .u8))) (f t : Int) (h9 : a9.length ≤ 1048576) (hb : BOk a10) (hk : 1048576 < q + 4) : F74 (q + 4) a0 a1 a2 a3 a4 a5 a6 a7 a8 a9 a10 f t = some (sgB a0 a1 a2 a3 a4 a5 a6 a7 a8 a9 a10 f t) := by
  unfold F74 F74_T sgB
  refine (bs (F14_eq (q + 4) a0 a1 a2 a3 a4 a5 a6 a7 a8 a9 a10 h9 (by omega))).trans ?_
  cases ho : okS a0 a1 a2 a3 a4 a5 a6 a7 a8 a9 a10 with
  | false => rfl
  | true =>
    refine (cf rfl).trans ?_
    refine (bs (F55_eq (q + 4) f)).trans ?_
    cases hf : inB f 0 65535 with
    | false => rfl
    | true =>
      refine (cf rfl).trans ?_
      refine (bs (F55_eq (q + 4) t)).trans ?_
      cases ht : inB t 0 65535 with
      | false => rfl
      | true =>
        have hf : 0 ≤ f ∧ f ≤ 65535 := by simpa [inB] using hf
        have ht : 0 ≤ t ∧ t ≤ 65535 := by simpa [inB] using ht
        obtain ⟨hB, hL⟩ := bdS_ok a0 a1 a2 a3 a4 a5 a6 a7 a8 a9 a10 ho hb
        refine (cf rfl).trans ?_
        refine (bs (F102_eq q a0 a1 a2 a3 a4 a5 a6 a7 a8 a9 a10 ho (by omega))).trans ?_
        refine (bs (F104_eq q f t hf ht)).trans ?_
        have h4 : (by2 f ++ by2 t).length = 4 := rfl
        have f1 : [by2 f ++ by2 t, bdS a0 a1 a2 a3 a4 a5 a6 a7 a8 a9 a10].flatten = by2 f ++ by2 t ++ bdS a0 a1 a2 a3 a4 a5 a6 a7 a8 a9 a10 := by simp
        have l1 : (by2 f ++ by2 t ++ bdS a0 a1 a2 a3 a4 a5 a6 a7 a8 a9 a10).length = 4 + (bdS a0 a1 a2 a3 a4 a5 a6 a7 a8 a9 a10).length := by rw [List.length_append, h4]
        have B1 : BOk (by2 f ++ by2 t ++ bdS a0 a1 a2 a3 a4 a5 a6 a7 a8 a9 a10) := ((by2_BOk hf).app (by2_BOk ht)).app hB
        have c1 := cat_eq (q + 4) [by2 f ++ by2 t, bdS a0 a1 a2 a3 a4 a5 a6 a7 a8 a9 a10] (show 2 < q + 4 by omega) (by show 2 ≤ 1048576; omega) (by rw [f1, l1]; omega)
        rw [f1] at c1
        refine (bs c1).trans ?_
        refine (bs (F103_eq q _ B1 (by rw [l1]; omega))).trans ?_
        refine (bs (F91_eq q _ (sumV_in B1))).trans ?_
        have f2 : ∀ v, [bdS a0 a1 a2 a3 a4 a5 a6 a7 a8 a9 a10, by2 v].flatten = bdS a0 a1 a2 a3 a4 a5 a6 a7 a8 a9 a10 ++ by2 v := fun v => by simp
        have l2 : ∀ v, (bdS a0 a1 a2 a3 a4 a5 a6 a7 a8 a9 a10 ++ by2 v).length = (bdS a0 a1 a2 a3 a4 a5 a6 a7 a8 a9 a10).length + 2 := fun v => by rw [List.length_append]; rfl
        have c2 := cat_eq (q + 4) [bdS a0 a1 a2 a3 a4 a5 a6 a7 a8 a9 a10, by2 (sumV (by2 f ++ by2 t ++ bdS a0 a1 a2 a3 a4 a5 a6 a7 a8 a9 a10))] (show 2 < q + 4 by omega) (by show 2 ≤ 1048576; omega) (by rw [f2, l2]; omega)
        rw [f2] at c2
        exact (bs c2).trans rfl
def pkOk (p0 p1 p2 p3 p4 p5 : Int) (p6 p7 : Bool) (p8 : u8L) : Bool :=
  inB p0 0 65535 && inB p1 0 65535 && inB p2 0 255 && inB p3 0 255 && inB p4 0 255 && inB p5 0 255 && decide (((p8.length : Nat) : Int) ≤ 48) && (!p6 || decide (((p8.length : Nat) : Int) > 0)) && (!p7 || (p5 == 0 && !p6))
theorem F98_eq (k : Nat) (p0 p1 p2 p3 p4 p5 : Int) (p6 p7 : Bool) (p8 : u8L) : F98 k p0 p1 p2 p3 p4 p5 p6 p7 p8 = some (pkOk p0 p1 p2 p3 p4 p5 p6 p7 p8) := by
  simp only [F98, F98_T, F51_eq, Option.bind_some, pkOk]
  cases inB p0 0 65535 <;> try rfl
  cases inB p1 0 65535 <;> try rfl
  cases inB p2 0 255 <;> try rfl
  cases inB p3 0 255 <;> try rfl
  cases inB p4 0 255 <;> try rfl
  cases inB p5 0 255 <;> try rfl
  cases decide (((p8.length : Nat) : Int) ≤ 48) <;> try rfl
  cases p6 <;> cases p7 <;> cases decide (((p8.length : Nat) : Int) > 0) <;> cases (p5 == 0) <;> rfl
theorem F105_eq (k : Nat) (p0 p1 p2 p3 p4 p5 : Int) (p6 p7 : Bool) (p8 : u8L) : F105 k p0 p1 p2 p3 p4 p5 p6 p7 p8 = some (pkOk p0 p1 p2 p3 p4 p5 p6 p7 p8) := by
  simp only [F105, F105_T, F55_eq, F45_eq, Option.bind_some, pkOk]
  cases inB p0 0 65535 <;> try rfl
  cases inB p1 0 65535 <;> try rfl
  cases inB p2 0 255 <;> try rfl
  cases inB p3 0 255 <;> try rfl
  cases inB p4 0 255 <;> try rfl
  cases inB p5 0 255 <;> try rfl
  cases decide (((p8.length : Nat) : Int) ≤ 48) <;> try rfl
  cases p6 <;> cases p7 <;> cases decide (((p8.length : Nat) : Int) > 0) <;> cases (p5 == 0) <;> rfl
def flP (p6 p7 : Bool) : Int := (if p6 then 1 else 0) + (if p7 then 2 else 0)
def hdP (p0 p1 p2 p3 p4 p5 : Int) (p6 p7 : Bool) (p8 : u8L) : u8L := by2 p0 ++ by2 p1 ++ [u8v p2, u8v p3, u8v p4, u8v p5, u8v (flP p6 p7), u8v ((p8.length : Nat) : Int)]
def pkB (p0 p1 p2 p3 p4 p5 : Int) (p6 p7 : Bool) (p8 : u8L) : u8L := cond (pkOk p0 p1 p2 p3 p4 p5 p6 p7 p8) (hdP p0 p1 p2 p3 p4 p5 p6 p7 p8 ++ by2 (sumV (hdP p0 p1 p2 p3 p4 p5 p6 p7 p8)) ++ p8) []
theorem hdP_ok {p0 p1 : Int} (p2 p3 p4 p5 : Int) (p6 p7 : Bool) (p8 : u8L) (h0 : 0 ≤ p0 ∧ p0 ≤ 65535) (h1 : 0 ≤ p1 ∧ p1 ≤ 65535) : BOk (hdP p0 p1 p2 p3 p4 p5 p6 p7 p8) := ((by2_BOk h0).app (by2_BOk h1)).app BOk.nil.cons.cons.cons.cons.cons.cons
theorem F72_eq (q : Nat) (p0 p1 p2 p3 p4 p5 : Int) (p6 p7 : Bool) (p8 : u8L) (hk : 1048576 < q + 4) : F72 (q + 4) p0 p1 p2 p3 p4 p5 p6 p7 p8 = some (pkB p0 p1 p2 p3 p4 p5 p6 p7 p8) := by
  unfold F72 F72_T F99 F99_T pkB
  refine (bs (F98_eq (q + 4) p0 p1 p2 p3 p4 p5 p6 p7 p8)).trans ?_
  cases ho : pkOk p0 p1 p2 p3 p4 p5 p6 p7 p8 with
  | false => rfl
  | true =>
    have hb : (0 ≤ p0 ∧ p0 ≤ 65535) ∧ (0 ≤ p1 ∧ p1 ≤ 65535) ∧ p8.length ≤ 48 := by
      simp only [pkOk, inB, Bool.and_eq_true, decide_eq_true_eq] at ho
      omega
    obtain ⟨h0, h1, h8⟩ := hb
    have hB := hdP_ok p2 p3 p4 p5 p6 p7 p8 h0 h1
    have hL : (hdP p0 p1 p2 p3 p4 p5 p6 p7 p8).length = 10 := rfl
    have fl : F115 (q + 4) p0 p1 p2 p3 p4 p5 p6 p7 p8 = some (flP p6 p7) := by unfold F115 flP; cases p6 <;> cases p7 <;> rfl
    refine (cf rfl).trans ?_
    have hd : ((F95 (q + 4) p0 2).bind fun b1 => (F95 (q + 4) p1 2).bind fun b2 => cond (decide ((b1.length + b2.length) * 1 ≤ 140737488355328)) ((F115 (q + 4) p0 p1 p2 p3 p4 p5 p6 p7 p8).bind fun b3 =>
        cond (decide (((b1 ++ b2).length + [IntKind.u8.wrap p2, IntKind.u8.wrap p3, IntKind.u8.wrap p4, IntKind.u8.wrap p5, IntKind.u8.wrap b3, IntKind.u8.wrap ((p8.length : Nat) : Int)].length) * 1 ≤ 140737488355328))
          (some ((b1 ++ b2) ++ [IntKind.u8.wrap p2, IntKind.u8.wrap p3, IntKind.u8.wrap p4, IntKind.u8.wrap p5, IntKind.u8.wrap b3, IntKind.u8.wrap ((p8.length : Nat) : Int)])) none) none) = some (hdP p0 p1 p2 p3 p4 p5 p6 p7 p8) := by
      refine (bs (F95_eq q p0 h0)).trans ?_
      refine (bs (F95_eq q p1 h1)).trans ?_
      refine (ct rfl).trans ?_
      refine (bs fl).trans ?_
      exact (ct rfl).trans rfl
    refine (bs hd).trans ?_
    refine (bs (F100_eq (q + 4) _ hB (by rw [hL]; omega) hk)).trans ?_
    refine (bs (F95_eq q _ (sumV_in hB))).trans ?_
    refine (ct (decide_eq_true (by rw [hL]; show (10 + 2) * 1 ≤ 140737488355328; omega))).trans ?_
    have h12 : ∀ v, (hdP p0 p1 p2 p3 p4 p5 p6 p7 p8 ++ by2 v).length = 12 := fun v => rfl
    exact (ct (decide_eq_true (by rw [h12]; omega))).trans rfl
theorem F75_eq (q : Nat) (p0 p1 p2 p3 p4 p5 : Int) (p6 p7 : Bool) (p8 : u8L) (hq : 10 < q) : F75 (q + 4) p0 p1 p2 p3 p4 p5 p6 p7 p8 = some (pkB p0 p1 p2 p3 p4 p5 p6 p7 p8) := by
  unfold F75 F75_T pkB
  refine (bs (F105_eq (q + 4) p0 p1 p2 p3 p4 p5 p6 p7 p8)).trans ?_
  cases ho : pkOk p0 p1 p2 p3 p4 p5 p6 p7 p8 with
  | false => rfl
  | true =>
    have hb : (0 ≤ p0 ∧ p0 ≤ 65535) ∧ (0 ≤ p1 ∧ p1 ≤ 65535) ∧ p8.length ≤ 48 := by
      simp only [pkOk, inB, Bool.and_eq_true, decide_eq_true_eq] at ho
      omega
    obtain ⟨h0, h1, h8⟩ := hb
    have hB := hdP_ok p2 p3 p4 p5 p6 p7 p8 h0 h1
    have hL : (hdP p0 p1 p2 p3 p4 p5 p6 p7 p8).length = 10 := rfl
    refine (cf rfl).trans ?_
    have pk : F106 (q + 4) p0 p1 p2 p3 p4 p5 p6 p7 p8 = some (hdP p0 p1 p2 p3 p4 p5 p6 p7 p8 ++ by2 (sumV (hdP p0 p1 p2 p3 p4 p5 p6 p7 p8)) ++ p8) := by
      unfold F106 F106_T
      refine (bs (F91_eq q p0 h0)).trans ?_
      refine (bs (F91_eq q p1 h1)).trans ?_
      refine (bs (F59_eq (q + 4) p6 1)).trans ?_
      refine (bs (F59_eq (q + 4) p7 2)).trans ?_
      have hm : IntKind.i64.wrap ((if p6 = true then 1 else 0) + (if p7 = true then 2 else 0)) = flP p6 p7 := by unfold flP; cases p6 <;> cases p7 <;> decide
      rw [hm]
      have c1 := cat_eq (q + 4) [by2 p0, by2 p1, [IntKind.u8.wrap p2, IntKind.u8.wrap p3, IntKind.u8.wrap p4, IntKind.u8.wrap p5, IntKind.u8.wrap (flP p6 p7), IntKind.u8.wrap ((p8.length : Nat) : Int)]] (show 3 < q + 4 by omega) (by show 3 ≤ 1048576; omega) (by show 10 ≤ 4194304; omega)
      have e1 : [by2 p0, by2 p1, [IntKind.u8.wrap p2, IntKind.u8.wrap p3, IntKind.u8.wrap p4, IntKind.u8.wrap p5, IntKind.u8.wrap (flP p6 p7), IntKind.u8.wrap ((p8.length : Nat) : Int)]].flatten = hdP p0 p1 p2 p3 p4 p5 p6 p7 p8 := rfl
      rw [e1] at c1
      refine (bs c1).trans ?_
      refine (bs (F103_eq q _ hB (by rw [hL]; omega))).trans ?_
      refine (bs (F91_eq q _ (sumV_in hB))).trans ?_
      have f2 : ∀ v, [hdP p0 p1 p2 p3 p4 p5 p6 p7 p8, by2 v, p8].flatten = hdP p0 p1 p2 p3 p4 p5 p6 p7 p8 ++ by2 v ++ p8 := fun v => by simp
      have h12 : ∀ v, (hdP p0 p1 p2 p3 p4 p5 p6 p7 p8 ++ by2 v).length = 12 := fun v => rfl
      have c2 := cat_eq (q + 4) [hdP p0 p1 p2 p3 p4 p5 p6 p7 p8, by2 (sumV (hdP p0 p1 p2 p3 p4 p5 p6 p7 p8)), p8] (show 3 < q + 4 by omega) (by show 3 ≤ 1048576; omega) (by rw [f2, List.length_append, h12]; omega)
      rw [f2] at c2
      exact (bs c2).trans rfl
    exact (bs pk).trans rfl
end Go.Proofs.Ytnagpaikjikhaaa.Gn
end
