/-
  What the proof of this row needs, part 4: the typed evaluator of the translated code, the functions that the law reaches as plain functions, and what they answer.
-/
import Derived.RangeFuncBox
import Derived.RangeFuncLeaves
import Derived.Shelf.Abstract
import Derived.WalkKit
import Derived.OwnWalkIn
import Derived.TacticsInMore
import Derived.LoopNIn
import Derived.LoopIn
import Derived.Test.YtnagpaikjikhaaaChecked
import Derived.KernelRfl
import Derived.Test.YtnagpaikjikhaaaA3
section
namespace Go.Proofs.Ytnagpaikjikhaaa.It
open Go.RowKit Go.Shelf Go.Rf
attribute [local go_sem] Oper.semAt_some
set_option linter.unusedVariables false
set_option maxRecDepth 100000 in
set_option maxHeartbeats 2000000 in
theorem mk (w : World) (a : Option Addr) (len cap : Nat) (n : Int) (hn : 1 ≤ n) : CallsIn Fence.wide 1 Try.prog 47 #[.slice a len cap, .int .i64 n] w fun e w' =>
    e = .returned (.func (.func 89) #[] #[.pointer (some ⟨w.heap.size, 0, none⟩), .pointer (some ⟨w.heap.size + 1, 0, none⟩)]) ∧ w' = (w.alloc (.cells #[.slice a len cap] 22)).alloc (.cells #[.int .i64 n] 3) := by
  have hlt : (decide (n < 1)) = false := decide_eq_false (by omega)
  refine callsIn_of_wp Try.func47 rfl trivial ?_ rfl
  simp only [Try.ntmps47, List.size_toArray, List.length_cons, List.length_nil, Nat.reduceAdd, Nat.reduceSub, Array.replicate_succ, Array.replicate_zero, List.push_toArray, List.append_toArray, List.nil_append, List.cons_append]
  gi_wp2
  go_ret
  exact ⟨rfl, rfl⟩
set_option maxRecDepth 100000 in
set_option maxHeartbeats 4000000 in
theorem it (lp N : Nat) (a : Option Addr) (len cap b1 b2 : Nat) (J : Nat → World → Prop) (W : World) (hN : 1 ≤ N) (hl : len ≤ 140737488355328) (hN2 : (N : Int) ≤ 9223372036854775807) (hc : len ≤ cap) (ha : a = none → len = 0)
    (hJ : ∀ j W, J j W → W.cell? ⟨b1, 0, none⟩ = some (.slice a len cap) ∧ W.cell? ⟨b2, 0, none⟩ = some (.int .i64 (N : Int))) (hd : ∀ j W, J j W → J j { W with drawn := W.drawn + 1 })
    (hY : ∀ j W, j * N < len → J j W → YieldAt Fence.wide 0 Try.prog lp #[.slice (a.map (·.add (j * N * 1))) (min N (len - j * N)) (min N (len - j * N))] W fun e W' => e = .returned (.bool true) ∧ J (j + 1) W') (h0 : J 0 W) :
    CallsIn Fence.wide 1 Try.prog 89 #[.func (.yield lp) #[] #[], .pointer (some ⟨b1, 0, none⟩), .pointer (some ⟨b2, 0, none⟩)] W fun e W' => (∃ v, e = .returned v) ∧ J ((len + N - 1) / N) W' := by
  refine callsIn_of_wp Try.func89 rfl trivial ?_ rfl
  simp only [Try.ntmps89, List.size_toArray, List.length_cons, List.length_nil, Nat.reduceAdd, Nat.reduceSub, Array.replicate_succ, Array.replicate_zero, List.push_toArray, List.append_toArray, List.nil_append, List.cons_append]
  gi_wp2
  gi_loopw [4] (fun i wr => ∃ k : Nat, i = .int .i64 ((k * N : Nat) : Int) ∧ (k = 0 ∨ (k - 1) * N < len) ∧ J k wr) (fun i _ => len + N - (intOf i).toNat)
  case atStart => exact ⟨0, by simp, .inl rfl, h0⟩
  case round =>
    obtain ⟨k, rfl, hk, hJs⟩ := hrel
    obtain ⟨hc1, hc2⟩ := hJ k wr hJs
    by_cases hlt : k * N < len
    · obtain ⟨⟨ab, ao, asp⟩, rfl⟩ : ∃ ad, a = some ad := by
        cases a with
        | none => exact absurd (ha rfl) (by omega)
        | some ad => exact ⟨ad, rfl⟩
      have hkn : ((k : Int) * (N : Int)) < (len : Int) := by exact_mod_cast hlt
      have hkc : ((k : Int) * (N : Int)) ≤ (cap : Int) := by omega
      have hk0 : (0 : Int) ≤ (k : Int) * (N : Int) := by exact_mod_cast Nat.zero_le (k * N)
      gi_wp2
      gi_region
      have hm : (if len - k * N < N then ((len - k * N : Nat) : Int) else ((N : Nat) : Int)) = ((min N (len - k * N) : Nat) : Int) := by split <;> omega
      rw [hm]
      obtain ⟨hc3, hc4⟩ := hJ k wr.drew (hd k wr hJs)
      obtain ⟨fn, tmps, assign, body, hy, hR⟩ := hY k wr.drew hlt (hd k wr hJs)
      simp only [Option.map_some, Nat.mul_one] at hy
      have he1 : 1 ≤ min N (len - k * N) := by omega
      have he2 : k * N + min N (len - k * N) ≤ len := by omega
      have he3 : min N (len - k * N) ≤ N := by omega
      generalize min N (len - k * N) = e at *
      have he4 : ((k : Int) * (N : Int)) + (e : Int) ≤ (cap : Int) := by have : ((k * N + e : Nat) : Int) ≤ (len : Int) := by exact_mod_cast he2
                                                                         push_cast at this; omega
      gi_wp2
      refine hR.mono ?_
      rintro e' W3 ⟨rfl, hJ3⟩
      obtain ⟨hc5, hc6⟩ := hJ (k + 1) W3 hJ3
      have hk2 : k = 0 ∨ ((k : Int) * (N : Int)) + (N : Int) ≤ 9223372036854775807 := by
        rcases Nat.eq_zero_or_pos k with h | h
        · exact .inl h
        · right
          have : N ≤ k * N := Nat.le_mul_of_pos_left N h
          have : ((k * N : Nat) : Int) + (N : Int) ≤ 9223372036854775807 := by omega
          push_cast at this
          exact this
      have hk3 : ((k : Int) * (N : Int)) + (N : Int) ≤ 9223372036854775807 := by
        rcases hk2 with rfl | h
        · simpa using hN2
        · exact h
      gi_wp2
      go_roundw
      case rel =>
        refine ⟨k + 1, ?_, .inr (by simpa using hlt), hJ3⟩
        congr 1
        rw [Nat.add_mul]
        push_cast
        omega
      case measure =>
        simp [RowKit.intOf]
        have e1 : ((k : Int) * (N : Int)) = ((k * N : Nat) : Int) := by push_cast; rfl
        rw [e1]
        generalize k * N = q at *
        omega
    · have hkn : ¬ ((k : Int) * (N : Int)) < (len : Int) := by exact_mod_cast hlt
      gi_wp2
      go_end0
      refine ⟨⟨_, rfl⟩, ?_⟩
      have : (len + N - 1) / N = k := by
        rcases hk with rfl | hk
        · have : len = 0 := by omega
          subst this
          rw [Nat.zero_add]
          exact Nat.div_eq_of_lt (by omega)
        · have h1 : 1 ≤ k := by
            rcases Nat.eq_zero_or_pos k with rfl | h
            · simp at hk hlt; omega
            · exact h
          obtain ⟨m, rfl⟩ : ∃ m, k = m + 1 := ⟨k - 1, by omega⟩
          rw [Nat.add_sub_cancel] at hk
          have h2 : (m + 1) * N = m * N + N := Nat.succ_mul m N
          rw [h2] at hlt
          refine Nat.div_eq_of_lt_le ?_ ?_
          · rw [h2]; omega
          · rw [Nat.succ_mul, h2]; omega
      rw [this]
      exact hJs
theorem mkOk : ItMk Try.prog 47 89 := ⟨FnOk.of (by kernel_rfl), fun w a len cap n hn => Calls.mono (callsIn_wide.1 (mk w a len cap n hn)) fun e w' ⟨h1, h2⟩ => by
  subst h2
  have hs : ((w.alloc (.cells #[.slice a len cap] 22)).alloc (.cells #[.int .i64 n] 3)).heap.size = w.heap.size + 2 := by simp
  have c1 : (w.alloc (.cells #[.slice a len cap] 22)).heap[w.heap.size]? = some (.cells #[.slice a len cap] 22) := World.alloc_heap_new w _
  have c2 : ((w.alloc (.cells #[.slice a len cap] 22)).alloc (.cells #[.int .i64 n] 3)).heap[w.heap.size + 1]? = some (.cells #[.int .i64 n] 3) := by
    have := World.alloc_heap_new (w.alloc (.cells #[.slice a len cap] 22)) (.cells #[.int .i64 n] 3); rwa [World.size_alloc] at this
  have c3 : ((w.alloc (.cells #[.slice a len cap] 22)).alloc (.cells #[.int .i64 n] 3)).heap[w.heap.size]? = some (.cells #[.slice a len cap] 22) := (Below.heap_alloc _ _ _ (by simp)).trans c1
  refine ⟨w.heap.size, w.heap.size + 1, h1, ⟨by omega, by omega⟩, ⟨by omega, by omega⟩, by simp only [cellAt, World.cell?]; rw [c3]; rfl, by simp only [cellAt, World.cell?]; rw [c2]; rfl, fun q hq => (Below.heap_alloc _ _ _ (by simp; omega)).trans (Below.heap_alloc _ _ _ hq), by omega, ⟨rfl, rfl, rfl⟩⟩⟩
theorem itOk : ItOk Try.prog 89 (.int .u8) := ⟨FnOk.of (by kernel_rfl), fun lp n a len cap b1 b2 J W hn hl hc ha hJ hd hY h0 => by
  obtain ⟨N, rfl⟩ := Int.eq_ofNat_of_zero_le (show 0 ≤ n by have := hn.1; omega)
  exact it lp N a len cap b1 b2 J W (by have := hn.1; omega) hl hn.2 hc ha hJ hd hY h0⟩
end Go.Proofs.Ytnagpaikjikhaaa.It
end

section
set_option linter.unusedVariables false
set_option linter.unusedSimpArgs false
namespace Go.Proofs.Ytnagpaikjikhaaa.Gn
open Go.Rf
abbrev rng : Ty := (.pair (.int .i64) (.int .i64))
abbrev seg : Ty := (.pair (.int .i64) (.pair (.int .i64) (.pair (.int .i64) (.pair (.int .i64) (.pair (.int .i64) (.pair .bool (.pair .bool (.pair .bool (.pair .bool (.pair (.sl rng) (.sl (.int .u8))))))))))))
def tyT : List (Nat × TyI) := [(3, ⟨(.int .i64), false, 0⟩), (4, ⟨.bool, false, 0⟩), (5, ⟨(.int .u8), false, 0⟩), (9, ⟨.str, false, 0⟩), (22, ⟨(.sl (.int .u8)), false, 1⟩), (23, ⟨(.sl rng), false, 16⟩), (25, ⟨seg, true, 0⟩), (41, ⟨(.sl rng), false, 16⟩), (43, ⟨seg, true, 0⟩), (75, ⟨rng, true, 0⟩), (87, ⟨(.pair (.int .i64) (.pair (.int .i64) (.pair (.int .i64) (.pair (.int .i64) (.pair (.int .i64) (.pair (.int .i64) (.pair .bool (.pair .bool (.sl (.int .u8)))))))))), true, 0⟩), (90, ⟨(.pair (.int .i64) (.pair (.int .i64) (.pair (.int .i64) (.sl (.int .u8))))), true, 0⟩), (98, ⟨(.pair (.sl (.int .u8)) (.int .i64)), true, 0⟩), (102, ⟨(.sl (.sl (.int .u8))), false, 24⟩), (105, ⟨rng, true, 0⟩), (114, ⟨(.sl (.int .i64)), false, 8⟩)]
def fldT : FldT := [(25, [(0, 1, false), (1, 1, false), (2, 1, false), (3, 1, false), (4, 1, false), (5, 1, false), (6, 1, false), (7, 1, false), (8, 1, false), (9, 1, false), (10, 1, false)]), (43, [(0, 1, false), (1, 1, false), (2, 1, false), (3, 1, false), (4, 1, false), (5, 1, false), (6, 1, false), (7, 1, false), (8, 1, false), (9, 1, false), (10, 1, false)]), (75, [(0, 1, false), (1, 1, false)]), (87, [(0, 1, false), (1, 1, false), (2, 1, false), (3, 1, false), (4, 1, false), (5, 1, false), (6, 1, false), (7, 1, false), (8, 1, false)]), (90, [(0, 1, false), (1, 1, false), (2, 1, false), (3, 1, false)]), (98, [(0, 1, false), (1, 1, false)]), (105, [(0, 1, false), (1, 1, false)])]
def eqT : List Nat := [75]
def env (tab : Tab) (hint : Nat → Hint) (rm : Rf.Mode) (pins : List (Bool × Nat)) (k : Nat) : Env :=
  { tab := tab, lend := (fun f => cond (Nat.beq f 114) [true] (cond (Nat.beq f 113) [true] (cond (Nat.beq f 49) [true] ([])))), lent := (fun f => cond (Nat.beq f 26) [true] (cond (Nat.beq f 27) [true] (cond (Nat.beq f 32) [true] (cond (Nat.beq f 69) [true] ([]))))), pins := pins, ty := asc tyT, fld := fldOf fldT, pw := fun _ => none, cw := fun _ => [], hint := hint, eqt := hasK eqT, rm := rm, fuel := k, itr := [(47, 89, (.int .u8))] }
theorem tyOk : AllT (TyOk Try.prog) tyT :=
  ⟨.ofInt (b := 8) (by kernel_rfl) (by kernel_rfl), .ofBool (b := 1) (by kernel_rfl) (by kernel_rfl), .ofInt (b := 1) (by kernel_rfl) (by kernel_rfl), .ofStr (b := 16) (by kernel_rfl) (by kernel_rfl), .ofSl (te := 5) (b := 24) (by kernel_rfl) (by kernel_rfl) (by kernel_rfl) (fun _ h => by cases h; kernel_rfl), .ofSl (te := 75) (b := 24) (by kernel_rfl) (by kernel_rfl) (by kernel_rfl) nofun, .ofAgg (b := 96) (by kernel_rfl) (by kernel_rfl), .ofSl (te := 105) (b := 24) (by kernel_rfl) (by kernel_rfl) (by kernel_rfl) nofun, .ofAgg (b := 96) (by kernel_rfl) (by kernel_rfl), .ofAgg (b := 16) (by kernel_rfl) (by kernel_rfl), .ofAgg (b := 80) (by kernel_rfl) (by kernel_rfl), .ofAgg (b := 48) (by kernel_rfl) (by kernel_rfl), .ofAgg (b := 32) (by kernel_rfl) (by kernel_rfl), .ofSl (te := 22) (b := 24) (by kernel_rfl) (by kernel_rfl) (by kernel_rfl) nofun, .ofAgg (b := 16) (by kernel_rfl) (by kernel_rfl), .ofSl (te := 3) (b := 24) (by kernel_rfl) (by kernel_rfl) (by kernel_rfl) (fun _ h => by cases h; kernel_rfl), trivial⟩
theorem fldOk : AllF Try.prog fldT :=
  ⟨⟨⟨by kernel_rfl, by kernel_rfl⟩, ⟨by kernel_rfl, by kernel_rfl⟩, ⟨by kernel_rfl, by kernel_rfl⟩, ⟨by kernel_rfl, by kernel_rfl⟩, ⟨by kernel_rfl, by kernel_rfl⟩, ⟨by kernel_rfl, by kernel_rfl⟩, ⟨by kernel_rfl, by kernel_rfl⟩, ⟨by kernel_rfl, by kernel_rfl⟩, ⟨by kernel_rfl, by kernel_rfl⟩, ⟨by kernel_rfl, by kernel_rfl⟩, ⟨by kernel_rfl, by kernel_rfl⟩, trivial⟩, ⟨⟨by kernel_rfl, by kernel_rfl⟩, ⟨by kernel_rfl, by kernel_rfl⟩, ⟨by kernel_rfl, by kernel_rfl⟩, ⟨by kernel_rfl, by kernel_rfl⟩, ⟨by kernel_rfl, by kernel_rfl⟩, ⟨by kernel_rfl, by kernel_rfl⟩, ⟨by kernel_rfl, by kernel_rfl⟩, ⟨by kernel_rfl, by kernel_rfl⟩, ⟨by kernel_rfl, by kernel_rfl⟩, ⟨by kernel_rfl, by kernel_rfl⟩, ⟨by kernel_rfl, by kernel_rfl⟩, trivial⟩, ⟨⟨by kernel_rfl, by kernel_rfl⟩, ⟨by kernel_rfl, by kernel_rfl⟩, trivial⟩, ⟨⟨by kernel_rfl, by kernel_rfl⟩, ⟨by kernel_rfl, by kernel_rfl⟩, ⟨by kernel_rfl, by kernel_rfl⟩, ⟨by kernel_rfl, by kernel_rfl⟩, ⟨by kernel_rfl, by kernel_rfl⟩, ⟨by kernel_rfl, by kernel_rfl⟩, ⟨by kernel_rfl, by kernel_rfl⟩, ⟨by kernel_rfl, by kernel_rfl⟩, ⟨by kernel_rfl, by kernel_rfl⟩, trivial⟩, ⟨⟨by kernel_rfl, by kernel_rfl⟩, ⟨by kernel_rfl, by kernel_rfl⟩, ⟨by kernel_rfl, by kernel_rfl⟩, ⟨by kernel_rfl, by kernel_rfl⟩, trivial⟩, ⟨⟨by kernel_rfl, by kernel_rfl⟩, ⟨by kernel_rfl, by kernel_rfl⟩, trivial⟩, ⟨⟨by kernel_rfl, by kernel_rfl⟩, ⟨by kernel_rfl, by kernel_rfl⟩, trivial⟩, trivial⟩
theorem mixed : Try.prog.follows .mixedOrders = true := by kernel_rfl
theorem bldOk : AllT (fun t i => i.agg = true → BldOk Try.prog t (fldOf fldT t)) tyT :=
  ⟨nofun, nofun, nofun, nofun, nofun, nofun, fun _ => bld_of (row := [(0, 1, false), (1, 1, false), (2, 1, false), (3, 1, false), (4, 1, false), (5, 1, false), (6, 1, false), (7, 1, false), (8, 1, false), (9, 1, false), (10, 1, false)]) rfl (by kernel_rfl) (by kernel_rfl), nofun, fun _ => bld_of (row := [(0, 1, false), (1, 1, false), (2, 1, false), (3, 1, false), (4, 1, false), (5, 1, false), (6, 1, false), (7, 1, false), (8, 1, false), (9, 1, false), (10, 1, false)]) rfl (by kernel_rfl) (by kernel_rfl), fun _ => bld_of (row := [(0, 1, false), (1, 1, false)]) rfl (by kernel_rfl) (by kernel_rfl), fun _ => bld_of (row := [(0, 1, false), (1, 1, false), (2, 1, false), (3, 1, false), (4, 1, false), (5, 1, false), (6, 1, false), (7, 1, false), (8, 1, false)]) rfl (by kernel_rfl) (by kernel_rfl), fun _ => bld_of (row := [(0, 1, false), (1, 1, false), (2, 1, false), (3, 1, false)]) rfl (by kernel_rfl) (by kernel_rfl), fun _ => bld_of (row := [(0, 1, false), (1, 1, false)]) rfl (by kernel_rfl) (by kernel_rfl), nofun, fun _ => bld_of (row := [(0, 1, false), (1, 1, false)]) rfl (by kernel_rfl) (by kernel_rfl), nofun, trivial⟩
theorem eqOkT : AllT (fun t i => hasK eqT t = true → EqOk Try.prog t i.ty) tyT :=
  ⟨fun h => absurd h (by decide), fun h => absurd h (by decide), fun h => absurd h (by decide), fun h => absurd h (by decide), fun h => absurd h (by decide), fun h => absurd h (by decide), fun h => absurd h (by decide), fun h => absurd h (by decide), fun h => absurd h (by decide), fun _ => EqOk.of (n := 8) (by decide) (by kernel_rfl) (by kernel_rfl) (by kernel_rfl) (by kernel_rfl) (by kernel_rfl), fun h => absurd h (by decide), fun h => absurd h (by decide), fun h => absurd h (by decide), fun h => absurd h (by decide), fun h => absurd h (by decide), fun h => absurd h (by decide), trivial⟩
theorem tysOk (tab : Tab) (hint : Nat → Hint) (rm : Rf.Mode) (pins : List (Bool × Nat)) (k : Nat) : TysOk Try.prog (env tab hint rm pins k) :=
  ⟨fun t i h => tyOk.get h, fun s f z h => fldOk.get h, fun t i h => bldOk.get h, fun t i h h2 => eqOkT.get h2 h, fun z hz => by obtain rfl := List.mem_singleton.1 hz; exact ⟨It.mkOk, It.itOk⟩⟩
theorem envOk {tab : Tab} (h : TabFn Try.prog tab) (hint : Nat → Hint) (rm : Rf.Mode) (pins : List (Bool × Nat)) (k : Nat) : EnvOk Try.prog (env tab hint rm pins k) := EnvOk.of (tysOk tab hint rm pins k) h
theorem envOkF (frz : List Nat) {tab : Tab} (h : TabFn Try.prog tab) (hint : Nat → Hint) (rm : Rf.Mode) (pins : List (Bool × Nat)) (k : Nat) : EnvOk Try.prog { env tab hint rm pins k with frz := frz } :=
  have e := envOk h hint rm pins k; ⟨e.ty, e.fld, e.bld, e.eq, e.tab, e.fn, e.itr⟩
def noTab : Tab := fun _ _ => none
def noHint : Nat → Hint := fun _ => ⟨[], []⟩
abbrev F51_E (k : Nat) : Env := env noTab noHint .own [] k
abbrev F51_a (a0 a1 a2 : Int) : List Arg := [.one (.l (.v (.int .i64 a0))), .one (.l (.v (.int .i64 a1))), .one (.l (.v (.int .i64 a2)))]
def F51_r (r : Bool) : A × List (List Leaf) := (.one (.v (.bool r)), [])
def F51 (k : Nat) (a0 a1 a2 : Int) : Option (Bool) := cond (decide (a0 ≥ a1)) (some (decide (a0 ≤ a2))) (some false)
theorem F51_st {β : Type} (k : Nat) (a0 a1 a2 : Int) (K : A × List (List Leaf) → Option β) : evalF (F51_E k) Try.f51 (F51_a a0 a1 a2) K =
    cond (decide (a0 ≥ a1)) (K (.one (.v (.bool (decide (a0 ≤ a2)))), [])) (K (.one (.v (.bool false)), [])) := by kernel_rfl
theorem F51_ev {β : Type} (k : Nat) (a0 a1 a2 : Int) (K : A × List (List Leaf) → Option β) : evalF (F51_E k) Try.f51 (F51_a a0 a1 a2) K = (F51 k a0 a1 a2).bind fun r => K (F51_r r) := by
  rw [F51_st, F51]
  simp only [F51_r, bind_cond, Option.bind_assoc, Option.bind_some, Option.bind_none, Option.bind_fun_some]
theorem F51_con (k : Nat) (a0 a1 a2 : Int) : Contract Try.prog 51 (F51_a a0 a1 a2) ⟨F51 k a0 a1 a2, F51_r⟩ := con_of (envOk .none _ _ _ _) mixed Try.func51 rfl rfl (F51_ev k a0 a1 a2 some)
def F51_sh : List AK := [.one (.l (.int .i64)), .one (.l (.int .i64)), .one (.l (.int .i64))]
def F51_p (k : Nat) : List Arg → Option CR := cle F51_sh fun x => ⟨F51 k x.1 x.2.1 x.2.2.1, F51_r⟩
theorem F51_q (k : Nat) : ∀ xs cr, F51_p k xs = some cr → Contract Try.prog 51 xs cr := cle_ok fun x => F51_con k _ _ _
theorem F51_f : FnOk Try.prog 51 := .of (by kernel_rfl)
def F50_h : Nat → Hint
  | 0 => ⟨[(1, .plain), (3, .plain)], [(1000, .plain), (1001, .plain), (1002, .plain), (1003, .plain), (1004, .plain), (1005, .plain), (1006, .plain), (1007, .plain), (1008, .plain), (1009, .plain), (1010, .plain)]⟩
  | _ => ⟨[], []⟩
def F50_t (k : Nat) : Tab := entT 51 (F51_p k) <| noTab
abbrev F50_E (k : Nat) : Env := env (F50_t k) F50_h .own [] k
abbrev F50_a (a0_0 a0_1 a0_2 a0_3 a0_4 : Int) (a0_5 a0_6 a0_7 a0_8 : Bool) (a0_9 : List (den rng)) (a0_10 : List (den (.int .u8))) : List Arg := [.agg [.l (.v (.int .i64 a0_0)), .l (.v (.int .i64 a0_1)), .l (.v (.int .i64 a0_2)), .l (.v (.int .i64 a0_3)), .l (.v (.int .i64 a0_4)), .l (.v (.bool a0_5)), .l (.v (.bool a0_6)), .l (.v (.bool a0_7)), .l (.v (.bool a0_8)), .l (.s .ro rng a0_9), .l (.s .ro (.int .u8) a0_10)]]
def F50_r (r : Bool) : A × List (List Leaf) := (.one (.v (.bool r)), [])
def F50_s0 (a0_0 a0_1 a0_2 a0_3 a0_4 : Int) (a0_5 a0_6 a0_7 a0_8 : Bool) (a0_9 : List (den rng)) (a0_10 : List (den (.int .u8))) (x3_0 : Int) : St := ⟨(.one .d) :: (.one (.ptr (.cell 1000) 11 0)) :: (.one .d) :: (.one (.v (.int .i64 x3_0))) :: dz 103 [], [(1000, ⟨.v (.int .i64 a0_0), 0, 0⟩), (1001, ⟨.v (.int .i64 a0_1), 0, 0⟩), (1002, ⟨.v (.int .i64 a0_2), 0, 0⟩), (1003, ⟨.v (.int .i64 a0_3), 0, 0⟩), (1004, ⟨.v (.int .i64 a0_4), 0, 0⟩), (1005, ⟨.v (.bool a0_5), 0, 0⟩), (1006, ⟨.v (.bool a0_6), 0, 0⟩), (1007, ⟨.v (.bool a0_7), 0, 0⟩), (1008, ⟨.v (.bool a0_8), 0, 0⟩), (1009, ⟨.s .ro rng a0_9, 0, 0⟩), (1010, ⟨.s .ro (.int .u8) a0_10, 0, 0⟩)]⟩
def F50_l0_T {β : Type} (k : Nat) (a0_0 a0_1 a0_2 a0_3 a0_4 : Int) (a0_5 a0_6 a0_7 a0_8 : Bool) (a0_9 : List (den rng)) (a0_10 : List (den (.int .u8))) (NX : Int → Option β) (RET : Bool → Option β) (x3_0 : Int) : Option β := cond (decide (x3_0 < ((a0_9.length : Nat) : Int))) (cond (decide (0 ≤ x3_0)) (cond (decide (x3_0 < ((a0_9.length : Nat) : Int))) ((F51 k ((atI a0_9 x3_0).1) 0 65535).bind fun b6 => cond (!b6) (RET false) (cond (decide (0 ≤ x3_0)) (cond (decide (x3_0 < ((a0_9.length : Nat) : Int))) ((F51 k ((atI a0_9 x3_0).2) 0 65535).bind fun b7 => cond (!b7) (RET false) (NX (IntKind.i64.wrap (x3_0 + 1)))) none) none)) none) none) (cond (!a0_6) (cond (a0_3 != 0) (RET false) (cond (a0_4 != 0) (RET false) (cond (decide (((a0_9.length : Nat) : Int) > 0)) (RET false) (cond (!a0_8) (RET true) (cond (!a0_5) (cond (!a0_7) (RET (((a0_10.length : Nat) : Int) == 0)) (RET false)) (RET false)))))) (cond (!a0_8) (RET true) (cond (!a0_5) (cond (!a0_7) (RET (((a0_10.length : Nat) : Int) == 0)) (RET false)) (RET false))))
def F50_l0 (k : Nat) (a0_0 a0_1 a0_2 a0_3 a0_4 : Int) (a0_5 a0_6 a0_7 a0_8 : Bool) (a0_9 : List (den rng)) (a0_10 : List (den (.int .u8))) : Nat → Int → Option (Bool)
  | 0, _ => none
  | n + 1, x3_0 => F50_l0_T k a0_0 a0_1 a0_2 a0_3 a0_4 a0_5 a0_6 a0_7 a0_8 a0_9 a0_10 (fun x3_0 => F50_l0 k a0_0 a0_1 a0_2 a0_3 a0_4 a0_5 a0_6 a0_7 a0_8 a0_9 a0_10 n x3_0) some x3_0
theorem F50_l0_rd {β : Type} (k n : Nat) (a0_0 a0_1 a0_2 a0_3 a0_4 : Int) (a0_5 a0_6 a0_7 a0_8 : Bool) (a0_9 : List (den rng)) (a0_10 : List (den (.int .u8))) (x3_0 : Int) (K : A × List (List Leaf) → Option β) :
    loopG (F50_E k) Try.f50 [1, 1, 0, 1, 0] 0 (kontAt (F50_E k) [1, 1, 0, 1, 0] (bodyOf Try.f50) 0 (endC (F50_E k) Try.f50 (F50_a a0_0 a0_1 a0_2 a0_3 a0_4 a0_5 a0_6 a0_7 a0_8 a0_9 a0_10) K)) (n + 1) (F50_s0 a0_0 a0_1 a0_2 a0_3 a0_4 a0_5 a0_6 a0_7 a0_8 a0_9 a0_10 x3_0) =
    F50_l0_T k a0_0 a0_1 a0_2 a0_3 a0_4 a0_5 a0_6 a0_7 a0_8 a0_9 a0_10 (fun x3_0 => loopG (F50_E k) Try.f50 [1, 1, 0, 1, 0] 0 (kontAt (F50_E k) [1, 1, 0, 1, 0] (bodyOf Try.f50) 0 (endC (F50_E k) Try.f50 (F50_a a0_0 a0_1 a0_2 a0_3 a0_4 a0_5 a0_6 a0_7 a0_8 a0_9 a0_10) K)) n (F50_s0 a0_0 a0_1 a0_2 a0_3 a0_4 a0_5 a0_6 a0_7 a0_8 a0_9 a0_10 x3_0)) (fun r => K (F50_r r)) x3_0 := by kernel_rfl
theorem F50_l0_lp {β : Type} (k : Nat) (a0_0 a0_1 a0_2 a0_3 a0_4 : Int) (a0_5 a0_6 a0_7 a0_8 : Bool) (a0_9 : List (den rng)) (a0_10 : List (den (.int .u8))) (K : A × List (List Leaf) → Option β) (n : Nat) : ∀ (x3_0 : Int), loopG (F50_E k) Try.f50 [1, 1, 0, 1, 0] 0 (kontAt (F50_E k) [1, 1, 0, 1, 0] (bodyOf Try.f50) 0 (endC (F50_E k) Try.f50 (F50_a a0_0 a0_1 a0_2 a0_3 a0_4 a0_5 a0_6 a0_7 a0_8 a0_9 a0_10) K)) n (F50_s0 a0_0 a0_1 a0_2 a0_3 a0_4 a0_5 a0_6 a0_7 a0_8 a0_9 a0_10 x3_0) =
    (F50_l0 k a0_0 a0_1 a0_2 a0_3 a0_4 a0_5 a0_6 a0_7 a0_8 a0_9 a0_10 n x3_0).bind fun r => K (F50_r r) := by
  induction n with
  | zero => intros; rfl
  | succ n ih =>
    intros
    rw [F50_l0_rd, F50_l0]
    simp only [F50_l0_T, bind_cond, Option.bind_assoc, Option.bind_some, Option.bind_none, Option.bind_fun_some, ih]
def F50_T {β : Type} (k : Nat) (a0_0 a0_1 a0_2 a0_3 a0_4 : Int) (a0_5 a0_6 a0_7 a0_8 : Bool) (a0_9 : List (den rng)) (a0_10 : List (den (.int .u8))) (LP0 : Int → Option β) (RET : Bool → Option β) : Option β := (F51 k a0_0 1 255).bind fun b1 => cond (!b1) (RET false) ((F51 k a0_1 1 255).bind fun b2 => cond (!b2) (RET false) ((F51 k a0_2 0 65535).bind fun b3 => cond (!b3) (RET false) ((F51 k a0_3 0 65535).bind fun b4 => cond (!b4) (RET false) ((F51 k a0_4 0 255).bind fun b5 => cond (!b5) (RET false) (cond (decide (((a0_9.length : Nat) : Int) > 2)) (RET false) (cond (decide (((a0_10.length : Nat) : Int) > 12)) (RET false) (LP0 0)))))))
def F50 (k : Nat) (a0_0 a0_1 a0_2 a0_3 a0_4 : Int) (a0_5 a0_6 a0_7 a0_8 : Bool) (a0_9 : List (den rng)) (a0_10 : List (den (.int .u8))) : Option (Bool) := F50_T k a0_0 a0_1 a0_2 a0_3 a0_4 a0_5 a0_6 a0_7 a0_8 a0_9 a0_10 (fun x3_0 => F50_l0 k a0_0 a0_1 a0_2 a0_3 a0_4 a0_5 a0_6 a0_7 a0_8 a0_9 a0_10 k x3_0) some
theorem F50_st {β : Type} (k : Nat) (a0_0 a0_1 a0_2 a0_3 a0_4 : Int) (a0_5 a0_6 a0_7 a0_8 : Bool) (a0_9 : List (den rng)) (a0_10 : List (den (.int .u8))) (K : A × List (List Leaf) → Option β) : evalF (F50_E k) Try.f50 (F50_a a0_0 a0_1 a0_2 a0_3 a0_4 a0_5 a0_6 a0_7 a0_8 a0_9 a0_10) K =
    F50_T k a0_0 a0_1 a0_2 a0_3 a0_4 a0_5 a0_6 a0_7 a0_8 a0_9 a0_10 (fun x3_0 => loopG (F50_E k) Try.f50 [1, 1, 0, 1, 0] 0 (kontAt (F50_E k) [1, 1, 0, 1, 0] (bodyOf Try.f50) 0 (endC (F50_E k) Try.f50 (F50_a a0_0 a0_1 a0_2 a0_3 a0_4 a0_5 a0_6 a0_7 a0_8 a0_9 a0_10) K)) k (F50_s0 a0_0 a0_1 a0_2 a0_3 a0_4 a0_5 a0_6 a0_7 a0_8 a0_9 a0_10 x3_0)) (fun r => K (F50_r r)) := by kernel_rfl
theorem F50_ev {β : Type} (k : Nat) (a0_0 a0_1 a0_2 a0_3 a0_4 : Int) (a0_5 a0_6 a0_7 a0_8 : Bool) (a0_9 : List (den rng)) (a0_10 : List (den (.int .u8))) (K : A × List (List Leaf) → Option β) : evalF (F50_E k) Try.f50 (F50_a a0_0 a0_1 a0_2 a0_3 a0_4 a0_5 a0_6 a0_7 a0_8 a0_9 a0_10) K = (F50 k a0_0 a0_1 a0_2 a0_3 a0_4 a0_5 a0_6 a0_7 a0_8 a0_9 a0_10).bind fun r => K (F50_r r) := by
  rw [F50_st, F50]
  simp only [F50_T, bind_cond, Option.bind_assoc, Option.bind_some, Option.bind_none, Option.bind_fun_some, F50_l0_lp]
theorem F50_tOk (k : Nat) : TabFn Try.prog (F50_t k) := .ent (F51_q k) F51_f (.none)
theorem F50_con (k : Nat) (a0_0 a0_1 a0_2 a0_3 a0_4 : Int) (a0_5 a0_6 a0_7 a0_8 : Bool) (a0_9 : List (den rng)) (a0_10 : List (den (.int .u8))) : Contract Try.prog 50 (F50_a a0_0 a0_1 a0_2 a0_3 a0_4 a0_5 a0_6 a0_7 a0_8 a0_9 a0_10) ⟨F50 k a0_0 a0_1 a0_2 a0_3 a0_4 a0_5 a0_6 a0_7 a0_8 a0_9 a0_10, F50_r⟩ := con_of (envOk (F50_tOk k) _ _ _ _) mixed Try.func50 rfl rfl (F50_ev k a0_0 a0_1 a0_2 a0_3 a0_4 a0_5 a0_6 a0_7 a0_8 a0_9 a0_10 some)
def F50_sh : List AK := [.agg [.l (.int .i64), .l (.int .i64), .l (.int .i64), .l (.int .i64), .l (.int .i64), .l (.bool), .l (.bool), .l (.bool), .l (.bool), .l (.sl .ro rng), .l (.sl .ro (.int .u8))]]
def F50_p (k : Nat) : List Arg → Option CR := cle F50_sh fun x => ⟨F50 k x.1.1 x.1.2.1 x.1.2.2.1 x.1.2.2.2.1 x.1.2.2.2.2.1 x.1.2.2.2.2.2.1 x.1.2.2.2.2.2.2.1 x.1.2.2.2.2.2.2.2.1 x.1.2.2.2.2.2.2.2.2.1 x.1.2.2.2.2.2.2.2.2.2.1 x.1.2.2.2.2.2.2.2.2.2.2.1, F50_r⟩
theorem F50_q (k : Nat) : ∀ xs cr, F50_p k xs = some cr → Contract Try.prog 50 xs cr := cle_ok fun x => F50_con k _ _ _ _ _ _ _ _ _ _ _
theorem F50_f : FnOk Try.prog 50 := .of (by kernel_rfl)
def F95_h : Nat → Hint
  | 0 => ⟨[(0, .plain), (5, .own .own (.int .u8) []), (6, .plain)], []⟩
  | _ => ⟨[], []⟩
def F95_t (k : Nat) : Tab := entT 51 (F51_p k) <| noTab
abbrev F95_E (k : Nat) : Env := env (F95_t k) F95_h .own [] k
abbrev F95_a (a0 a1 : Int) : List Arg := [.one (.l (.v (.int .i64 a0))), .one (.l (.v (.int .i64 a1)))]
def F95_r (r : List (den (.int .u8))) : A × List (List Leaf) := (.one (.s .own (.int .u8) r), [])
def F95_s0 (a0 a1 : Int) (x6_0 : Int) (m5900_0 : List (den (.int .u8))) : St := ⟨(.one (.v (.int .i64 a0))) :: dz 4 ((.one (.a (.cell 5900) 0 0 none)) :: (.one (.v (.int .i64 x6_0))) :: dz 30 []), [(5900, ⟨.s .own (.int .u8) m5900_0, 0, 0⟩)]⟩
def F95_l0_T {β : Type} (k : Nat) (a0 a1 : Int) (NX : Int → List (den (.int .u8)) → Option β) (RET : List (den (.int .u8)) → Option β) (x6_0 : Int) (m5900_0 : List (den (.int .u8))) : Option β := cond (decide (x6_0 ≥ 0)) (cond (decide ((IntKind.i64.wrap (8 * x6_0)) < 0)) none (cond (decide ((m5900_0.length + [IntKind.u8.wrap (((a0.fdiv (2 ^ (min (IntKind.i64.wrap (8 * x6_0)).toNat 64))).tmod 256))].length) * 1 ≤ 140737488355328)) (NX (IntKind.i64.wrap (x6_0 - 1)) (m5900_0 ++ [IntKind.u8.wrap (((a0.fdiv (2 ^ (min (IntKind.i64.wrap (8 * x6_0)).toNat 64))).tmod 256))])) none)) (RET m5900_0)
def F95_l0 (k : Nat) (a0 a1 : Int) : Nat → Int → List (den (.int .u8)) → Option (List (den (.int .u8)))
  | 0, _, _ => none
  | n + 1, x6_0, m5900_0 => F95_l0_T k a0 a1 (fun x6_0 m5900_0 => F95_l0 k a0 a1 n x6_0 m5900_0) some x6_0 m5900_0
theorem F95_l0_rd {β : Type} (k n : Nat) (a0 a1 : Int) (x6_0 : Int) (m5900_0 : List (den (.int .u8))) (K : A × List (List Leaf) → Option β) :
    loopG (F95_E k) Try.f95 [1, 1, 1, 0, 1, 0] 0 (kontAt (F95_E k) [1, 1, 1, 0, 1, 0] (bodyOf Try.f95) 0 (endC (F95_E k) Try.f95 (F95_a a0 a1) K)) (n + 1) (F95_s0 a0 a1 x6_0 m5900_0) =
    F95_l0_T k a0 a1 (fun x6_0 m5900_0 => loopG (F95_E k) Try.f95 [1, 1, 1, 0, 1, 0] 0 (kontAt (F95_E k) [1, 1, 1, 0, 1, 0] (bodyOf Try.f95) 0 (endC (F95_E k) Try.f95 (F95_a a0 a1) K)) n (F95_s0 a0 a1 x6_0 m5900_0)) (fun r => K (F95_r r)) x6_0 m5900_0 := by kernel_rfl
theorem F95_l0_lp {β : Type} (k : Nat) (a0 a1 : Int) (K : A × List (List Leaf) → Option β) (n : Nat) : ∀ (x6_0 : Int) (m5900_0 : List (den (.int .u8))), loopG (F95_E k) Try.f95 [1, 1, 1, 0, 1, 0] 0 (kontAt (F95_E k) [1, 1, 1, 0, 1, 0] (bodyOf Try.f95) 0 (endC (F95_E k) Try.f95 (F95_a a0 a1) K)) n (F95_s0 a0 a1 x6_0 m5900_0) =
    (F95_l0 k a0 a1 n x6_0 m5900_0).bind fun r => K (F95_r r) := by
  induction n with
  | zero => intros; rfl
  | succ n ih =>
    intros
    rw [F95_l0_rd, F95_l0]
    simp only [F95_l0_T, bind_cond, Option.bind_assoc, Option.bind_some, Option.bind_none, Option.bind_fun_some, ih]
def F95_T {β : Type} (k : Nat) (a0 a1 : Int) (LP0 : Int → List (den (.int .u8)) → Option β) (RET : List (den (.int .u8)) → Option β) : Option β := (F51 k a1 1 4).bind fun b1 => cond (!b1) (RET []) (cond (decide ((IntKind.i64.wrap (8 * a1)) < 0)) none ((F51 k a0 0 (IntKind.i64.wrap ((IntKind.i64.wrap (1 * 2 ^ (min (IntKind.i64.wrap (8 * a1)).toNat 64))) - 1))).bind fun b2 => cond (!b2) (RET []) (LP0 (IntKind.i64.wrap (a1 - 1)) [])))
def F95 (k : Nat) (a0 a1 : Int) : Option (List (den (.int .u8))) := F95_T k a0 a1 (fun x6_0 m5900_0 => F95_l0 k a0 a1 k x6_0 m5900_0) some
theorem F95_st {β : Type} (k : Nat) (a0 a1 : Int) (K : A × List (List Leaf) → Option β) : evalF (F95_E k) Try.f95 (F95_a a0 a1) K =
    F95_T k a0 a1 (fun x6_0 m5900_0 => loopG (F95_E k) Try.f95 [1, 1, 1, 0, 1, 0] 0 (kontAt (F95_E k) [1, 1, 1, 0, 1, 0] (bodyOf Try.f95) 0 (endC (F95_E k) Try.f95 (F95_a a0 a1) K)) k (F95_s0 a0 a1 x6_0 m5900_0)) (fun r => K (F95_r r)) := by kernel_rfl
theorem F95_ev {β : Type} (k : Nat) (a0 a1 : Int) (K : A × List (List Leaf) → Option β) : evalF (F95_E k) Try.f95 (F95_a a0 a1) K = (F95 k a0 a1).bind fun r => K (F95_r r) := by
  rw [F95_st, F95]
  simp only [F95_T, bind_cond, Option.bind_assoc, Option.bind_some, Option.bind_none, Option.bind_fun_some, F95_l0_lp]
theorem F95_tOk (k : Nat) : TabFn Try.prog (F95_t k) := .ent (F51_q k) F51_f (.none)
theorem F95_con (k : Nat) (a0 a1 : Int) : Contract Try.prog 95 (F95_a a0 a1) ⟨F95 k a0 a1, F95_r⟩ := con_of (envOk (F95_tOk k) _ _ _ _) mixed Try.func95 rfl rfl (F95_ev k a0 a1 some)
def F95_sh : List AK := [.one (.l (.int .i64)), .one (.l (.int .i64))]
def F95_p (k : Nat) : List Arg → Option CR := cle F95_sh fun x => ⟨F95 k x.1 x.2.1, F95_r⟩
theorem F95_q (k : Nat) : ∀ xs cr, F95_p k xs = some cr → Contract Try.prog 95 xs cr := cle_ok fun x => F95_con k _ _
theorem F95_f : FnOk Try.prog 95 := .of (by kernel_rfl)
abbrev F96_E (k : Nat) : Env := env noTab noHint .own [] k
abbrev F96_a (a0_0 a0_1 a0_2 a0_3 a0_4 : Int) (a0_5 a0_6 a0_7 a0_8 : Bool) (a0_9 : List (den rng)) (a0_10 : List (den (.int .u8))) : List Arg := [.agg [.l (.v (.int .i64 a0_0)), .l (.v (.int .i64 a0_1)), .l (.v (.int .i64 a0_2)), .l (.v (.int .i64 a0_3)), .l (.v (.int .i64 a0_4)), .l (.v (.bool a0_5)), .l (.v (.bool a0_6)), .l (.v (.bool a0_7)), .l (.v (.bool a0_8)), .l (.s .ro rng a0_9), .l (.s .ro (.int .u8) a0_10)]]
def F96_r (r : Int) : A × List (List Leaf) := (.one (.v (.int .i64 r)), [])
def F96_T {β : Type} (k : Nat) (a0_0 a0_1 a0_2 a0_3 a0_4 : Int) (a0_5 a0_6 a0_7 a0_8 : Bool) (a0_9 : List (den rng)) (a0_10 : List (den (.int .u8))) (RET : Int → Option β) : Option β := cond a0_5 (cond a0_6 (cond a0_7 (cond a0_8 (RET 15) (RET 7)) (cond a0_8 (RET 11) (RET 3))) (cond a0_7 (cond a0_8 (RET 13) (RET 5)) (cond a0_8 (RET 9) (RET 1)))) (cond a0_6 (cond a0_7 (cond a0_8 (RET 14) (RET 6)) (cond a0_8 (RET 10) (RET 2))) (cond a0_7 (cond a0_8 (RET 12) (RET 4)) (cond a0_8 (RET 8) (RET 0))))
def F96 (k : Nat) (a0_0 a0_1 a0_2 a0_3 a0_4 : Int) (a0_5 a0_6 a0_7 a0_8 : Bool) (a0_9 : List (den rng)) (a0_10 : List (den (.int .u8))) : Option (Int) := F96_T k a0_0 a0_1 a0_2 a0_3 a0_4 a0_5 a0_6 a0_7 a0_8 a0_9 a0_10 some
theorem F96_st {β : Type} (k : Nat) (a0_0 a0_1 a0_2 a0_3 a0_4 : Int) (a0_5 a0_6 a0_7 a0_8 : Bool) (a0_9 : List (den rng)) (a0_10 : List (den (.int .u8))) (K : A × List (List Leaf) → Option β) : evalF (F96_E k) Try.f96 (F96_a a0_0 a0_1 a0_2 a0_3 a0_4 a0_5 a0_6 a0_7 a0_8 a0_9 a0_10) K =
    F96_T k a0_0 a0_1 a0_2 a0_3 a0_4 a0_5 a0_6 a0_7 a0_8 a0_9 a0_10 (fun r => K (F96_r r)) := by kernel_rfl
theorem F96_ev {β : Type} (k : Nat) (a0_0 a0_1 a0_2 a0_3 a0_4 : Int) (a0_5 a0_6 a0_7 a0_8 : Bool) (a0_9 : List (den rng)) (a0_10 : List (den (.int .u8))) (K : A × List (List Leaf) → Option β) : evalF (F96_E k) Try.f96 (F96_a a0_0 a0_1 a0_2 a0_3 a0_4 a0_5 a0_6 a0_7 a0_8 a0_9 a0_10) K = (F96 k a0_0 a0_1 a0_2 a0_3 a0_4 a0_5 a0_6 a0_7 a0_8 a0_9 a0_10).bind fun r => K (F96_r r) := by
  rw [F96_st, F96]
  simp only [F96_T, bind_cond, Option.bind_assoc, Option.bind_some, Option.bind_none, Option.bind_fun_some]
theorem F96_con (k : Nat) (a0_0 a0_1 a0_2 a0_3 a0_4 : Int) (a0_5 a0_6 a0_7 a0_8 : Bool) (a0_9 : List (den rng)) (a0_10 : List (den (.int .u8))) : Contract Try.prog 96 (F96_a a0_0 a0_1 a0_2 a0_3 a0_4 a0_5 a0_6 a0_7 a0_8 a0_9 a0_10) ⟨F96 k a0_0 a0_1 a0_2 a0_3 a0_4 a0_5 a0_6 a0_7 a0_8 a0_9 a0_10, F96_r⟩ := con_of (envOk .none _ _ _ _) mixed Try.func96 rfl rfl (F96_ev k a0_0 a0_1 a0_2 a0_3 a0_4 a0_5 a0_6 a0_7 a0_8 a0_9 a0_10 some)
def F96_sh : List AK := [.agg [.l (.int .i64), .l (.int .i64), .l (.int .i64), .l (.int .i64), .l (.int .i64), .l (.bool), .l (.bool), .l (.bool), .l (.bool), .l (.sl .ro rng), .l (.sl .ro (.int .u8))]]
def F96_p (k : Nat) : List Arg → Option CR := cle F96_sh fun x => ⟨F96 k x.1.1 x.1.2.1 x.1.2.2.1 x.1.2.2.2.1 x.1.2.2.2.2.1 x.1.2.2.2.2.2.1 x.1.2.2.2.2.2.2.1 x.1.2.2.2.2.2.2.2.1 x.1.2.2.2.2.2.2.2.2.1 x.1.2.2.2.2.2.2.2.2.2.1 x.1.2.2.2.2.2.2.2.2.2.2.1, F96_r⟩
theorem F96_q (k : Nat) : ∀ xs cr, F96_p k xs = some cr → Contract Try.prog 96 xs cr := cle_ok fun x => F96_con k _ _ _ _ _ _ _ _ _ _ _
theorem F96_f : FnOk Try.prog 96 := .of (by kernel_rfl)
def F116_h : Nat → Hint
  | 0 => ⟨[(0, .plain), (3, .plain), (4, .plain)], []⟩
  | _ => ⟨[], []⟩
abbrev F116_E (k : Nat) : Env := env noTab F116_h .own [] k
abbrev F116_a (a0 : List (den (.int .u8))) : List Arg := [.one (.l (.s .ro (.int .u8) a0))]
def F116_r (r : Int) : A × List (List Leaf) := (.one (.v (.int .i64 r)), [])
def F116_s0 (a0 : List (den (.int .u8))) (x3_0 x4_0 : Int) : St := ⟨(.one (.s .ro (.int .u8) a0)) :: (.one .d) :: (.one .d) :: (.one (.v (.int .i64 x3_0))) :: (.one (.v (.int .i64 x4_0))) :: dz 29 [], []⟩
def F116_l0_T {β : Type} (k : Nat) (a0 : List (den (.int .u8))) (NX : Int → Int → Option β) (RET : Int → Option β) (x3_0 x4_0 : Int) : Option β := cond (decide (x4_0 < ((a0.length : Nat) : Int))) (cond ((x4_0.tmod 2) == 0) (cond (decide (0 ≤ x4_0)) (cond (decide (x4_0 < ((a0.length : Nat) : Int))) (cond (decide ((IntKind.i64.wrap (x3_0 + (IntKind.i64.wrap ((IntKind.i64.wrap (atI a0 x4_0)) * 256)))) > 65535)) (NX (IntKind.i64.wrap ((IntKind.i64.wrap (x3_0 + (IntKind.i64.wrap ((IntKind.i64.wrap (atI a0 x4_0)) * 256)))) - 65535)) (IntKind.i64.wrap (x4_0 + 1))) (NX (IntKind.i64.wrap (x3_0 + (IntKind.i64.wrap ((IntKind.i64.wrap (atI a0 x4_0)) * 256)))) (IntKind.i64.wrap (x4_0 + 1)))) none) none) (cond (decide (0 ≤ x4_0)) (cond (decide (x4_0 < ((a0.length : Nat) : Int))) (cond (decide ((IntKind.i64.wrap (x3_0 + (IntKind.i64.wrap (atI a0 x4_0)))) > 65535)) (NX (IntKind.i64.wrap ((IntKind.i64.wrap (x3_0 + (IntKind.i64.wrap (atI a0 x4_0)))) - 65535)) (IntKind.i64.wrap (x4_0 + 1))) (NX (IntKind.i64.wrap (x3_0 + (IntKind.i64.wrap (atI a0 x4_0)))) (IntKind.i64.wrap (x4_0 + 1)))) none) none)) (RET x3_0)
def F116_l0 (k : Nat) (a0 : List (den (.int .u8))) : Nat → Int → Int → Option (Int)
  | 0, _, _ => none
  | n + 1, x3_0, x4_0 => F116_l0_T k a0 (fun x3_0 x4_0 => F116_l0 k a0 n x3_0 x4_0) some x3_0 x4_0
theorem F116_l0_rd {β : Type} (k n : Nat) (a0 : List (den (.int .u8))) (x3_0 x4_0 : Int) (K : A × List (List Leaf) → Option β) :
    loopG (F116_E k) Try.f116 [1, 1, 0, 1, 0] 0 (kontAt (F116_E k) [1, 1, 0, 1, 0] (bodyOf Try.f116) 0 (endC (F116_E k) Try.f116 (F116_a a0) K)) (n + 1) (F116_s0 a0 x3_0 x4_0) =
    F116_l0_T k a0 (fun x3_0 x4_0 => loopG (F116_E k) Try.f116 [1, 1, 0, 1, 0] 0 (kontAt (F116_E k) [1, 1, 0, 1, 0] (bodyOf Try.f116) 0 (endC (F116_E k) Try.f116 (F116_a a0) K)) n (F116_s0 a0 x3_0 x4_0)) (fun r => K (F116_r r)) x3_0 x4_0 := by kernel_rfl
theorem F116_l0_lp {β : Type} (k : Nat) (a0 : List (den (.int .u8))) (K : A × List (List Leaf) → Option β) (n : Nat) : ∀ (x3_0 x4_0 : Int), loopG (F116_E k) Try.f116 [1, 1, 0, 1, 0] 0 (kontAt (F116_E k) [1, 1, 0, 1, 0] (bodyOf Try.f116) 0 (endC (F116_E k) Try.f116 (F116_a a0) K)) n (F116_s0 a0 x3_0 x4_0) =
    (F116_l0 k a0 n x3_0 x4_0).bind fun r => K (F116_r r) := by
  induction n with
  | zero => intros; rfl
  | succ n ih =>
    intros
    rw [F116_l0_rd, F116_l0]
    simp only [F116_l0_T, bind_cond, Option.bind_assoc, Option.bind_some, Option.bind_none, Option.bind_fun_some, ih]
def F116_T {β : Type} (k : Nat) (a0 : List (den (.int .u8))) (LP0 : Int → Int → Option β) : Option β := LP0 0 0
def F116 (k : Nat) (a0 : List (den (.int .u8))) : Option (Int) := F116_T k a0 (fun x3_0 x4_0 => F116_l0 k a0 k x3_0 x4_0)
theorem F116_st {β : Type} (k : Nat) (a0 : List (den (.int .u8))) (K : A × List (List Leaf) → Option β) : evalF (F116_E k) Try.f116 (F116_a a0) K =
    F116_T k a0 (fun x3_0 x4_0 => loopG (F116_E k) Try.f116 [1, 1, 0, 1, 0] 0 (kontAt (F116_E k) [1, 1, 0, 1, 0] (bodyOf Try.f116) 0 (endC (F116_E k) Try.f116 (F116_a a0) K)) k (F116_s0 a0 x3_0 x4_0)) := by kernel_rfl
theorem F116_ev {β : Type} (k : Nat) (a0 : List (den (.int .u8))) (K : A × List (List Leaf) → Option β) : evalF (F116_E k) Try.f116 (F116_a a0) K = (F116 k a0).bind fun r => K (F116_r r) := by
  rw [F116_st, F116]
  simp only [F116_T, bind_cond, Option.bind_assoc, Option.bind_some, Option.bind_none, Option.bind_fun_some, F116_l0_lp]
theorem F116_con (k : Nat) (a0 : List (den (.int .u8))) : Contract Try.prog 116 (F116_a a0) ⟨F116 k a0, F116_r⟩ := con_of (envOk .none _ _ _ _) mixed Try.func116 rfl rfl (F116_ev k a0 some)
def F116_sh : List AK := [.one (.l (.sl .ro (.int .u8)))]
def F116_p (k : Nat) : List Arg → Option CR := cle F116_sh fun x => ⟨F116 k x.1, F116_r⟩
theorem F116_q (k : Nat) : ∀ xs cr, F116_p k xs = some cr → Contract Try.prog 116 xs cr := cle_ok fun x => F116_con k _
theorem F116_f : FnOk Try.prog 116 := .of (by kernel_rfl)
def F100_t (k : Nat) : Tab := entT 116 (F116_p k) <| noTab
abbrev F100_E (k : Nat) : Env := env (F100_t k) noHint .own [] k
abbrev F100_a (a0 : List (den (.int .u8))) : List Arg := [.one (.l (.s .ro (.int .u8) a0))]
def F100_r (r : Int) : A × List (List Leaf) := (.one (.v (.int .i64 r)), [])
def F100 (k : Nat) (a0 : List (den (.int .u8))) : Option (Int) := (F116 k a0).bind fun b1 => some (IntKind.i64.wrap (65535 - b1))
theorem F100_st {β : Type} (k : Nat) (a0 : List (den (.int .u8))) (K : A × List (List Leaf) → Option β) : evalF (F100_E k) Try.f100 (F100_a a0) K =
    (F116 k a0).bind fun b1 => K (.one (.v (.int .i64 (IntKind.i64.wrap (65535 - b1)))), []) := by kernel_rfl
theorem F100_ev {β : Type} (k : Nat) (a0 : List (den (.int .u8))) (K : A × List (List Leaf) → Option β) : evalF (F100_E k) Try.f100 (F100_a a0) K = (F100 k a0).bind fun r => K (F100_r r) := by
  rw [F100_st, F100]
  simp only [F100_r, bind_cond, Option.bind_assoc, Option.bind_some, Option.bind_none, Option.bind_fun_some]
theorem F100_tOk (k : Nat) : TabFn Try.prog (F100_t k) := .ent (F116_q k) F116_f (.none)
theorem F100_con (k : Nat) (a0 : List (den (.int .u8))) : Contract Try.prog 100 (F100_a a0) ⟨F100 k a0, F100_r⟩ := con_of (envOk (F100_tOk k) _ _ _ _) mixed Try.func100 rfl rfl (F100_ev k a0 some)
def F100_sh : List AK := [.one (.l (.sl .ro (.int .u8)))]
def F100_p (k : Nat) : List Arg → Option CR := cle F100_sh fun x => ⟨F100 k x.1, F100_r⟩
theorem F100_q (k : Nat) : ∀ xs cr, F100_p k xs = some cr → Contract Try.prog 100 xs cr := cle_ok fun x => F100_con k _
theorem F100_f : FnOk Try.prog 100 := .of (by kernel_rfl)
def F97_t (k : Nat) : Tab := entT 95 (F95_p k) <| entT 100 (F100_p k) <| noTab
abbrev F97_E (k : Nat) : Env := env (F97_t k) noHint .own [] k
abbrev F97_a (a0 a1 : Int) (a2 : List (den (.int .u8))) : List Arg := [.one (.l (.v (.int .i64 a0))), .one (.l (.v (.int .i64 a1))), .one (.l (.s .ro (.int .u8) a2))]
def F97_r (r : Int) : A × List (List Leaf) := (.one (.v (.int .i64 r)), [])
def F97_T {β : Type} (k : Nat) (a0 a1 : Int) (a2 : List (den (.int .u8))) (RET : Int → Option β) : Option β := (F95 k a0 2).bind fun b1 => (F95 k a1 2).bind fun b2 => cond (decide ((b1.length + b2.length) * 1 ≤ 140737488355328)) (cond (decide (((b1 ++ b2).length + a2.length) * 1 ≤ 140737488355328)) ((F100 k ((b1 ++ b2) ++ a2)).bind fun b3 => RET b3) none) none
def F97 (k : Nat) (a0 a1 : Int) (a2 : List (den (.int .u8))) : Option (Int) := F97_T k a0 a1 a2 some
theorem F97_st {β : Type} (k : Nat) (a0 a1 : Int) (a2 : List (den (.int .u8))) (K : A × List (List Leaf) → Option β) : evalF (F97_E k) Try.f97 (F97_a a0 a1 a2) K =
    F97_T k a0 a1 a2 (fun r => K (F97_r r)) := by kernel_rfl
theorem F97_ev {β : Type} (k : Nat) (a0 a1 : Int) (a2 : List (den (.int .u8))) (K : A × List (List Leaf) → Option β) : evalF (F97_E k) Try.f97 (F97_a a0 a1 a2) K = (F97 k a0 a1 a2).bind fun r => K (F97_r r) := by
  rw [F97_st, F97]
  simp only [F97_T, bind_cond, Option.bind_assoc, Option.bind_some, Option.bind_none, Option.bind_fun_some]
theorem F97_tOk (k : Nat) : TabFn Try.prog (F97_t k) := .ent (F95_q k) F95_f (.ent (F100_q k) F100_f (.none))
theorem F97_con (k : Nat) (a0 a1 : Int) (a2 : List (den (.int .u8))) : Contract Try.prog 97 (F97_a a0 a1 a2) ⟨F97 k a0 a1 a2, F97_r⟩ := con_of (envOk (F97_tOk k) _ _ _ _) mixed Try.func97 rfl rfl (F97_ev k a0 a1 a2 some)
def F97_sh : List AK := [.one (.l (.int .i64)), .one (.l (.int .i64)), .one (.l (.sl .ro (.int .u8)))]
def F97_p (k : Nat) : List Arg → Option CR := cle F97_sh fun x => ⟨F97 k x.1 x.2.1 x.2.2.1, F97_r⟩
theorem F97_q (k : Nat) : ∀ xs cr, F97_p k xs = some cr → Contract Try.prog 97 xs cr := cle_ok fun x => F97_con k _ _ _
theorem F97_f : FnOk Try.prog 97 := .of (by kernel_rfl)
def F71_h : Nat → Hint
  | 0 => ⟨[(1, .plain), (2, .plain), (3, .plain), (7, .own .own (.int .u8) []), (8, .plain)], [(3000, .plain), (3001, .plain), (3002, .plain), (3003, .plain), (3004, .plain), (3005, .plain), (3006, .plain), (3007, .plain), (3008, .plain), (3009, .plain), (3010, .plain)]⟩
  | _ => ⟨[], []⟩
def F71_t (k : Nat) : Tab := entT 50 (F50_p k) <| entT 51 (F51_p k) <| entT 95 (F95_p k) <| entT 96 (F96_p k) <| entT 97 (F97_p k) <| noTab
abbrev F71_E (k : Nat) : Env := env (F71_t k) F71_h .own [] k
abbrev F71_a (a0_0 a0_1 a0_2 a0_3 a0_4 : Int) (a0_5 a0_6 a0_7 a0_8 : Bool) (a0_9 : List (den rng)) (a0_10 : List (den (.int .u8))) (a1 a2 : Int) : List Arg := [.agg [.l (.v (.int .i64 a0_0)), .l (.v (.int .i64 a0_1)), .l (.v (.int .i64 a0_2)), .l (.v (.int .i64 a0_3)), .l (.v (.int .i64 a0_4)), .l (.v (.bool a0_5)), .l (.v (.bool a0_6)), .l (.v (.bool a0_7)), .l (.v (.bool a0_8)), .l (.s .ro rng a0_9), .l (.s .ro (.int .u8) a0_10)], .one (.l (.v (.int .i64 a1))), .one (.l (.v (.int .i64 a2)))]
def F71_r (r : List (den (.int .u8))) : A × List (List Leaf) := (.one (.s .own (.int .u8) r), [])
def F71_s0 (a0_0 a0_1 a0_2 a0_3 a0_4 : Int) (a0_5 a0_6 a0_7 a0_8 : Bool) (a0_9 : List (den rng)) (a0_10 : List (den (.int .u8))) (a1 a2 : Int) (x8_0 : Int) (m7900_0 : List (den (.int .u8))) : St := ⟨(.one .d) :: (.one (.v (.int .i64 a1))) :: (.one (.v (.int .i64 a2))) :: (.one (.ptr (.cell 3000) 11 0)) :: dz 3 ((.one (.a (.cell 7900) 0 0 none)) :: (.one (.v (.int .i64 x8_0))) :: dz 83 []), [(3000, ⟨.v (.int .i64 a0_0), 0, 0⟩), (3001, ⟨.v (.int .i64 a0_1), 0, 0⟩), (3002, ⟨.v (.int .i64 a0_2), 0, 0⟩), (3003, ⟨.v (.int .i64 a0_3), 0, 0⟩), (3004, ⟨.v (.int .i64 a0_4), 0, 0⟩), (3005, ⟨.v (.bool a0_5), 0, 0⟩), (3006, ⟨.v (.bool a0_6), 0, 0⟩), (3007, ⟨.v (.bool a0_7), 0, 0⟩), (3008, ⟨.v (.bool a0_8), 0, 0⟩), (3009, ⟨.s .ro rng a0_9, 0, 0⟩), (3010, ⟨.s .ro (.int .u8) a0_10, 0, 0⟩), (7900, ⟨.s .own (.int .u8) m7900_0, 0, 0⟩)]⟩
def F71_l0_T {β : Type} (k : Nat) (a0_0 a0_1 a0_2 a0_3 a0_4 : Int) (a0_5 a0_6 a0_7 a0_8 : Bool) (a0_9 : List (den rng)) (a0_10 : List (den (.int .u8))) (a1 a2 : Int) (NX : Int → List (den (.int .u8)) → Option β) (RET : List (den (.int .u8)) → Option β) (x8_0 : Int) (m7900_0 : List (den (.int .u8))) : Option β := cond (decide (x8_0 < ((a0_9.length : Nat) : Int))) (cond (decide (0 ≤ x8_0)) (cond (decide (x8_0 < ((a0_9.length : Nat) : Int))) ((F95 k ((atI a0_9 x8_0).1) 2).bind fun b7 => cond (decide ((m7900_0.length + b7.length) * 1 ≤ 140737488355328)) (cond (decide (0 ≤ x8_0)) (cond (decide (x8_0 < ((a0_9.length : Nat) : Int))) ((F95 k ((atI a0_9 x8_0).2) 2).bind fun b8 => cond (decide (((m7900_0 ++ b7).length + b8.length) * 1 ≤ 140737488355328)) (NX (IntKind.i64.wrap (x8_0 + 1)) ((m7900_0 ++ b7) ++ b8)) none) none) none) none) none) none) (cond (decide ((m7900_0.length + [IntKind.u8.wrap (((a0_10.length : Nat) : Int))].length) * 1 ≤ 140737488355328)) (cond (decide (((m7900_0 ++ [IntKind.u8.wrap (((a0_10.length : Nat) : Int))]).length + a0_10.length) * 1 ≤ 140737488355328)) ((F97 k a1 a2 ((m7900_0 ++ [IntKind.u8.wrap (((a0_10.length : Nat) : Int))]) ++ a0_10)).bind fun b9 => (F95 k b9 2).bind fun b10 => cond (decide ((((m7900_0 ++ [IntKind.u8.wrap (((a0_10.length : Nat) : Int))]) ++ a0_10).length + b10.length) * 1 ≤ 140737488355328)) (RET (((m7900_0 ++ [IntKind.u8.wrap (((a0_10.length : Nat) : Int))]) ++ a0_10) ++ b10)) none) none) none)
def F71_l0 (k : Nat) (a0_0 a0_1 a0_2 a0_3 a0_4 : Int) (a0_5 a0_6 a0_7 a0_8 : Bool) (a0_9 : List (den rng)) (a0_10 : List (den (.int .u8))) (a1 a2 : Int) : Nat → Int → List (den (.int .u8)) → Option (List (den (.int .u8)))
  | 0, _, _ => none
  | n + 1, x8_0, m7900_0 => F71_l0_T k a0_0 a0_1 a0_2 a0_3 a0_4 a0_5 a0_6 a0_7 a0_8 a0_9 a0_10 a1 a2 (fun x8_0 m7900_0 => F71_l0 k a0_0 a0_1 a0_2 a0_3 a0_4 a0_5 a0_6 a0_7 a0_8 a0_9 a0_10 a1 a2 n x8_0 m7900_0) some x8_0 m7900_0
theorem F71_l0_rd {β : Type} (k n : Nat) (a0_0 a0_1 a0_2 a0_3 a0_4 : Int) (a0_5 a0_6 a0_7 a0_8 : Bool) (a0_9 : List (den rng)) (a0_10 : List (den (.int .u8))) (a1 a2 : Int) (x8_0 : Int) (m7900_0 : List (den (.int .u8))) (K : A × List (List Leaf) → Option β) :
    loopG (F71_E k) Try.f71 [1, 1, 1, 1, 0, 1, 0] 0 (kontAt (F71_E k) [1, 1, 1, 1, 0, 1, 0] (bodyOf Try.f71) 0 (endC (F71_E k) Try.f71 (F71_a a0_0 a0_1 a0_2 a0_3 a0_4 a0_5 a0_6 a0_7 a0_8 a0_9 a0_10 a1 a2) K)) (n + 1) (F71_s0 a0_0 a0_1 a0_2 a0_3 a0_4 a0_5 a0_6 a0_7 a0_8 a0_9 a0_10 a1 a2 x8_0 m7900_0) =
    F71_l0_T k a0_0 a0_1 a0_2 a0_3 a0_4 a0_5 a0_6 a0_7 a0_8 a0_9 a0_10 a1 a2 (fun x8_0 m7900_0 => loopG (F71_E k) Try.f71 [1, 1, 1, 1, 0, 1, 0] 0 (kontAt (F71_E k) [1, 1, 1, 1, 0, 1, 0] (bodyOf Try.f71) 0 (endC (F71_E k) Try.f71 (F71_a a0_0 a0_1 a0_2 a0_3 a0_4 a0_5 a0_6 a0_7 a0_8 a0_9 a0_10 a1 a2) K)) n (F71_s0 a0_0 a0_1 a0_2 a0_3 a0_4 a0_5 a0_6 a0_7 a0_8 a0_9 a0_10 a1 a2 x8_0 m7900_0)) (fun r => K (F71_r r)) x8_0 m7900_0 := by kernel_rfl
theorem F71_l0_lp {β : Type} (k : Nat) (a0_0 a0_1 a0_2 a0_3 a0_4 : Int) (a0_5 a0_6 a0_7 a0_8 : Bool) (a0_9 : List (den rng)) (a0_10 : List (den (.int .u8))) (a1 a2 : Int) (K : A × List (List Leaf) → Option β) (n : Nat) : ∀ (x8_0 : Int) (m7900_0 : List (den (.int .u8))), loopG (F71_E k) Try.f71 [1, 1, 1, 1, 0, 1, 0] 0 (kontAt (F71_E k) [1, 1, 1, 1, 0, 1, 0] (bodyOf Try.f71) 0 (endC (F71_E k) Try.f71 (F71_a a0_0 a0_1 a0_2 a0_3 a0_4 a0_5 a0_6 a0_7 a0_8 a0_9 a0_10 a1 a2) K)) n (F71_s0 a0_0 a0_1 a0_2 a0_3 a0_4 a0_5 a0_6 a0_7 a0_8 a0_9 a0_10 a1 a2 x8_0 m7900_0) =
    (F71_l0 k a0_0 a0_1 a0_2 a0_3 a0_4 a0_5 a0_6 a0_7 a0_8 a0_9 a0_10 a1 a2 n x8_0 m7900_0).bind fun r => K (F71_r r) := by
  induction n with
  | zero => intros; rfl
  | succ n ih =>
    intros
    rw [F71_l0_rd, F71_l0]
    simp only [F71_l0_T, bind_cond, Option.bind_assoc, Option.bind_some, Option.bind_none, Option.bind_fun_some, ih]
def F71_T {β : Type} (k : Nat) (a0_0 a0_1 a0_2 a0_3 a0_4 : Int) (a0_5 a0_6 a0_7 a0_8 : Bool) (a0_9 : List (den rng)) (a0_10 : List (den (.int .u8))) (a1 a2 : Int) (LP0 : Int → List (den (.int .u8)) → Option β) (RET : List (den (.int .u8)) → Option β) : Option β := (F50 k a0_0 a0_1 a0_2 a0_3 a0_4 a0_5 a0_6 a0_7 a0_8 a0_9 a0_10).bind fun b1 => cond (!b1) (RET []) ((F51 k a1 0 65535).bind fun b2 => cond (!b2) (RET []) ((F51 k a2 0 65535).bind fun b3 => cond (!b3) (RET []) ((F95 k a0_2 2).bind fun b4 => cond (decide (([IntKind.u8.wrap (a0_0), IntKind.u8.wrap (a0_1)].length + b4.length) * 1 ≤ 140737488355328)) ((F95 k a0_3 2).bind fun b5 => cond (decide ((([IntKind.u8.wrap (a0_0), IntKind.u8.wrap (a0_1)] ++ b4).length + b5.length) * 1 ≤ 140737488355328)) ((F96 k a0_0 a0_1 a0_2 a0_3 a0_4 a0_5 a0_6 a0_7 a0_8 a0_9 a0_10).bind fun b6 => cond (decide (((([IntKind.u8.wrap (a0_0), IntKind.u8.wrap (a0_1)] ++ b4) ++ b5).length + [IntKind.u8.wrap (a0_4), IntKind.u8.wrap (b6), IntKind.u8.wrap (((a0_9.length : Nat) : Int))].length) * 1 ≤ 140737488355328)) (LP0 0 ((([IntKind.u8.wrap (a0_0), IntKind.u8.wrap (a0_1)] ++ b4) ++ b5) ++ [IntKind.u8.wrap (a0_4), IntKind.u8.wrap (b6), IntKind.u8.wrap (((a0_9.length : Nat) : Int))])) none) none) none)))
def F71 (k : Nat) (a0_0 a0_1 a0_2 a0_3 a0_4 : Int) (a0_5 a0_6 a0_7 a0_8 : Bool) (a0_9 : List (den rng)) (a0_10 : List (den (.int .u8))) (a1 a2 : Int) : Option (List (den (.int .u8))) := F71_T k a0_0 a0_1 a0_2 a0_3 a0_4 a0_5 a0_6 a0_7 a0_8 a0_9 a0_10 a1 a2 (fun x8_0 m7900_0 => F71_l0 k a0_0 a0_1 a0_2 a0_3 a0_4 a0_5 a0_6 a0_7 a0_8 a0_9 a0_10 a1 a2 k x8_0 m7900_0) some
theorem F71_st {β : Type} (k : Nat) (a0_0 a0_1 a0_2 a0_3 a0_4 : Int) (a0_5 a0_6 a0_7 a0_8 : Bool) (a0_9 : List (den rng)) (a0_10 : List (den (.int .u8))) (a1 a2 : Int) (K : A × List (List Leaf) → Option β) : evalF (F71_E k) Try.f71 (F71_a a0_0 a0_1 a0_2 a0_3 a0_4 a0_5 a0_6 a0_7 a0_8 a0_9 a0_10 a1 a2) K =
    F71_T k a0_0 a0_1 a0_2 a0_3 a0_4 a0_5 a0_6 a0_7 a0_8 a0_9 a0_10 a1 a2 (fun x8_0 m7900_0 => loopG (F71_E k) Try.f71 [1, 1, 1, 1, 0, 1, 0] 0 (kontAt (F71_E k) [1, 1, 1, 1, 0, 1, 0] (bodyOf Try.f71) 0 (endC (F71_E k) Try.f71 (F71_a a0_0 a0_1 a0_2 a0_3 a0_4 a0_5 a0_6 a0_7 a0_8 a0_9 a0_10 a1 a2) K)) k (F71_s0 a0_0 a0_1 a0_2 a0_3 a0_4 a0_5 a0_6 a0_7 a0_8 a0_9 a0_10 a1 a2 x8_0 m7900_0)) (fun r => K (F71_r r)) := by kernel_rfl
theorem F71_ev {β : Type} (k : Nat) (a0_0 a0_1 a0_2 a0_3 a0_4 : Int) (a0_5 a0_6 a0_7 a0_8 : Bool) (a0_9 : List (den rng)) (a0_10 : List (den (.int .u8))) (a1 a2 : Int) (K : A × List (List Leaf) → Option β) : evalF (F71_E k) Try.f71 (F71_a a0_0 a0_1 a0_2 a0_3 a0_4 a0_5 a0_6 a0_7 a0_8 a0_9 a0_10 a1 a2) K = (F71 k a0_0 a0_1 a0_2 a0_3 a0_4 a0_5 a0_6 a0_7 a0_8 a0_9 a0_10 a1 a2).bind fun r => K (F71_r r) := by
  rw [F71_st, F71]
  simp only [F71_T, bind_cond, Option.bind_assoc, Option.bind_some, Option.bind_none, Option.bind_fun_some, F71_l0_lp]
theorem F71_tOk (k : Nat) : TabFn Try.prog (F71_t k) := .ent (F50_q k) F50_f (.ent (F51_q k) F51_f (.ent (F95_q k) F95_f (.ent (F96_q k) F96_f (.ent (F97_q k) F97_f (.none)))))
theorem F71_con (k : Nat) (a0_0 a0_1 a0_2 a0_3 a0_4 : Int) (a0_5 a0_6 a0_7 a0_8 : Bool) (a0_9 : List (den rng)) (a0_10 : List (den (.int .u8))) (a1 a2 : Int) : Contract Try.prog 71 (F71_a a0_0 a0_1 a0_2 a0_3 a0_4 a0_5 a0_6 a0_7 a0_8 a0_9 a0_10 a1 a2) ⟨F71 k a0_0 a0_1 a0_2 a0_3 a0_4 a0_5 a0_6 a0_7 a0_8 a0_9 a0_10 a1 a2, F71_r⟩ := con_of (envOk (F71_tOk k) _ _ _ _) mixed Try.func71 rfl rfl (F71_ev k a0_0 a0_1 a0_2 a0_3 a0_4 a0_5 a0_6 a0_7 a0_8 a0_9 a0_10 a1 a2 some)
def F71_sh : List AK := [.agg [.l (.int .i64), .l (.int .i64), .l (.int .i64), .l (.int .i64), .l (.int .i64), .l (.bool), .l (.bool), .l (.bool), .l (.bool), .l (.sl .ro rng), .l (.sl .ro (.int .u8))], .one (.l (.int .i64)), .one (.l (.int .i64))]
def F71_p (k : Nat) : List Arg → Option CR := cle F71_sh fun x => ⟨F71 k x.1.1 x.1.2.1 x.1.2.2.1 x.1.2.2.2.1 x.1.2.2.2.2.1 x.1.2.2.2.2.2.1 x.1.2.2.2.2.2.2.1 x.1.2.2.2.2.2.2.2.1 x.1.2.2.2.2.2.2.2.2.1 x.1.2.2.2.2.2.2.2.2.2.1 x.1.2.2.2.2.2.2.2.2.2.2.1 x.2.1 x.2.2.1, F71_r⟩
theorem F71_q (k : Nat) : ∀ xs cr, F71_p k xs = some cr → Contract Try.prog 71 xs cr := cle_ok fun x => F71_con k _ _ _ _ _ _ _ _ _ _ _ _ _
theorem F71_f : FnOk Try.prog 71 := .of (by kernel_rfl)
def F98_t (k : Nat) : Tab := entT 51 (F51_p k) <| noTab
abbrev F98_E (k : Nat) : Env := env (F98_t k) noHint .own [] k
abbrev F98_a (a0_0 a0_1 a0_2 a0_3 a0_4 a0_5 : Int) (a0_6 a0_7 : Bool) (a0_8 : List (den (.int .u8))) : List Arg := [.agg [.l (.v (.int .i64 a0_0)), .l (.v (.int .i64 a0_1)), .l (.v (.int .i64 a0_2)), .l (.v (.int .i64 a0_3)), .l (.v (.int .i64 a0_4)), .l (.v (.int .i64 a0_5)), .l (.v (.bool a0_6)), .l (.v (.bool a0_7)), .l (.s .ro (.int .u8) a0_8)]]
def F98_r (r : Bool) : A × List (List Leaf) := (.one (.v (.bool r)), [])
def F98_T {β : Type} (k : Nat) (a0_0 a0_1 a0_2 a0_3 a0_4 a0_5 : Int) (a0_6 a0_7 : Bool) (a0_8 : List (den (.int .u8))) (RET : Bool → Option β) : Option β := (F51 k a0_0 0 65535).bind fun b1 => cond (!b1) (RET false) ((F51 k a0_1 0 65535).bind fun b2 => cond (!b2) (RET false) ((F51 k a0_2 0 255).bind fun b3 => cond (!b3) (RET false) ((F51 k a0_3 0 255).bind fun b4 => cond (!b4) (RET false) ((F51 k a0_4 0 255).bind fun b5 => cond (!b5) (RET false) ((F51 k a0_5 0 255).bind fun b6 => cond (!b6) (RET false) (cond (decide (((a0_8.length : Nat) : Int) ≤ 48)) (cond (!a0_6) (cond (!a0_7) (RET true) (cond (a0_5 == 0) (RET (!a0_6)) (RET false))) (cond (decide (((a0_8.length : Nat) : Int) > 0)) (cond (!a0_7) (RET true) (cond (a0_5 == 0) (RET (!a0_6)) (RET false))) (RET false))) (RET false)))))))
def F98 (k : Nat) (a0_0 a0_1 a0_2 a0_3 a0_4 a0_5 : Int) (a0_6 a0_7 : Bool) (a0_8 : List (den (.int .u8))) : Option (Bool) := F98_T k a0_0 a0_1 a0_2 a0_3 a0_4 a0_5 a0_6 a0_7 a0_8 some
theorem F98_st {β : Type} (k : Nat) (a0_0 a0_1 a0_2 a0_3 a0_4 a0_5 : Int) (a0_6 a0_7 : Bool) (a0_8 : List (den (.int .u8))) (K : A × List (List Leaf) → Option β) : evalF (F98_E k) Try.f98 (F98_a a0_0 a0_1 a0_2 a0_3 a0_4 a0_5 a0_6 a0_7 a0_8) K =
    F98_T k a0_0 a0_1 a0_2 a0_3 a0_4 a0_5 a0_6 a0_7 a0_8 (fun r => K (F98_r r)) := by kernel_rfl
theorem F98_ev {β : Type} (k : Nat) (a0_0 a0_1 a0_2 a0_3 a0_4 a0_5 : Int) (a0_6 a0_7 : Bool) (a0_8 : List (den (.int .u8))) (K : A × List (List Leaf) → Option β) : evalF (F98_E k) Try.f98 (F98_a a0_0 a0_1 a0_2 a0_3 a0_4 a0_5 a0_6 a0_7 a0_8) K = (F98 k a0_0 a0_1 a0_2 a0_3 a0_4 a0_5 a0_6 a0_7 a0_8).bind fun r => K (F98_r r) := by
  rw [F98_st, F98]
  simp only [F98_T, bind_cond, Option.bind_assoc, Option.bind_some, Option.bind_none, Option.bind_fun_some]
theorem F98_tOk (k : Nat) : TabFn Try.prog (F98_t k) := .ent (F51_q k) F51_f (.none)
theorem F98_con (k : Nat) (a0_0 a0_1 a0_2 a0_3 a0_4 a0_5 : Int) (a0_6 a0_7 : Bool) (a0_8 : List (den (.int .u8))) : Contract Try.prog 98 (F98_a a0_0 a0_1 a0_2 a0_3 a0_4 a0_5 a0_6 a0_7 a0_8) ⟨F98 k a0_0 a0_1 a0_2 a0_3 a0_4 a0_5 a0_6 a0_7 a0_8, F98_r⟩ := con_of (envOk (F98_tOk k) _ _ _ _) mixed Try.func98 rfl rfl (F98_ev k a0_0 a0_1 a0_2 a0_3 a0_4 a0_5 a0_6 a0_7 a0_8 some)
def F98_sh : List AK := [.agg [.l (.int .i64), .l (.int .i64), .l (.int .i64), .l (.int .i64), .l (.int .i64), .l (.int .i64), .l (.bool), .l (.bool), .l (.sl .ro (.int .u8))]]
def F98_p (k : Nat) : List Arg → Option CR := cle F98_sh fun x => ⟨F98 k x.1.1 x.1.2.1 x.1.2.2.1 x.1.2.2.2.1 x.1.2.2.2.2.1 x.1.2.2.2.2.2.1 x.1.2.2.2.2.2.2.1 x.1.2.2.2.2.2.2.2.1 x.1.2.2.2.2.2.2.2.2.1, F98_r⟩
theorem F98_q (k : Nat) : ∀ xs cr, F98_p k xs = some cr → Contract Try.prog 98 xs cr := cle_ok fun x => F98_con k _ _ _ _ _ _ _ _ _
theorem F98_f : FnOk Try.prog 98 := .of (by kernel_rfl)
abbrev F115_E (k : Nat) : Env := env noTab noHint .own [] k
abbrev F115_a (a0_0 a0_1 a0_2 a0_3 a0_4 a0_5 : Int) (a0_6 a0_7 : Bool) (a0_8 : List (den (.int .u8))) : List Arg := [.agg [.l (.v (.int .i64 a0_0)), .l (.v (.int .i64 a0_1)), .l (.v (.int .i64 a0_2)), .l (.v (.int .i64 a0_3)), .l (.v (.int .i64 a0_4)), .l (.v (.int .i64 a0_5)), .l (.v (.bool a0_6)), .l (.v (.bool a0_7)), .l (.s .ro (.int .u8) a0_8)]]
def F115_r (r : Int) : A × List (List Leaf) := (.one (.v (.int .i64 r)), [])
def F115 (k : Nat) (a0_0 a0_1 a0_2 a0_3 a0_4 a0_5 : Int) (a0_6 a0_7 : Bool) (a0_8 : List (den (.int .u8))) : Option (Int) := cond a0_6 (cond a0_7 (some 3) (some 1)) (cond a0_7 (some 2) (some 0))
theorem F115_st {β : Type} (k : Nat) (a0_0 a0_1 a0_2 a0_3 a0_4 a0_5 : Int) (a0_6 a0_7 : Bool) (a0_8 : List (den (.int .u8))) (K : A × List (List Leaf) → Option β) : evalF (F115_E k) Try.f115 (F115_a a0_0 a0_1 a0_2 a0_3 a0_4 a0_5 a0_6 a0_7 a0_8) K =
    cond a0_6 (cond a0_7 (K (.one (.v (.int .i64 3)), [])) (K (.one (.v (.int .i64 1)), []))) (cond a0_7 (K (.one (.v (.int .i64 2)), [])) (K (.one (.v (.int .i64 0)), []))) := by kernel_rfl
theorem F115_ev {β : Type} (k : Nat) (a0_0 a0_1 a0_2 a0_3 a0_4 a0_5 : Int) (a0_6 a0_7 : Bool) (a0_8 : List (den (.int .u8))) (K : A × List (List Leaf) → Option β) : evalF (F115_E k) Try.f115 (F115_a a0_0 a0_1 a0_2 a0_3 a0_4 a0_5 a0_6 a0_7 a0_8) K = (F115 k a0_0 a0_1 a0_2 a0_3 a0_4 a0_5 a0_6 a0_7 a0_8).bind fun r => K (F115_r r) := by
  rw [F115_st, F115]
  simp only [F115_r, bind_cond, Option.bind_assoc, Option.bind_some, Option.bind_none, Option.bind_fun_some]
theorem F115_con (k : Nat) (a0_0 a0_1 a0_2 a0_3 a0_4 a0_5 : Int) (a0_6 a0_7 : Bool) (a0_8 : List (den (.int .u8))) : Contract Try.prog 115 (F115_a a0_0 a0_1 a0_2 a0_3 a0_4 a0_5 a0_6 a0_7 a0_8) ⟨F115 k a0_0 a0_1 a0_2 a0_3 a0_4 a0_5 a0_6 a0_7 a0_8, F115_r⟩ := con_of (envOk .none _ _ _ _) mixed Try.func115 rfl rfl (F115_ev k a0_0 a0_1 a0_2 a0_3 a0_4 a0_5 a0_6 a0_7 a0_8 some)
def F115_sh : List AK := [.agg [.l (.int .i64), .l (.int .i64), .l (.int .i64), .l (.int .i64), .l (.int .i64), .l (.int .i64), .l (.bool), .l (.bool), .l (.sl .ro (.int .u8))]]
def F115_p (k : Nat) : List Arg → Option CR := cle F115_sh fun x => ⟨F115 k x.1.1 x.1.2.1 x.1.2.2.1 x.1.2.2.2.1 x.1.2.2.2.2.1 x.1.2.2.2.2.2.1 x.1.2.2.2.2.2.2.1 x.1.2.2.2.2.2.2.2.1 x.1.2.2.2.2.2.2.2.2.1, F115_r⟩
theorem F115_q (k : Nat) : ∀ xs cr, F115_p k xs = some cr → Contract Try.prog 115 xs cr := cle_ok fun x => F115_con k _ _ _ _ _ _ _ _ _
theorem F115_f : FnOk Try.prog 115 := .of (by kernel_rfl)
def F99_t (k : Nat) : Tab := entT 95 (F95_p k) <| entT 115 (F115_p k) <| noTab
abbrev F99_E (k : Nat) : Env := env (F99_t k) noHint .own [] k
abbrev F99_a (a0_0 a0_1 a0_2 a0_3 a0_4 a0_5 : Int) (a0_6 a0_7 : Bool) (a0_8 : List (den (.int .u8))) : List Arg := [.agg [.l (.v (.int .i64 a0_0)), .l (.v (.int .i64 a0_1)), .l (.v (.int .i64 a0_2)), .l (.v (.int .i64 a0_3)), .l (.v (.int .i64 a0_4)), .l (.v (.int .i64 a0_5)), .l (.v (.bool a0_6)), .l (.v (.bool a0_7)), .l (.s .ro (.int .u8) a0_8)]]
def F99_r (r : List (den (.int .u8))) : A × List (List Leaf) := (.one (.s .own (.int .u8) r), [])
def F99_T {β : Type} (k : Nat) (a0_0 a0_1 a0_2 a0_3 a0_4 a0_5 : Int) (a0_6 a0_7 : Bool) (a0_8 : List (den (.int .u8))) (RET : List (den (.int .u8)) → Option β) : Option β := (F95 k a0_0 2).bind fun b1 => (F95 k a0_1 2).bind fun b2 => cond (decide ((b1.length + b2.length) * 1 ≤ 140737488355328)) ((F115 k a0_0 a0_1 a0_2 a0_3 a0_4 a0_5 a0_6 a0_7 a0_8).bind fun b3 => cond (decide (((b1 ++ b2).length + [IntKind.u8.wrap (a0_2), IntKind.u8.wrap (a0_3), IntKind.u8.wrap (a0_4), IntKind.u8.wrap (a0_5), IntKind.u8.wrap (b3), IntKind.u8.wrap (((a0_8.length : Nat) : Int))].length) * 1 ≤ 140737488355328)) (RET ((b1 ++ b2) ++ [IntKind.u8.wrap (a0_2), IntKind.u8.wrap (a0_3), IntKind.u8.wrap (a0_4), IntKind.u8.wrap (a0_5), IntKind.u8.wrap (b3), IntKind.u8.wrap (((a0_8.length : Nat) : Int))])) none) none
def F99 (k : Nat) (a0_0 a0_1 a0_2 a0_3 a0_4 a0_5 : Int) (a0_6 a0_7 : Bool) (a0_8 : List (den (.int .u8))) : Option (List (den (.int .u8))) := F99_T k a0_0 a0_1 a0_2 a0_3 a0_4 a0_5 a0_6 a0_7 a0_8 some
theorem F99_st {β : Type} (k : Nat) (a0_0 a0_1 a0_2 a0_3 a0_4 a0_5 : Int) (a0_6 a0_7 : Bool) (a0_8 : List (den (.int .u8))) (K : A × List (List Leaf) → Option β) : evalF (F99_E k) Try.f99 (F99_a a0_0 a0_1 a0_2 a0_3 a0_4 a0_5 a0_6 a0_7 a0_8) K =
    F99_T k a0_0 a0_1 a0_2 a0_3 a0_4 a0_5 a0_6 a0_7 a0_8 (fun r => K (F99_r r)) := by kernel_rfl
theorem F99_ev {β : Type} (k : Nat) (a0_0 a0_1 a0_2 a0_3 a0_4 a0_5 : Int) (a0_6 a0_7 : Bool) (a0_8 : List (den (.int .u8))) (K : A × List (List Leaf) → Option β) : evalF (F99_E k) Try.f99 (F99_a a0_0 a0_1 a0_2 a0_3 a0_4 a0_5 a0_6 a0_7 a0_8) K = (F99 k a0_0 a0_1 a0_2 a0_3 a0_4 a0_5 a0_6 a0_7 a0_8).bind fun r => K (F99_r r) := by
  rw [F99_st, F99]
  simp only [F99_T, bind_cond, Option.bind_assoc, Option.bind_some, Option.bind_none, Option.bind_fun_some]
theorem F99_tOk (k : Nat) : TabFn Try.prog (F99_t k) := .ent (F95_q k) F95_f (.ent (F115_q k) F115_f (.none))
theorem F99_con (k : Nat) (a0_0 a0_1 a0_2 a0_3 a0_4 a0_5 : Int) (a0_6 a0_7 : Bool) (a0_8 : List (den (.int .u8))) : Contract Try.prog 99 (F99_a a0_0 a0_1 a0_2 a0_3 a0_4 a0_5 a0_6 a0_7 a0_8) ⟨F99 k a0_0 a0_1 a0_2 a0_3 a0_4 a0_5 a0_6 a0_7 a0_8, F99_r⟩ := con_of (envOk (F99_tOk k) _ _ _ _) mixed Try.func99 rfl rfl (F99_ev k a0_0 a0_1 a0_2 a0_3 a0_4 a0_5 a0_6 a0_7 a0_8 some)
def F99_sh : List AK := [.agg [.l (.int .i64), .l (.int .i64), .l (.int .i64), .l (.int .i64), .l (.int .i64), .l (.int .i64), .l (.bool), .l (.bool), .l (.sl .ro (.int .u8))]]
def F99_p (k : Nat) : List Arg → Option CR := cle F99_sh fun x => ⟨F99 k x.1.1 x.1.2.1 x.1.2.2.1 x.1.2.2.2.1 x.1.2.2.2.2.1 x.1.2.2.2.2.2.1 x.1.2.2.2.2.2.2.1 x.1.2.2.2.2.2.2.2.1 x.1.2.2.2.2.2.2.2.2.1, F99_r⟩
theorem F99_q (k : Nat) : ∀ xs cr, F99_p k xs = some cr → Contract Try.prog 99 xs cr := cle_ok fun x => F99_con k _ _ _ _ _ _ _ _ _
theorem F99_f : FnOk Try.prog 99 := .of (by kernel_rfl)
def F72_t (k : Nat) : Tab := entT 98 (F98_p k) <| entT 99 (F99_p k) <| entT 100 (F100_p k) <| entT 95 (F95_p k) <| noTab
abbrev F72_E (k : Nat) : Env := env (F72_t k) noHint .own [] k
abbrev F72_a (a0_0 a0_1 a0_2 a0_3 a0_4 a0_5 : Int) (a0_6 a0_7 : Bool) (a0_8 : List (den (.int .u8))) : List Arg := [.agg [.l (.v (.int .i64 a0_0)), .l (.v (.int .i64 a0_1)), .l (.v (.int .i64 a0_2)), .l (.v (.int .i64 a0_3)), .l (.v (.int .i64 a0_4)), .l (.v (.int .i64 a0_5)), .l (.v (.bool a0_6)), .l (.v (.bool a0_7)), .l (.s .ro (.int .u8) a0_8)]]
def F72_r (r : List (den (.int .u8))) : A × List (List Leaf) := (.one (.s .own (.int .u8) r), [])
def F72_T {β : Type} (k : Nat) (a0_0 a0_1 a0_2 a0_3 a0_4 a0_5 : Int) (a0_6 a0_7 : Bool) (a0_8 : List (den (.int .u8))) (RET : List (den (.int .u8)) → Option β) : Option β := (F98 k a0_0 a0_1 a0_2 a0_3 a0_4 a0_5 a0_6 a0_7 a0_8).bind fun b1 => cond (!b1) (RET []) ((F99 k a0_0 a0_1 a0_2 a0_3 a0_4 a0_5 a0_6 a0_7 a0_8).bind fun b2 => (F100 k b2).bind fun b3 => (F95 k b3 2).bind fun b4 => cond (decide ((b2.length + b4.length) * 1 ≤ 140737488355328)) (cond (decide (((b2 ++ b4).length + a0_8.length) * 1 ≤ 140737488355328)) (RET ((b2 ++ b4) ++ a0_8)) none) none)
def F72 (k : Nat) (a0_0 a0_1 a0_2 a0_3 a0_4 a0_5 : Int) (a0_6 a0_7 : Bool) (a0_8 : List (den (.int .u8))) : Option (List (den (.int .u8))) := F72_T k a0_0 a0_1 a0_2 a0_3 a0_4 a0_5 a0_6 a0_7 a0_8 some
theorem F72_st {β : Type} (k : Nat) (a0_0 a0_1 a0_2 a0_3 a0_4 a0_5 : Int) (a0_6 a0_7 : Bool) (a0_8 : List (den (.int .u8))) (K : A × List (List Leaf) → Option β) : evalF (F72_E k) Try.f72 (F72_a a0_0 a0_1 a0_2 a0_3 a0_4 a0_5 a0_6 a0_7 a0_8) K =
    F72_T k a0_0 a0_1 a0_2 a0_3 a0_4 a0_5 a0_6 a0_7 a0_8 (fun r => K (F72_r r)) := by kernel_rfl
theorem F72_ev {β : Type} (k : Nat) (a0_0 a0_1 a0_2 a0_3 a0_4 a0_5 : Int) (a0_6 a0_7 : Bool) (a0_8 : List (den (.int .u8))) (K : A × List (List Leaf) → Option β) : evalF (F72_E k) Try.f72 (F72_a a0_0 a0_1 a0_2 a0_3 a0_4 a0_5 a0_6 a0_7 a0_8) K = (F72 k a0_0 a0_1 a0_2 a0_3 a0_4 a0_5 a0_6 a0_7 a0_8).bind fun r => K (F72_r r) := by
  rw [F72_st, F72]
  simp only [F72_T, bind_cond, Option.bind_assoc, Option.bind_some, Option.bind_none, Option.bind_fun_some]
theorem F72_tOk (k : Nat) : TabFn Try.prog (F72_t k) := .ent (F98_q k) F98_f (.ent (F99_q k) F99_f (.ent (F100_q k) F100_f (.ent (F95_q k) F95_f (.none))))
theorem F72_con (k : Nat) (a0_0 a0_1 a0_2 a0_3 a0_4 a0_5 : Int) (a0_6 a0_7 : Bool) (a0_8 : List (den (.int .u8))) : Contract Try.prog 72 (F72_a a0_0 a0_1 a0_2 a0_3 a0_4 a0_5 a0_6 a0_7 a0_8) ⟨F72 k a0_0 a0_1 a0_2 a0_3 a0_4 a0_5 a0_6 a0_7 a0_8, F72_r⟩ := con_of (envOk (F72_tOk k) _ _ _ _) mixed Try.func72 rfl rfl (F72_ev k a0_0 a0_1 a0_2 a0_3 a0_4 a0_5 a0_6 a0_7 a0_8 some)
def F72_sh : List AK := [.agg [.l (.int .i64), .l (.int .i64), .l (.int .i64), .l (.int .i64), .l (.int .i64), .l (.int .i64), .l (.bool), .l (.bool), .l (.sl .ro (.int .u8))]]
def F72_p (k : Nat) : List Arg → Option CR := cle F72_sh fun x => ⟨F72 k x.1.1 x.1.2.1 x.1.2.2.1 x.1.2.2.2.1 x.1.2.2.2.2.1 x.1.2.2.2.2.2.1 x.1.2.2.2.2.2.2.1 x.1.2.2.2.2.2.2.2.1 x.1.2.2.2.2.2.2.2.2.1, F72_r⟩
theorem F72_q (k : Nat) : ∀ xs cr, F72_p k xs = some cr → Contract Try.prog 72 xs cr := cle_ok fun x => F72_con k _ _ _ _ _ _ _ _ _
theorem F72_f : FnOk Try.prog 72 := .of (by kernel_rfl)
def F101_t (k : Nat) : Tab := entT 51 (F51_p k) <| noTab
abbrev F101_E (k : Nat) : Env := env (F101_t k) noHint .own [] k
abbrev F101_a (a0_0 a0_1 a0_2 : Int) (a0_3 : List (den (.int .u8))) : List Arg := [.agg [.l (.v (.int .i64 a0_0)), .l (.v (.int .i64 a0_1)), .l (.v (.int .i64 a0_2)), .l (.s .ro (.int .u8) a0_3)]]
def F101_r (r : Bool) : A × List (List Leaf) := (.one (.v (.bool r)), [])
def F101_T {β : Type} (k : Nat) (a0_0 a0_1 a0_2 : Int) (a0_3 : List (den (.int .u8))) (RET : Bool → Option β) : Option β := (F51 k a0_0 0 255).bind fun b1 => cond b1 ((F51 k a0_1 0 254).bind fun b2 => cond b2 ((F51 k a0_2 0 255).bind fun b3 => cond b3 (RET (decide (((a0_3.length : Nat) : Int) ≤ 64))) (RET false)) (RET false)) (RET false)
def F101 (k : Nat) (a0_0 a0_1 a0_2 : Int) (a0_3 : List (den (.int .u8))) : Option (Bool) := F101_T k a0_0 a0_1 a0_2 a0_3 some
theorem F101_st {β : Type} (k : Nat) (a0_0 a0_1 a0_2 : Int) (a0_3 : List (den (.int .u8))) (K : A × List (List Leaf) → Option β) : evalF (F101_E k) Try.f101 (F101_a a0_0 a0_1 a0_2 a0_3) K =
    F101_T k a0_0 a0_1 a0_2 a0_3 (fun r => K (F101_r r)) := by kernel_rfl
theorem F101_ev {β : Type} (k : Nat) (a0_0 a0_1 a0_2 : Int) (a0_3 : List (den (.int .u8))) (K : A × List (List Leaf) → Option β) : evalF (F101_E k) Try.f101 (F101_a a0_0 a0_1 a0_2 a0_3) K = (F101 k a0_0 a0_1 a0_2 a0_3).bind fun r => K (F101_r r) := by
  rw [F101_st, F101]
  simp only [F101_T, bind_cond, Option.bind_assoc, Option.bind_some, Option.bind_none, Option.bind_fun_some]
theorem F101_tOk (k : Nat) : TabFn Try.prog (F101_t k) := .ent (F51_q k) F51_f (.none)
theorem F101_con (k : Nat) (a0_0 a0_1 a0_2 : Int) (a0_3 : List (den (.int .u8))) : Contract Try.prog 101 (F101_a a0_0 a0_1 a0_2 a0_3) ⟨F101 k a0_0 a0_1 a0_2 a0_3, F101_r⟩ := con_of (envOk (F101_tOk k) _ _ _ _) mixed Try.func101 rfl rfl (F101_ev k a0_0 a0_1 a0_2 a0_3 some)
def F101_sh : List AK := [.agg [.l (.int .i64), .l (.int .i64), .l (.int .i64), .l (.sl .ro (.int .u8))]]
def F101_p (k : Nat) : List Arg → Option CR := cle F101_sh fun x => ⟨F101 k x.1.1 x.1.2.1 x.1.2.2.1 x.1.2.2.2.1, F101_r⟩
theorem F101_q (k : Nat) : ∀ xs cr, F101_p k xs = some cr → Contract Try.prog 101 xs cr := cle_ok fun x => F101_con k _ _ _ _
theorem F101_f : FnOk Try.prog 101 := .of (by kernel_rfl)
def F73_t (k : Nat) : Tab := entT 101 (F101_p k) <| entT 100 (F100_p k) <| entT 95 (F95_p k) <| noTab
abbrev F73_E (k : Nat) : Env := env (F73_t k) noHint .own [] k
abbrev F73_a (a0_0 a0_1 a0_2 : Int) (a0_3 : List (den (.int .u8))) : List Arg := [.agg [.l (.v (.int .i64 a0_0)), .l (.v (.int .i64 a0_1)), .l (.v (.int .i64 a0_2)), .l (.s .ro (.int .u8) a0_3)]]
def F73_r (r : List (den (.int .u8))) : A × List (List Leaf) := (.one (.s .own (.int .u8) r), [])
def F73_T {β : Type} (k : Nat) (a0_0 a0_1 a0_2 : Int) (a0_3 : List (den (.int .u8))) (RET : List (den (.int .u8)) → Option β) : Option β := (F101 k a0_0 a0_1 a0_2 a0_3).bind fun b1 => cond (!b1) (RET []) (cond (decide (([IntKind.u8.wrap (a0_0), IntKind.u8.wrap (a0_1), IntKind.u8.wrap (a0_2), IntKind.u8.wrap (((a0_3.length : Nat) : Int))].length + a0_3.length) * 1 ≤ 140737488355328)) ((F100 k ([IntKind.u8.wrap (a0_0), IntKind.u8.wrap (a0_1), IntKind.u8.wrap (a0_2), IntKind.u8.wrap (((a0_3.length : Nat) : Int))] ++ a0_3)).bind fun b2 => (F95 k b2 2).bind fun b3 => cond (decide ((([IntKind.u8.wrap (a0_0), IntKind.u8.wrap (a0_1), IntKind.u8.wrap (a0_2), IntKind.u8.wrap (((a0_3.length : Nat) : Int))] ++ a0_3).length + b3.length) * 1 ≤ 140737488355328)) (RET (([IntKind.u8.wrap (a0_0), IntKind.u8.wrap (a0_1), IntKind.u8.wrap (a0_2), IntKind.u8.wrap (((a0_3.length : Nat) : Int))] ++ a0_3) ++ b3)) none) none)
def F73 (k : Nat) (a0_0 a0_1 a0_2 : Int) (a0_3 : List (den (.int .u8))) : Option (List (den (.int .u8))) := F73_T k a0_0 a0_1 a0_2 a0_3 some
theorem F73_st {β : Type} (k : Nat) (a0_0 a0_1 a0_2 : Int) (a0_3 : List (den (.int .u8))) (K : A × List (List Leaf) → Option β) : evalF (F73_E k) Try.f73 (F73_a a0_0 a0_1 a0_2 a0_3) K =
    F73_T k a0_0 a0_1 a0_2 a0_3 (fun r => K (F73_r r)) := by kernel_rfl
theorem F73_ev {β : Type} (k : Nat) (a0_0 a0_1 a0_2 : Int) (a0_3 : List (den (.int .u8))) (K : A × List (List Leaf) → Option β) : evalF (F73_E k) Try.f73 (F73_a a0_0 a0_1 a0_2 a0_3) K = (F73 k a0_0 a0_1 a0_2 a0_3).bind fun r => K (F73_r r) := by
  rw [F73_st, F73]
  simp only [F73_T, bind_cond, Option.bind_assoc, Option.bind_some, Option.bind_none, Option.bind_fun_some]
theorem F73_tOk (k : Nat) : TabFn Try.prog (F73_t k) := .ent (F101_q k) F101_f (.ent (F100_q k) F100_f (.ent (F95_q k) F95_f (.none)))
theorem F73_con (k : Nat) (a0_0 a0_1 a0_2 : Int) (a0_3 : List (den (.int .u8))) : Contract Try.prog 73 (F73_a a0_0 a0_1 a0_2 a0_3) ⟨F73 k a0_0 a0_1 a0_2 a0_3, F73_r⟩ := con_of (envOk (F73_tOk k) _ _ _ _) mixed Try.func73 rfl rfl (F73_ev k a0_0 a0_1 a0_2 a0_3 some)
def F73_sh : List AK := [.agg [.l (.int .i64), .l (.int .i64), .l (.int .i64), .l (.sl .ro (.int .u8))]]
def F73_p (k : Nat) : List Arg → Option CR := cle F73_sh fun x => ⟨F73 k x.1.1 x.1.2.1 x.1.2.2.1 x.1.2.2.2.1, F73_r⟩
theorem F73_q (k : Nat) : ∀ xs cr, F73_p k xs = some cr → Contract Try.prog 73 xs cr := cle_ok fun x => F73_con k _ _ _ _
theorem F73_f : FnOk Try.prog 73 := .of (by kernel_rfl)
def F29_t (k : Nat) : Tab := entT 71 (F71_p k) <| entT 72 (F72_p k) <| entT 73 (F73_p k) <| noTab
abbrev F29_E (k : Nat) : Env := env (F29_t k) noHint .own [] k
abbrev F29_a (a0_0 a0_1 a0_2 a0_3 a0_4 : Int) (a0_5 a0_6 a0_7 a0_8 : Bool) (a0_9 : List (den rng)) (a0_10 : List (den (.int .u8))) (a1 a2 a3 a4 : Int) : List Arg := [.agg [.l (.v (.int .i64 a0_0)), .l (.v (.int .i64 a0_1)), .l (.v (.int .i64 a0_2)), .l (.v (.int .i64 a0_3)), .l (.v (.int .i64 a0_4)), .l (.v (.bool a0_5)), .l (.v (.bool a0_6)), .l (.v (.bool a0_7)), .l (.v (.bool a0_8)), .l (.s .ro rng a0_9), .l (.s .ro (.int .u8) a0_10)], .one (.l (.v (.int .i64 a1))), .one (.l (.v (.int .i64 a2))), .one (.l (.v (.int .i64 a3))), .one (.l (.v (.int .i64 a4)))]
def F29_r (r : List (den (.int .u8))) : A × List (List Leaf) := (.one (.s .own (.int .u8) r), [])
def F29_T {β : Type} (k : Nat) (a0_0 a0_1 a0_2 a0_3 a0_4 : Int) (a0_5 a0_6 a0_7 a0_8 : Bool) (a0_9 : List (den rng)) (a0_10 : List (den (.int .u8))) (a1 a2 a3 a4 : Int) (RET : List (den (.int .u8)) → Option β) : Option β := (F71 k a0_0 a0_1 a0_2 a0_3 a0_4 a0_5 a0_6 a0_7 a0_8 a0_9 a0_10 a1 a2).bind fun b1 => cond (((b1.length : Nat) : Int) == 0) (RET []) ((F72 k a1 a2 6 64 0 0 false false b1).bind fun b2 => (F73 k a4 a3 8 b2).bind fun b3 => RET b3)
def F29 (k : Nat) (a0_0 a0_1 a0_2 a0_3 a0_4 : Int) (a0_5 a0_6 a0_7 a0_8 : Bool) (a0_9 : List (den rng)) (a0_10 : List (den (.int .u8))) (a1 a2 a3 a4 : Int) : Option (List (den (.int .u8))) := F29_T k a0_0 a0_1 a0_2 a0_3 a0_4 a0_5 a0_6 a0_7 a0_8 a0_9 a0_10 a1 a2 a3 a4 some
theorem F29_st {β : Type} (k : Nat) (a0_0 a0_1 a0_2 a0_3 a0_4 : Int) (a0_5 a0_6 a0_7 a0_8 : Bool) (a0_9 : List (den rng)) (a0_10 : List (den (.int .u8))) (a1 a2 a3 a4 : Int) (K : A × List (List Leaf) → Option β) : evalF (F29_E k) Try.f29 (F29_a a0_0 a0_1 a0_2 a0_3 a0_4 a0_5 a0_6 a0_7 a0_8 a0_9 a0_10 a1 a2 a3 a4) K =
    F29_T k a0_0 a0_1 a0_2 a0_3 a0_4 a0_5 a0_6 a0_7 a0_8 a0_9 a0_10 a1 a2 a3 a4 (fun r => K (F29_r r)) := by kernel_rfl
theorem F29_ev {β : Type} (k : Nat) (a0_0 a0_1 a0_2 a0_3 a0_4 : Int) (a0_5 a0_6 a0_7 a0_8 : Bool) (a0_9 : List (den rng)) (a0_10 : List (den (.int .u8))) (a1 a2 a3 a4 : Int) (K : A × List (List Leaf) → Option β) : evalF (F29_E k) Try.f29 (F29_a a0_0 a0_1 a0_2 a0_3 a0_4 a0_5 a0_6 a0_7 a0_8 a0_9 a0_10 a1 a2 a3 a4) K = (F29 k a0_0 a0_1 a0_2 a0_3 a0_4 a0_5 a0_6 a0_7 a0_8 a0_9 a0_10 a1 a2 a3 a4).bind fun r => K (F29_r r) := by
  rw [F29_st, F29]
  simp only [F29_T, bind_cond, Option.bind_assoc, Option.bind_some, Option.bind_none, Option.bind_fun_some]
theorem F29_tOk (k : Nat) : TabFn Try.prog (F29_t k) := .ent (F71_q k) F71_f (.ent (F72_q k) F72_f (.ent (F73_q k) F73_f (.none)))
theorem F29_con (k : Nat) (a0_0 a0_1 a0_2 a0_3 a0_4 : Int) (a0_5 a0_6 a0_7 a0_8 : Bool) (a0_9 : List (den rng)) (a0_10 : List (den (.int .u8))) (a1 a2 a3 a4 : Int) : Contract Try.prog 29 (F29_a a0_0 a0_1 a0_2 a0_3 a0_4 a0_5 a0_6 a0_7 a0_8 a0_9 a0_10 a1 a2 a3 a4) ⟨F29 k a0_0 a0_1 a0_2 a0_3 a0_4 a0_5 a0_6 a0_7 a0_8 a0_9 a0_10 a1 a2 a3 a4, F29_r⟩ := con_of (envOk (F29_tOk k) _ _ _ _) mixed Try.func29 rfl rfl (F29_ev k a0_0 a0_1 a0_2 a0_3 a0_4 a0_5 a0_6 a0_7 a0_8 a0_9 a0_10 a1 a2 a3 a4 some)
def F29_sh : List AK := [.agg [.l (.int .i64), .l (.int .i64), .l (.int .i64), .l (.int .i64), .l (.int .i64), .l (.bool), .l (.bool), .l (.bool), .l (.bool), .l (.sl .ro rng), .l (.sl .ro (.int .u8))], .one (.l (.int .i64)), .one (.l (.int .i64)), .one (.l (.int .i64)), .one (.l (.int .i64))]
def F29_p (k : Nat) : List Arg → Option CR := cle F29_sh fun x => ⟨F29 k x.1.1 x.1.2.1 x.1.2.2.1 x.1.2.2.2.1 x.1.2.2.2.2.1 x.1.2.2.2.2.2.1 x.1.2.2.2.2.2.2.1 x.1.2.2.2.2.2.2.2.1 x.1.2.2.2.2.2.2.2.2.1 x.1.2.2.2.2.2.2.2.2.2.1 x.1.2.2.2.2.2.2.2.2.2.2.1 x.2.1 x.2.2.1 x.2.2.2.1 x.2.2.2.2.1, F29_r⟩
theorem F29_q (k : Nat) : ∀ xs cr, F29_p k xs = some cr → Contract Try.prog 29 xs cr := cle_ok fun x => F29_con k _ _ _ _ _ _ _ _ _ _ _ _ _ _ _
theorem F29_f : FnOk Try.prog 29 := .of (by kernel_rfl)
abbrev F45_E (k : Nat) : Env := env noTab noHint .own [] k
abbrev F45_a (a0 a1 a2 : Int) : List Arg := [.one (.l (.v (.int .i64 a0))), .one (.l (.v (.int .i64 a1))), .one (.l (.v (.int .i64 a2)))]
def F45_r (r : Bool) : A × List (List Leaf) := (.one (.v (.bool r)), [])
def F45 (k : Nat) (a0 a1 a2 : Int) : Option (Bool) := cond (decide (a0 ≥ a1)) (some (decide (a0 ≤ a2))) (some false)
theorem F45_st {β : Type} (k : Nat) (a0 a1 a2 : Int) (K : A × List (List Leaf) → Option β) : evalF (F45_E k) Try.f45 (F45_a a0 a1 a2) K =
    cond (decide (a0 ≥ a1)) (K (.one (.v (.bool (decide (a0 ≤ a2)))), [])) (K (.one (.v (.bool false)), [])) := by kernel_rfl
theorem F45_ev {β : Type} (k : Nat) (a0 a1 a2 : Int) (K : A × List (List Leaf) → Option β) : evalF (F45_E k) Try.f45 (F45_a a0 a1 a2) K = (F45 k a0 a1 a2).bind fun r => K (F45_r r) := by
  rw [F45_st, F45]
  simp only [F45_r, bind_cond, Option.bind_assoc, Option.bind_some, Option.bind_none, Option.bind_fun_some]
theorem F45_con (k : Nat) (a0 a1 a2 : Int) : Contract Try.prog 45 (F45_a a0 a1 a2) ⟨F45 k a0 a1 a2, F45_r⟩ := con_of (envOk .none _ _ _ _) mixed Try.func45 rfl rfl (F45_ev k a0 a1 a2 some)
def F45_sh : List AK := [.one (.l (.int .i64)), .one (.l (.int .i64)), .one (.l (.int .i64))]
def F45_p (k : Nat) : List Arg → Option CR := cle F45_sh fun x => ⟨F45 k x.1 x.2.1 x.2.2.1, F45_r⟩
theorem F45_q (k : Nat) : ∀ xs cr, F45_p k xs = some cr → Contract Try.prog 45 xs cr := cle_ok fun x => F45_con k _ _ _
theorem F45_f : FnOk Try.prog 45 := .of (by kernel_rfl)
def F54_t (k : Nat) : Tab := entT 45 (F45_p k) <| noTab
abbrev F54_E (k : Nat) : Env := env (F54_t k) noHint .own [] k
abbrev F54_a (a0 : Int) : List Arg := [.one (.l (.v (.int .i64 a0)))]
def F54_r (r : Bool) : A × List (List Leaf) := (.one (.v (.bool r)), [])
def F54 (k : Nat) (a0 : Int) : Option (Bool) := (F45 k a0 1 255).bind fun b1 => some b1
theorem F54_st {β : Type} (k : Nat) (a0 : Int) (K : A × List (List Leaf) → Option β) : evalF (F54_E k) Try.f54 (F54_a a0) K =
    (F45 k a0 1 255).bind fun b1 => K (.one (.v (.bool b1)), []) := by kernel_rfl
theorem F54_ev {β : Type} (k : Nat) (a0 : Int) (K : A × List (List Leaf) → Option β) : evalF (F54_E k) Try.f54 (F54_a a0) K = (F54 k a0).bind fun r => K (F54_r r) := by
  rw [F54_st, F54]
  simp only [F54_r, bind_cond, Option.bind_assoc, Option.bind_some, Option.bind_none, Option.bind_fun_some]
theorem F54_tOk (k : Nat) : TabFn Try.prog (F54_t k) := .ent (F45_q k) F45_f (.none)
theorem F54_con (k : Nat) (a0 : Int) : Contract Try.prog 54 (F54_a a0) ⟨F54 k a0, F54_r⟩ := con_of (envOk (F54_tOk k) _ _ _ _) mixed Try.func54 rfl rfl (F54_ev k a0 some)
def F54_sh : List AK := [.one (.l (.int .i64))]
def F54_p (k : Nat) : List Arg → Option CR := cle F54_sh fun x => ⟨F54 k x.1, F54_r⟩
theorem F54_q (k : Nat) : ∀ xs cr, F54_p k xs = some cr → Contract Try.prog 54 xs cr := cle_ok fun x => F54_con k _
theorem F54_f : FnOk Try.prog 54 := .of (by kernel_rfl)
def F55_t (k : Nat) : Tab := entT 45 (F45_p k) <| noTab
abbrev F55_E (k : Nat) : Env := env (F55_t k) noHint .own [] k
abbrev F55_a (a0 : Int) : List Arg := [.one (.l (.v (.int .i64 a0)))]
def F55_r (r : Bool) : A × List (List Leaf) := (.one (.v (.bool r)), [])
def F55 (k : Nat) (a0 : Int) : Option (Bool) := (F45 k a0 0 65535).bind fun b1 => some b1
theorem F55_st {β : Type} (k : Nat) (a0 : Int) (K : A × List (List Leaf) → Option β) : evalF (F55_E k) Try.f55 (F55_a a0) K =
    (F45 k a0 0 65535).bind fun b1 => K (.one (.v (.bool b1)), []) := by kernel_rfl
theorem F55_ev {β : Type} (k : Nat) (a0 : Int) (K : A × List (List Leaf) → Option β) : evalF (F55_E k) Try.f55 (F55_a a0) K = (F55 k a0).bind fun r => K (F55_r r) := by
  rw [F55_st, F55]
  simp only [F55_r, bind_cond, Option.bind_assoc, Option.bind_some, Option.bind_none, Option.bind_fun_some]
theorem F55_tOk (k : Nat) : TabFn Try.prog (F55_t k) := .ent (F45_q k) F45_f (.none)
theorem F55_con (k : Nat) (a0 : Int) : Contract Try.prog 55 (F55_a a0) ⟨F55 k a0, F55_r⟩ := con_of (envOk (F55_tOk k) _ _ _ _) mixed Try.func55 rfl rfl (F55_ev k a0 some)
def F55_sh : List AK := [.one (.l (.int .i64))]
def F55_p (k : Nat) : List Arg → Option CR := cle F55_sh fun x => ⟨F55 k x.1, F55_r⟩
theorem F55_q (k : Nat) : ∀ xs cr, F55_p k xs = some cr → Contract Try.prog 55 xs cr := cle_ok fun x => F55_con k _
theorem F55_f : FnOk Try.prog 55 := .of (by kernel_rfl)
def F57_t (k : Nat) : Tab := entT 55 (F55_p k) <| noTab
abbrev F57_E (k : Nat) : Env := env (F57_t k) noHint .own [] k
abbrev F57_a (a0_0 a0_1 : Int) : List Arg := [.agg [.l (.v (.int .i64 a0_0)), .l (.v (.int .i64 a0_1))]]
def F57_r (r : Bool) : A × List (List Leaf) := (.one (.v (.bool r)), [])
def F57 (k : Nat) (a0_0 a0_1 : Int) : Option (Bool) := (F55 k a0_0).bind fun b1 => cond (!b1) (some true) ((F55 k a0_1).bind fun b2 => some (!b2))
theorem F57_st {β : Type} (k : Nat) (a0_0 a0_1 : Int) (K : A × List (List Leaf) → Option β) : evalF (F57_E k) Try.f57 (F57_a a0_0 a0_1) K =
    (F55 k a0_0).bind fun b1 => cond (!b1) (K (.one (.v (.bool true)), [])) ((F55 k a0_1).bind fun b2 => K (.one (.v (.bool (!b2))), [])) := by kernel_rfl
theorem F57_ev {β : Type} (k : Nat) (a0_0 a0_1 : Int) (K : A × List (List Leaf) → Option β) : evalF (F57_E k) Try.f57 (F57_a a0_0 a0_1) K = (F57 k a0_0 a0_1).bind fun r => K (F57_r r) := by
  rw [F57_st, F57]
  simp only [F57_r, bind_cond, Option.bind_assoc, Option.bind_some, Option.bind_none, Option.bind_fun_some]
theorem F57_tOk (k : Nat) : TabFn Try.prog (F57_t k) := .ent (F55_q k) F55_f (.none)
theorem F57_con (k : Nat) (a0_0 a0_1 : Int) : Contract Try.prog 57 (F57_a a0_0 a0_1) ⟨F57 k a0_0 a0_1, F57_r⟩ := con_of (envOk (F57_tOk k) _ _ _ _) mixed Try.func57 rfl rfl (F57_ev k a0_0 a0_1 some)
def F57_sh : List AK := [.agg [.l (.int .i64), .l (.int .i64)]]
def F57_p (k : Nat) : List Arg → Option CR := cle F57_sh fun x => ⟨F57 k x.1.1 x.1.2.1, F57_r⟩
theorem F57_q (k : Nat) : ∀ xs cr, F57_p k xs = some cr → Contract Try.prog 57 xs cr := cle_ok fun x => F57_con k _ _
theorem F57_f : FnOk Try.prog 57 := .of (by kernel_rfl)
def F90_h : Nat → Hint
  | 0 => ⟨[(0, .plain), (1, .plain), (7, .plain), (8, .plain)], []⟩
  | _ => ⟨[], []⟩
def F90_t (k : Nat) : Tab := entT 57 (F57_p k) <| noTab
abbrev F90_E (k : Nat) : Env := env (F90_t k) F90_h .own [] k
abbrev F90_a (a0 : List (den rng)) : List Arg := [.one (.l (.s .ro rng a0)), .one (.fn 57 [])]
def F90_r (r : Int) : A × List (List Leaf) := (.one (.v (.int .i64 r)), [])
def F90_s0 (a0 : List (den rng)) (x8_0 : Int) : St := ⟨(.one (.s .ro rng a0)) :: (.one (.fn 57 [])) :: dz 5 ((.one (.v (.int .i64 ((a0.length : Nat) : Int)))) :: (.one (.v (.int .i64 x8_0))) :: dz 10 []), []⟩
def F90_l0_T {β : Type} (k : Nat) (a0 : List (den rng)) (NX : Int → Option β) (RET : Int → Option β) (x8_0 : Int) : Option β := cond (decide (x8_0 < ((a0.length : Nat) : Int))) (cond (decide (0 ≤ x8_0)) (cond (decide (x8_0 < ((a0.length : Nat) : Int))) ((F57 k ((atI a0 x8_0).1) ((atI a0 x8_0).2)).bind fun b1 => cond b1 (RET x8_0) (NX (IntKind.i64.wrap (x8_0 + 1)))) none) none) (RET (-1))
def F90_l0 (k : Nat) (a0 : List (den rng)) : Nat → Int → Option (Int)
  | 0, _ => none
  | n + 1, x8_0 => F90_l0_T k a0 (fun x8_0 => F90_l0 k a0 n x8_0) some x8_0
theorem F90_l0_rd {β : Type} (k n : Nat) (a0 : List (den rng)) (x8_0 : Int) (K : A × List (List Leaf) → Option β) :
    loopG (F90_E k) Try.f90 [1, 0, 1, 0] 0 (kontAt (F90_E k) [1, 0, 1, 0] (bodyOf Try.f90) 0 (endC (F90_E k) Try.f90 (F90_a a0) K)) (n + 1) (F90_s0 a0 x8_0) =
    F90_l0_T k a0 (fun x8_0 => loopG (F90_E k) Try.f90 [1, 0, 1, 0] 0 (kontAt (F90_E k) [1, 0, 1, 0] (bodyOf Try.f90) 0 (endC (F90_E k) Try.f90 (F90_a a0) K)) n (F90_s0 a0 x8_0)) (fun r => K (F90_r r)) x8_0 := by kernel_rfl
theorem F90_l0_lp {β : Type} (k : Nat) (a0 : List (den rng)) (K : A × List (List Leaf) → Option β) (n : Nat) : ∀ (x8_0 : Int), loopG (F90_E k) Try.f90 [1, 0, 1, 0] 0 (kontAt (F90_E k) [1, 0, 1, 0] (bodyOf Try.f90) 0 (endC (F90_E k) Try.f90 (F90_a a0) K)) n (F90_s0 a0 x8_0) =
    (F90_l0 k a0 n x8_0).bind fun r => K (F90_r r) := by
  induction n with
  | zero => intros; rfl
  | succ n ih =>
    intros
    rw [F90_l0_rd, F90_l0]
    simp only [F90_l0_T, bind_cond, Option.bind_assoc, Option.bind_some, Option.bind_none, Option.bind_fun_some, ih]
def F90_T {β : Type} (k : Nat) (a0 : List (den rng)) (LP0 : Int → Option β) : Option β := LP0 0
def F90 (k : Nat) (a0 : List (den rng)) : Option (Int) := F90_T k a0 (fun x8_0 => F90_l0 k a0 k x8_0)
theorem F90_st {β : Type} (k : Nat) (a0 : List (den rng)) (K : A × List (List Leaf) → Option β) : evalF (F90_E k) Try.f90 (F90_a a0) K =
    F90_T k a0 (fun x8_0 => loopG (F90_E k) Try.f90 [1, 0, 1, 0] 0 (kontAt (F90_E k) [1, 0, 1, 0] (bodyOf Try.f90) 0 (endC (F90_E k) Try.f90 (F90_a a0) K)) k (F90_s0 a0 x8_0)) := by kernel_rfl
theorem F90_ev {β : Type} (k : Nat) (a0 : List (den rng)) (K : A × List (List Leaf) → Option β) : evalF (F90_E k) Try.f90 (F90_a a0) K = (F90 k a0).bind fun r => K (F90_r r) := by
  rw [F90_st, F90]
  simp only [F90_T, bind_cond, Option.bind_assoc, Option.bind_some, Option.bind_none, Option.bind_fun_some, F90_l0_lp]
theorem F90_tOk (k : Nat) : TabFn Try.prog (F90_t k) := .ent (F57_q k) F57_f (.none)
theorem F90_con (k : Nat) (a0 : List (den rng)) : Contract Try.prog 90 (F90_a a0) ⟨F90 k a0, F90_r⟩ := con_of (envOk (F90_tOk k) _ _ _ _) mixed Try.func90 rfl rfl (F90_ev k a0 some)
def F90_sh : List AK := [.one (.l (.sl .ro rng)), .one (.fn 57)]
def F90_p (k : Nat) : List Arg → Option CR := cle F90_sh fun x => ⟨F90 k x.1, F90_r⟩
theorem F90_q (k : Nat) : ∀ xs cr, F90_p k xs = some cr → Contract Try.prog 90 xs cr := cle_ok fun x => F90_con k _
theorem F90_f : FnOk Try.prog 90 := .of (by kernel_rfl)
def F56_t (k : Nat) : Tab := entT 90 (F90_p k) <| noTab
abbrev F56_E (k : Nat) : Env := env (F56_t k) noHint .own [] k
abbrev F56_a (a0 : List (den rng)) : List Arg := [.one (.l (.s .ro rng a0)), .one (.fn 57 [])]
def F56_r (r : Bool) : A × List (List Leaf) := (.one (.v (.bool r)), [])
def F56 (k : Nat) (a0 : List (den rng)) : Option (Bool) := (F90 k a0).bind fun b1 => some (decide (b1 ≥ 0))
theorem F56_st {β : Type} (k : Nat) (a0 : List (den rng)) (K : A × List (List Leaf) → Option β) : evalF (F56_E k) Try.f56 (F56_a a0) K =
    (F90 k a0).bind fun b1 => K (.one (.v (.bool (decide (b1 ≥ 0)))), []) := by kernel_rfl
theorem F56_ev {β : Type} (k : Nat) (a0 : List (den rng)) (K : A × List (List Leaf) → Option β) : evalF (F56_E k) Try.f56 (F56_a a0) K = (F56 k a0).bind fun r => K (F56_r r) := by
  rw [F56_st, F56]
  simp only [F56_r, bind_cond, Option.bind_assoc, Option.bind_some, Option.bind_none, Option.bind_fun_some]
theorem F56_tOk (k : Nat) : TabFn Try.prog (F56_t k) := .ent (F90_q k) F90_f (.none)
theorem F56_con (k : Nat) (a0 : List (den rng)) : Contract Try.prog 56 (F56_a a0) ⟨F56 k a0, F56_r⟩ := con_of (envOk (F56_tOk k) _ _ _ _) mixed Try.func56 rfl rfl (F56_ev k a0 some)
def F56_sh : List AK := [.one (.l (.sl .ro rng)), .one (.fn 57)]
def F56_p (k : Nat) : List Arg → Option CR := cle F56_sh fun x => ⟨F56 k x.1, F56_r⟩
theorem F56_q (k : Nat) : ∀ xs cr, F56_p k xs = some cr → Contract Try.prog 56 xs cr := cle_ok fun x => F56_con k _
theorem F56_f : FnOk Try.prog 56 := .of (by kernel_rfl)
def F14_t (k : Nat) : Tab := entT 54 (F54_p k) <| entT 55 (F55_p k) <| entT 45 (F45_p k) <| entT 56 (F56_p k) <| noTab
abbrev F14_E (k : Nat) : Env := env (F14_t k) noHint .own [] k
abbrev F14_a (a0_0 a0_1 a0_2 a0_3 a0_4 : Int) (a0_5 a0_6 a0_7 a0_8 : Bool) (a0_9 : List (den rng)) (a0_10 : List (den (.int .u8))) : List Arg := [.agg [.l (.v (.int .i64 a0_0)), .l (.v (.int .i64 a0_1)), .l (.v (.int .i64 a0_2)), .l (.v (.int .i64 a0_3)), .l (.v (.int .i64 a0_4)), .l (.v (.bool a0_5)), .l (.v (.bool a0_6)), .l (.v (.bool a0_7)), .l (.v (.bool a0_8)), .l (.s .ro rng a0_9), .l (.s .ro (.int .u8) a0_10)]]
def F14_r (r : Bool) : A × List (List Leaf) := (.one (.v (.bool r)), [])
def F14_T {β : Type} (k : Nat) (a0_0 a0_1 a0_2 a0_3 a0_4 : Int) (a0_5 a0_6 a0_7 a0_8 : Bool) (a0_9 : List (den rng)) (a0_10 : List (den (.int .u8))) (RET : Bool → Option β) : Option β := (F54 k a0_0).bind fun b1 => cond (!b1) (RET false) ((F54 k a0_1).bind fun b2 => cond (!b2) (RET false) ((F55 k a0_2).bind fun b3 => cond (!b3) (RET false) ((F55 k a0_3).bind fun b4 => cond (!b4) (RET false) ((F45 k a0_4 0 255).bind fun b5 => cond (!b5) (RET false) (cond (decide (((a0_9.length : Nat) : Int) > 2)) (RET false) (cond (decide (((a0_10.length : Nat) : Int) > 12)) (RET false) ((F56 k a0_9).bind fun b6 => cond b6 (RET false) (cond (!a0_6) (cond (a0_3 != 0) (RET false) (cond (a0_4 != 0) (RET false) (cond (decide (((a0_9.length : Nat) : Int) > 0)) (RET false) (cond (!a0_8) (RET true) (cond (!a0_5) (cond (!a0_7) (RET (((a0_10.length : Nat) : Int) == 0)) (RET false)) (RET false)))))) (cond (!a0_8) (RET true) (cond (!a0_5) (cond (!a0_7) (RET (((a0_10.length : Nat) : Int) == 0)) (RET false)) (RET false)))))))))))
def F14 (k : Nat) (a0_0 a0_1 a0_2 a0_3 a0_4 : Int) (a0_5 a0_6 a0_7 a0_8 : Bool) (a0_9 : List (den rng)) (a0_10 : List (den (.int .u8))) : Option (Bool) := F14_T k a0_0 a0_1 a0_2 a0_3 a0_4 a0_5 a0_6 a0_7 a0_8 a0_9 a0_10 some
theorem F14_st {β : Type} (k : Nat) (a0_0 a0_1 a0_2 a0_3 a0_4 : Int) (a0_5 a0_6 a0_7 a0_8 : Bool) (a0_9 : List (den rng)) (a0_10 : List (den (.int .u8))) (K : A × List (List Leaf) → Option β) : evalF (F14_E k) Try.f14 (F14_a a0_0 a0_1 a0_2 a0_3 a0_4 a0_5 a0_6 a0_7 a0_8 a0_9 a0_10) K =
    F14_T k a0_0 a0_1 a0_2 a0_3 a0_4 a0_5 a0_6 a0_7 a0_8 a0_9 a0_10 (fun r => K (F14_r r)) := by kernel_rfl
theorem F14_ev {β : Type} (k : Nat) (a0_0 a0_1 a0_2 a0_3 a0_4 : Int) (a0_5 a0_6 a0_7 a0_8 : Bool) (a0_9 : List (den rng)) (a0_10 : List (den (.int .u8))) (K : A × List (List Leaf) → Option β) : evalF (F14_E k) Try.f14 (F14_a a0_0 a0_1 a0_2 a0_3 a0_4 a0_5 a0_6 a0_7 a0_8 a0_9 a0_10) K = (F14 k a0_0 a0_1 a0_2 a0_3 a0_4 a0_5 a0_6 a0_7 a0_8 a0_9 a0_10).bind fun r => K (F14_r r) := by
  rw [F14_st, F14]
  simp only [F14_T, bind_cond, Option.bind_assoc, Option.bind_some, Option.bind_none, Option.bind_fun_some]
theorem F14_tOk (k : Nat) : TabFn Try.prog (F14_t k) := .ent (F54_q k) F54_f (.ent (F55_q k) F55_f (.ent (F45_q k) F45_f (.ent (F56_q k) F56_f (.none))))
theorem F14_con (k : Nat) (a0_0 a0_1 a0_2 a0_3 a0_4 : Int) (a0_5 a0_6 a0_7 a0_8 : Bool) (a0_9 : List (den rng)) (a0_10 : List (den (.int .u8))) : Contract Try.prog 14 (F14_a a0_0 a0_1 a0_2 a0_3 a0_4 a0_5 a0_6 a0_7 a0_8 a0_9 a0_10) ⟨F14 k a0_0 a0_1 a0_2 a0_3 a0_4 a0_5 a0_6 a0_7 a0_8 a0_9 a0_10, F14_r⟩ := con_of (envOk (F14_tOk k) _ _ _ _) mixed Try.func14 rfl rfl (F14_ev k a0_0 a0_1 a0_2 a0_3 a0_4 a0_5 a0_6 a0_7 a0_8 a0_9 a0_10 some)
def F14_sh : List AK := [.agg [.l (.int .i64), .l (.int .i64), .l (.int .i64), .l (.int .i64), .l (.int .i64), .l (.bool), .l (.bool), .l (.bool), .l (.bool), .l (.sl .ro rng), .l (.sl .ro (.int .u8))]]
def F14_p (k : Nat) : List Arg → Option CR := cle F14_sh fun x => ⟨F14 k x.1.1 x.1.2.1 x.1.2.2.1 x.1.2.2.2.1 x.1.2.2.2.2.1 x.1.2.2.2.2.2.1 x.1.2.2.2.2.2.2.1 x.1.2.2.2.2.2.2.2.1 x.1.2.2.2.2.2.2.2.2.1 x.1.2.2.2.2.2.2.2.2.2.1 x.1.2.2.2.2.2.2.2.2.2.2.1, F14_r⟩
theorem F14_q (k : Nat) : ∀ xs cr, F14_p k xs = some cr → Contract Try.prog 14 xs cr := cle_ok fun x => F14_con k _ _ _ _ _ _ _ _ _ _ _
theorem F14_f : FnOk Try.prog 14 := .of (by kernel_rfl)
abbrev F59_E (k : Nat) : Env := env noTab noHint .own [] k
abbrev F59_a (a0 : Bool) (a1 : Int) : List Arg := [.one (.l (.v (.bool a0))), .one (.l (.v (.int .i64 a1)))]
def F59_r (r : Int) : A × List (List Leaf) := (.one (.v (.int .i64 r)), [])
def F59 (k : Nat) (a0 : Bool) (a1 : Int) : Option (Int) := cond a0 (some a1) (some 0)
theorem F59_st {β : Type} (k : Nat) (a0 : Bool) (a1 : Int) (K : A × List (List Leaf) → Option β) : evalF (F59_E k) Try.f59 (F59_a a0 a1) K =
    cond a0 (K (.one (.v (.int .i64 a1)), [])) (K (.one (.v (.int .i64 0)), [])) := by kernel_rfl
theorem F59_ev {β : Type} (k : Nat) (a0 : Bool) (a1 : Int) (K : A × List (List Leaf) → Option β) : evalF (F59_E k) Try.f59 (F59_a a0 a1) K = (F59 k a0 a1).bind fun r => K (F59_r r) := by
  rw [F59_st, F59]
  simp only [F59_r, bind_cond, Option.bind_assoc, Option.bind_some, Option.bind_none, Option.bind_fun_some]
theorem F59_con (k : Nat) (a0 : Bool) (a1 : Int) : Contract Try.prog 59 (F59_a a0 a1) ⟨F59 k a0 a1, F59_r⟩ := con_of (envOk .none _ _ _ _) mixed Try.func59 rfl rfl (F59_ev k a0 a1 some)
def F59_sh : List AK := [.one (.l (.bool)), .one (.l (.int .i64))]
def F59_p (k : Nat) : List Arg → Option CR := cle F59_sh fun x => ⟨F59 k x.1 x.2.1, F59_r⟩
theorem F59_q (k : Nat) : ∀ xs cr, F59_p k xs = some cr → Contract Try.prog 59 xs cr := cle_ok fun x => F59_con k _ _
theorem F59_f : FnOk Try.prog 59 := .of (by kernel_rfl)
def F91_h : Nat → Hint
  | 0 => ⟨[(0, .plain), (5, .plain), (6, .plain)], [(8000, .plain)]⟩
  | _ => ⟨[], []⟩
abbrev F91_E (k : Nat) : Env := env noTab F91_h .own [] k
abbrev F91_a (a0 a1 : Int) : List Arg := [.one (.l (.v (.int .i64 a0))), .one (.l (.v (.int .i64 a1)))]
def F91_r (r : List (den (.int .u8))) : A × List (List Leaf) := (.one (.s .own (.int .u8) r), [])
def F91_s0 (a0 a1 : Int) (x0_0 x6_0 : Int) (m8000_0 : List (den (.int .u8))) : St := ⟨(.one (.v (.int .i64 x0_0))) :: dz 4 ((.one (.a (.cell 8000) 0 0 none)) :: (.one (.v (.int .i64 x6_0))) :: dz 16 []), [(8000, ⟨.s .own (.int .u8) m8000_0, 0, 0⟩)]⟩
def F91_l0_T {β : Type} (k : Nat) (a0 a1 : Int) (NX : Int → Int → List (den (.int .u8)) → Option β) (RET : List (den (.int .u8)) → Option β) (x0_0 x6_0 : Int) (m8000_0 : List (den (.int .u8))) : Option β := cond (decide (x6_0 ≥ 0)) (cond (decide (0 ≤ x6_0)) (cond (decide (x6_0 < ((m8000_0.length : Nat) : Int))) (NX (x0_0.fdiv (2 ^ (8))) (IntKind.i64.wrap (x6_0 - 1)) (m8000_0.set x6_0.toNat (IntKind.u8.wrap (x0_0)))) none) none) (RET m8000_0)
def F91_l0 (k : Nat) (a0 a1 : Int) : Nat → Int → Int → List (den (.int .u8)) → Option (List (den (.int .u8)))
  | 0, _, _, _ => none
  | n + 1, x0_0, x6_0, m8000_0 => F91_l0_T k a0 a1 (fun x0_0 x6_0 m8000_0 => F91_l0 k a0 a1 n x0_0 x6_0 m8000_0) some x0_0 x6_0 m8000_0
theorem F91_l0_rd {β : Type} (k n : Nat) (a0 a1 : Int) (x0_0 x6_0 : Int) (m8000_0 : List (den (.int .u8))) (K : A × List (List Leaf) → Option β) :
    loopG (F91_E k) Try.f91 [1, 1, 0, 1, 0] 0 (kontAt (F91_E k) [1, 1, 0, 1, 0] (bodyOf Try.f91) 0 (endC (F91_E k) Try.f91 (F91_a a0 a1) K)) (n + 1) (F91_s0 a0 a1 x0_0 x6_0 m8000_0) =
    F91_l0_T k a0 a1 (fun x0_0 x6_0 m8000_0 => loopG (F91_E k) Try.f91 [1, 1, 0, 1, 0] 0 (kontAt (F91_E k) [1, 1, 0, 1, 0] (bodyOf Try.f91) 0 (endC (F91_E k) Try.f91 (F91_a a0 a1) K)) n (F91_s0 a0 a1 x0_0 x6_0 m8000_0)) (fun r => K (F91_r r)) x0_0 x6_0 m8000_0 := by kernel_rfl
theorem F91_l0_lp {β : Type} (k : Nat) (a0 a1 : Int) (K : A × List (List Leaf) → Option β) (n : Nat) : ∀ (x0_0 x6_0 : Int) (m8000_0 : List (den (.int .u8))), loopG (F91_E k) Try.f91 [1, 1, 0, 1, 0] 0 (kontAt (F91_E k) [1, 1, 0, 1, 0] (bodyOf Try.f91) 0 (endC (F91_E k) Try.f91 (F91_a a0 a1) K)) n (F91_s0 a0 a1 x0_0 x6_0 m8000_0) =
    (F91_l0 k a0 a1 n x0_0 x6_0 m8000_0).bind fun r => K (F91_r r) := by
  induction n with
  | zero => intros; rfl
  | succ n ih =>
    intros
    rw [F91_l0_rd, F91_l0]
    simp only [F91_l0_T, bind_cond, Option.bind_assoc, Option.bind_some, Option.bind_none, Option.bind_fun_some, ih]
def F91_T {β : Type} (k : Nat) (a0 a1 : Int) (LP0 : Int → Int → List (den (.int .u8)) → Option β) : Option β := cond (decide (0 ≤ a1) && decide (a1 = a1) && decide (a1 * (1 : Nat) ≤ 140737488355328)) (LP0 a0 (IntKind.i64.wrap (a1 - 1)) (List.replicate a1.toNat (dflt (.int .u8)))) none
def F91 (k : Nat) (a0 a1 : Int) : Option (List (den (.int .u8))) := F91_T k a0 a1 (fun x0_0 x6_0 m8000_0 => F91_l0 k a0 a1 k x0_0 x6_0 m8000_0)
theorem F91_st {β : Type} (k : Nat) (a0 a1 : Int) (K : A × List (List Leaf) → Option β) : evalF (F91_E k) Try.f91 (F91_a a0 a1) K =
    F91_T k a0 a1 (fun x0_0 x6_0 m8000_0 => loopG (F91_E k) Try.f91 [1, 1, 0, 1, 0] 0 (kontAt (F91_E k) [1, 1, 0, 1, 0] (bodyOf Try.f91) 0 (endC (F91_E k) Try.f91 (F91_a a0 a1) K)) k (F91_s0 a0 a1 x0_0 x6_0 m8000_0)) := by kernel_rfl
theorem F91_ev {β : Type} (k : Nat) (a0 a1 : Int) (K : A × List (List Leaf) → Option β) : evalF (F91_E k) Try.f91 (F91_a a0 a1) K = (F91 k a0 a1).bind fun r => K (F91_r r) := by
  rw [F91_st, F91]
  simp only [F91_T, bind_cond, Option.bind_assoc, Option.bind_some, Option.bind_none, Option.bind_fun_some, F91_l0_lp]
theorem F91_con (k : Nat) (a0 a1 : Int) : Contract Try.prog 91 (F91_a a0 a1) ⟨F91 k a0 a1, F91_r⟩ := con_of (envOk .none _ _ _ _) mixed Try.func91 rfl rfl (F91_ev k a0 a1 some)
def F91_sh : List AK := [.one (.l (.int .i64)), .one (.l (.int .i64))]
def F91_p (k : Nat) : List Arg → Option CR := cle F91_sh fun x => ⟨F91 k x.1 x.2.1, F91_r⟩
theorem F91_q (k : Nat) : ∀ xs cr, F91_p k xs = some cr → Contract Try.prog 91 xs cr := cle_ok fun x => F91_con k _ _
theorem F91_f : FnOk Try.prog 91 := .of (by kernel_rfl)
abbrev F92_E (k : Nat) : Env := env noTab noHint .own [] k
abbrev F92_a (a1 : Int) : List Arg := [.one (.l (.v (.slice none 0 0))), .one (.l (.v (.int .i64 a1)))]
def F92_r (r : List (den (.int .u8))) : A × List (List Leaf) := (.one (.s .own (.int .u8) r), [])
def F92_T {β : Type} (k : Nat) (a1 : Int) (RET : List (den (.int .u8)) → Option β) : Option β := cond (decide (a1 < 0)) none (cond (decide ((IntKind.i64.wrap (a1 - 0)) > 0)) (cond (decide (0 ≤ 0) && decide (0 ≤ ((0 : Nat) : Int))) (cond (decide (0 < (IntKind.i64.wrap (a1 - 0))) && decide ((IntKind.i64.wrap (a1 - 0)) * (1 : Nat) ≤ 140737488355328)) (cond (decide (0 ≤ 0) && decide (0 ≤ (((List.replicate ((IntKind.i64.wrap (a1 - 0)).toNat) (dflt (.int .u8))).length : Nat) : Int))) (RET (((List.replicate ((IntKind.i64.wrap (a1 - 0)).toNat) (dflt (.int .u8))).take 0).drop 0)) none) none) none) (RET []))
def F92 (k : Nat) (a1 : Int) : Option (List (den (.int .u8))) := F92_T k a1 some
theorem F92_st {β : Type} (k : Nat) (a1 : Int) (K : A × List (List Leaf) → Option β) : evalF (F92_E k) Try.f92 (F92_a a1) K =
    F92_T k a1 (fun r => K (F92_r r)) := by kernel_rfl
theorem F92_ev {β : Type} (k : Nat) (a1 : Int) (K : A × List (List Leaf) → Option β) : evalF (F92_E k) Try.f92 (F92_a a1) K = (F92 k a1).bind fun r => K (F92_r r) := by
  rw [F92_st, F92]
  simp only [F92_T, bind_cond, Option.bind_assoc, Option.bind_some, Option.bind_none, Option.bind_fun_some]
theorem F92_con (k : Nat) (a1 : Int) : Contract Try.prog 92 (F92_a a1) ⟨F92 k a1, F92_r⟩ := con_of (envOk .none _ _ _ _) mixed Try.func92 rfl rfl (F92_ev k a1 some)
def F92_sh : List AK := [.one (.l (.nil)), .one (.l (.int .i64))]
def F92_p (k : Nat) : List Arg → Option CR := cle F92_sh fun x => ⟨F92 k x.2.1, F92_r⟩
theorem F92_q (k : Nat) : ∀ xs cr, F92_p k xs = some cr → Contract Try.prog 92 xs cr := cle_ok fun x => F92_con k _
theorem F92_f : FnOk Try.prog 92 := .of (by kernel_rfl)
def F62_h : Nat → Hint
  | 0 => ⟨[(0, .plain), (3, .plain), (9, .plain), (10, .plain), (11, .plain)], []⟩
  | 2 => ⟨[(6, .own .own (.int .u8) []), (25, .plain), (26, .plain), (27, .plain)], []⟩
  | _ => ⟨[], []⟩
def F62_t (k : Nat) : Tab := entT 92 (F92_p k) <| noTab
abbrev F62_E (k : Nat) : Env := env (F62_t k) F62_h .own [] k
abbrev F62_a (a0 : List (den (.sl (.int .u8)))) : List Arg := [.one (.l (.s .ro (.sl (.int .u8)) a0))]
def F62_r (r : List (den (.int .u8))) : A × List (List Leaf) := (.one (.s .own (.int .u8) r), [])
def F62_s2 (a0 : List (den (.sl (.int .u8)))) (x27_2 : Int) (m6900_2 : List (den (.int .u8))) : St := ⟨dz 6 ((.one (.a (.cell 6900) 0 0 none)) :: dz 18 ((.one (.s .ro (.sl (.int .u8)) a0)) :: (.one (.v (.int .i64 ((a0.length : Nat) : Int)))) :: (.one (.v (.int .i64 x27_2))) :: dz 8 [])), [(6900, ⟨.s .own (.int .u8) m6900_2, 0, 0⟩)]⟩
def F62_l2_T {β : Type} (k : Nat) (a0 : List (den (.sl (.int .u8)))) (NX : Int → List (den (.int .u8)) → Option β) (RET : List (den (.int .u8)) → Option β) (x27_2 : Int) (m6900_2 : List (den (.int .u8))) : Option β := cond (decide (x27_2 < ((a0.length : Nat) : Int))) (cond (decide (0 ≤ x27_2)) (cond (decide (x27_2 < ((a0.length : Nat) : Int))) (cond (decide ((m6900_2.length + (atI a0 x27_2).length) * 1 ≤ 140737488355328)) (NX (IntKind.i64.wrap (x27_2 + 1)) (m6900_2 ++ (atI a0 x27_2))) none) none) none) (RET m6900_2)
def F62_l2 (k : Nat) (a0 : List (den (.sl (.int .u8)))) : Nat → Int → List (den (.int .u8)) → Option (List (den (.int .u8)))
  | 0, _, _ => none
  | n + 1, x27_2, m6900_2 => F62_l2_T k a0 (fun x27_2 m6900_2 => F62_l2 k a0 n x27_2 m6900_2) some x27_2 m6900_2
theorem F62_l2_rd {β : Type} (k n : Nat) (a0 : List (den (.sl (.int .u8)))) (x27_2 : Int) (m6900_2 : List (den (.int .u8))) (K : A × List (List Leaf) → Option β) :
    loopG (F62_E k) Try.f62 [1, 1, 1, 1, 0, 1, 0] 2 (kontAt (F62_E k) [1, 1, 1, 1, 0, 1, 0] (bodyOf Try.f62) 0 (endC (F62_E k) Try.f62 (F62_a a0) K)) (n + 1) (F62_s2 a0 x27_2 m6900_2) =
    F62_l2_T k a0 (fun x27_2 m6900_2 => loopG (F62_E k) Try.f62 [1, 1, 1, 1, 0, 1, 0] 2 (kontAt (F62_E k) [1, 1, 1, 1, 0, 1, 0] (bodyOf Try.f62) 0 (endC (F62_E k) Try.f62 (F62_a a0) K)) n (F62_s2 a0 x27_2 m6900_2)) (fun r => K (F62_r r)) x27_2 m6900_2 := by kernel_rfl
theorem F62_l2_lp {β : Type} (k : Nat) (a0 : List (den (.sl (.int .u8)))) (K : A × List (List Leaf) → Option β) (n : Nat) : ∀ (x27_2 : Int) (m6900_2 : List (den (.int .u8))), loopG (F62_E k) Try.f62 [1, 1, 1, 1, 0, 1, 0] 2 (kontAt (F62_E k) [1, 1, 1, 1, 0, 1, 0] (bodyOf Try.f62) 0 (endC (F62_E k) Try.f62 (F62_a a0) K)) n (F62_s2 a0 x27_2 m6900_2) =
    (F62_l2 k a0 n x27_2 m6900_2).bind fun r => K (F62_r r) := by
  induction n with
  | zero => intros; rfl
  | succ n ih =>
    intros
    rw [F62_l2_rd, F62_l2]
    simp only [F62_l2_T, bind_cond, Option.bind_assoc, Option.bind_some, Option.bind_none, Option.bind_fun_some, ih]
def F62_s0 (a0 : List (den (.sl (.int .u8)))) (x3_0 x11_0 : Int) : St := ⟨(.one (.s .ro (.sl (.int .u8)) a0)) :: (.one .d) :: (.one .d) :: (.one (.v (.int .i64 x3_0))) :: dz 5 ((.one (.s .ro (.sl (.int .u8)) a0)) :: (.one (.v (.int .i64 ((a0.length : Nat) : Int)))) :: (.one (.v (.int .i64 x11_0))) :: dz 24 []), []⟩
def F62_l0_T {β : Type} (k : Nat) (a0 : List (den (.sl (.int .u8)))) (NX : Int → Int → Option β) (LP2 : Int → List (den (.int .u8)) → Option β) (x3_0 x11_0 : Int) : Option β := cond (decide (x11_0 < ((a0.length : Nat) : Int))) (cond (decide (0 ≤ x11_0)) (cond (decide (x11_0 < ((a0.length : Nat) : Int))) (cond (decide ((IntKind.i64.wrap (x3_0 + (((atI a0 x11_0).length : Nat) : Int))) < 0)) none (NX (IntKind.i64.wrap (x3_0 + (((atI a0 x11_0).length : Nat) : Int))) (IntKind.i64.wrap (x11_0 + 1)))) none) none) ((F92 k x3_0).bind fun b1 => LP2 0 b1)
def F62_l0 (k : Nat) (a0 : List (den (.sl (.int .u8)))) : Nat → Int → Int → Option (List (den (.int .u8)))
  | 0, _, _ => none
  | n + 1, x3_0, x11_0 => F62_l0_T k a0 (fun x3_0 x11_0 => F62_l0 k a0 n x3_0 x11_0) (fun x27_2 m6900_2 => F62_l2 k a0 k x27_2 m6900_2) x3_0 x11_0
theorem F62_l0_rd {β : Type} (k n : Nat) (a0 : List (den (.sl (.int .u8)))) (x3_0 x11_0 : Int) (K : A × List (List Leaf) → Option β) :
    loopG (F62_E k) Try.f62 [1, 1, 0, 1, 0] 0 (kontAt (F62_E k) [1, 1, 0, 1, 0] (bodyOf Try.f62) 0 (endC (F62_E k) Try.f62 (F62_a a0) K)) (n + 1) (F62_s0 a0 x3_0 x11_0) =
    F62_l0_T k a0 (fun x3_0 x11_0 => loopG (F62_E k) Try.f62 [1, 1, 0, 1, 0] 0 (kontAt (F62_E k) [1, 1, 0, 1, 0] (bodyOf Try.f62) 0 (endC (F62_E k) Try.f62 (F62_a a0) K)) n (F62_s0 a0 x3_0 x11_0)) (fun x27_2 m6900_2 => loopG (F62_E k) Try.f62 [1, 1, 1, 1, 0, 1, 0] 2 (kontAt (F62_E k) [1, 1, 1, 1, 0, 1, 0] (bodyOf Try.f62) 0 (endC (F62_E k) Try.f62 (F62_a a0) K)) k (F62_s2 a0 x27_2 m6900_2)) x3_0 x11_0 := by kernel_rfl
theorem F62_l0_lp {β : Type} (k : Nat) (a0 : List (den (.sl (.int .u8)))) (K : A × List (List Leaf) → Option β) (n : Nat) : ∀ (x3_0 x11_0 : Int), loopG (F62_E k) Try.f62 [1, 1, 0, 1, 0] 0 (kontAt (F62_E k) [1, 1, 0, 1, 0] (bodyOf Try.f62) 0 (endC (F62_E k) Try.f62 (F62_a a0) K)) n (F62_s0 a0 x3_0 x11_0) =
    (F62_l0 k a0 n x3_0 x11_0).bind fun r => K (F62_r r) := by
  induction n with
  | zero => intros; rfl
  | succ n ih =>
    intros
    rw [F62_l0_rd, F62_l0]
    simp only [F62_l0_T, bind_cond, Option.bind_assoc, Option.bind_some, Option.bind_none, Option.bind_fun_some, F62_l2_lp, ih]
def F62_T {β : Type} (k : Nat) (a0 : List (den (.sl (.int .u8)))) (LP0 : Int → Int → Option β) : Option β := LP0 0 0
def F62 (k : Nat) (a0 : List (den (.sl (.int .u8)))) : Option (List (den (.int .u8))) := F62_T k a0 (fun x3_0 x11_0 => F62_l0 k a0 k x3_0 x11_0)
theorem F62_st {β : Type} (k : Nat) (a0 : List (den (.sl (.int .u8)))) (K : A × List (List Leaf) → Option β) : evalF (F62_E k) Try.f62 (F62_a a0) K =
    F62_T k a0 (fun x3_0 x11_0 => loopG (F62_E k) Try.f62 [1, 1, 0, 1, 0] 0 (kontAt (F62_E k) [1, 1, 0, 1, 0] (bodyOf Try.f62) 0 (endC (F62_E k) Try.f62 (F62_a a0) K)) k (F62_s0 a0 x3_0 x11_0)) := by kernel_rfl
theorem F62_ev {β : Type} (k : Nat) (a0 : List (den (.sl (.int .u8)))) (K : A × List (List Leaf) → Option β) : evalF (F62_E k) Try.f62 (F62_a a0) K = (F62 k a0).bind fun r => K (F62_r r) := by
  rw [F62_st, F62]
  simp only [F62_T, bind_cond, Option.bind_assoc, Option.bind_some, Option.bind_none, Option.bind_fun_some, F62_l0_lp]
theorem F62_tOk (k : Nat) : TabFn Try.prog (F62_t k) := .ent (F92_q k) F92_f (.none)
theorem F62_con (k : Nat) (a0 : List (den (.sl (.int .u8)))) : Contract Try.prog 62 (F62_a a0) ⟨F62 k a0, F62_r⟩ := con_of (envOk (F62_tOk k) _ _ _ _) mixed Try.func62 rfl rfl (F62_ev k a0 some)
def F62_sh : List AK := [.one (.l (.sl .ro (.sl (.int .u8))))]
def F62_p (k : Nat) : List Arg → Option CR := cle F62_sh fun x => ⟨F62 k x.1, F62_r⟩
theorem F62_q (k : Nat) : ∀ xs cr, F62_p k xs = some cr → Contract Try.prog 62 xs cr := cle_ok fun x => F62_con k _
theorem F62_f : FnOk Try.prog 62 := .of (by kernel_rfl)
def F102_h : Nat → Hint
  | 0 => ⟨[(1, .plain), (4, .own .own (.int .u8) []), (48, .plain), (49, .plain), (50, .plain)], [(1000, .plain), (1001, .plain), (1002, .plain), (1003, .plain), (1004, .plain), (1005, .plain), (1006, .plain), (1007, .plain), (1008, .plain), (1009, .plain), (1010, .plain)]⟩
  | _ => ⟨[], []⟩
def F102_t (k : Nat) : Tab := entT 59 (F59_p k) <| entT 91 (F91_p k) <| entT 62 (F62_p k) <| noTab
abbrev F102_E (k : Nat) : Env := env (F102_t k) F102_h .own [] k
abbrev F102_a (a0_0 a0_1 a0_2 a0_3 a0_4 : Int) (a0_5 a0_6 a0_7 a0_8 : Bool) (a0_9 : List (den rng)) (a0_10 : List (den (.int .u8))) : List Arg := [.agg [.l (.v (.int .i64 a0_0)), .l (.v (.int .i64 a0_1)), .l (.v (.int .i64 a0_2)), .l (.v (.int .i64 a0_3)), .l (.v (.int .i64 a0_4)), .l (.v (.bool a0_5)), .l (.v (.bool a0_6)), .l (.v (.bool a0_7)), .l (.v (.bool a0_8)), .l (.s .ro rng a0_9), .l (.s .ro (.int .u8) a0_10)]]
def F102_r (r : List (den (.int .u8))) : A × List (List Leaf) := (.one (.s .own (.int .u8) r), [])
def F102_s0 (a0_0 a0_1 a0_2 a0_3 a0_4 : Int) (a0_5 a0_6 a0_7 a0_8 : Bool) (a0_9 : List (den rng)) (a0_10 : List (den (.int .u8))) (x50_0 : Int) (m4900_0 : List (den (.int .u8))) : St := ⟨(.one .d) :: (.one (.ptr (.cell 1000) 11 0)) :: (.one .d) :: (.one .d) :: (.one (.a (.cell 4900) 0 0 none)) :: dz 43 ((.one (.s .ro rng a0_9)) :: (.one (.v (.int .i64 ((a0_9.length : Nat) : Int)))) :: (.one (.v (.int .i64 x50_0))) :: dz 23 []), [(1000, ⟨.v (.int .i64 a0_0), 0, 0⟩), (1001, ⟨.v (.int .i64 a0_1), 0, 0⟩), (1002, ⟨.v (.int .i64 a0_2), 0, 0⟩), (1003, ⟨.v (.int .i64 a0_3), 0, 0⟩), (1004, ⟨.v (.int .i64 a0_4), 0, 0⟩), (1005, ⟨.v (.bool a0_5), 0, 0⟩), (1006, ⟨.v (.bool a0_6), 0, 0⟩), (1007, ⟨.v (.bool a0_7), 0, 0⟩), (1008, ⟨.v (.bool a0_8), 0, 0⟩), (1009, ⟨.s .ro rng a0_9, 0, 0⟩), (1010, ⟨.s .ro (.int .u8) a0_10, 0, 0⟩), (4900, ⟨.s .own (.int .u8) m4900_0, 0, 0⟩)]⟩
def F102_l0_T {β : Type} (k : Nat) (a0_0 a0_1 a0_2 a0_3 a0_4 : Int) (a0_5 a0_6 a0_7 a0_8 : Bool) (a0_9 : List (den rng)) (a0_10 : List (den (.int .u8))) (NX : Int → List (den (.int .u8)) → Option β) (RET : List (den (.int .u8)) → Option β) (x50_0 : Int) (m4900_0 : List (den (.int .u8))) : Option β := cond (decide (x50_0 < ((a0_9.length : Nat) : Int))) (cond (decide (0 ≤ x50_0)) (cond (decide (x50_0 < ((a0_9.length : Nat) : Int))) ((F91 k ((atI a0_9 x50_0).1) 2).bind fun b8 => (F91 k ((atI a0_9 x50_0).2) 2).bind fun b9 => (F62 k [m4900_0, b8, b9]).bind fun b10 => NX (IntKind.i64.wrap (x50_0 + 1)) b10) none) none) ((F62 k [m4900_0, [IntKind.u8.wrap (((a0_10.length : Nat) : Int))], a0_10]).bind fun b11 => RET b11)
def F102_l0 (k : Nat) (a0_0 a0_1 a0_2 a0_3 a0_4 : Int) (a0_5 a0_6 a0_7 a0_8 : Bool) (a0_9 : List (den rng)) (a0_10 : List (den (.int .u8))) : Nat → Int → List (den (.int .u8)) → Option (List (den (.int .u8)))
  | 0, _, _ => none
  | n + 1, x50_0, m4900_0 => F102_l0_T k a0_0 a0_1 a0_2 a0_3 a0_4 a0_5 a0_6 a0_7 a0_8 a0_9 a0_10 (fun x50_0 m4900_0 => F102_l0 k a0_0 a0_1 a0_2 a0_3 a0_4 a0_5 a0_6 a0_7 a0_8 a0_9 a0_10 n x50_0 m4900_0) some x50_0 m4900_0
theorem F102_l0_rd {β : Type} (k n : Nat) (a0_0 a0_1 a0_2 a0_3 a0_4 : Int) (a0_5 a0_6 a0_7 a0_8 : Bool) (a0_9 : List (den rng)) (a0_10 : List (den (.int .u8))) (x50_0 : Int) (m4900_0 : List (den (.int .u8))) (K : A × List (List Leaf) → Option β) :
    loopG (F102_E k) Try.f102 [1, 1, 1, 0, 1, 0] 0 (kontAt (F102_E k) [1, 1, 1, 0, 1, 0] (bodyOf Try.f102) 0 (endC (F102_E k) Try.f102 (F102_a a0_0 a0_1 a0_2 a0_3 a0_4 a0_5 a0_6 a0_7 a0_8 a0_9 a0_10) K)) (n + 1) (F102_s0 a0_0 a0_1 a0_2 a0_3 a0_4 a0_5 a0_6 a0_7 a0_8 a0_9 a0_10 x50_0 m4900_0) =
    F102_l0_T k a0_0 a0_1 a0_2 a0_3 a0_4 a0_5 a0_6 a0_7 a0_8 a0_9 a0_10 (fun x50_0 m4900_0 => loopG (F102_E k) Try.f102 [1, 1, 1, 0, 1, 0] 0 (kontAt (F102_E k) [1, 1, 1, 0, 1, 0] (bodyOf Try.f102) 0 (endC (F102_E k) Try.f102 (F102_a a0_0 a0_1 a0_2 a0_3 a0_4 a0_5 a0_6 a0_7 a0_8 a0_9 a0_10) K)) n (F102_s0 a0_0 a0_1 a0_2 a0_3 a0_4 a0_5 a0_6 a0_7 a0_8 a0_9 a0_10 x50_0 m4900_0)) (fun r => K (F102_r r)) x50_0 m4900_0 := by kernel_rfl
theorem F102_l0_lp {β : Type} (k : Nat) (a0_0 a0_1 a0_2 a0_3 a0_4 : Int) (a0_5 a0_6 a0_7 a0_8 : Bool) (a0_9 : List (den rng)) (a0_10 : List (den (.int .u8))) (K : A × List (List Leaf) → Option β) (n : Nat) : ∀ (x50_0 : Int) (m4900_0 : List (den (.int .u8))), loopG (F102_E k) Try.f102 [1, 1, 1, 0, 1, 0] 0 (kontAt (F102_E k) [1, 1, 1, 0, 1, 0] (bodyOf Try.f102) 0 (endC (F102_E k) Try.f102 (F102_a a0_0 a0_1 a0_2 a0_3 a0_4 a0_5 a0_6 a0_7 a0_8 a0_9 a0_10) K)) n (F102_s0 a0_0 a0_1 a0_2 a0_3 a0_4 a0_5 a0_6 a0_7 a0_8 a0_9 a0_10 x50_0 m4900_0) =
    (F102_l0 k a0_0 a0_1 a0_2 a0_3 a0_4 a0_5 a0_6 a0_7 a0_8 a0_9 a0_10 n x50_0 m4900_0).bind fun r => K (F102_r r) := by
  induction n with
  | zero => intros; rfl
  | succ n ih =>
    intros
    rw [F102_l0_rd, F102_l0]
    simp only [F102_l0_T, bind_cond, Option.bind_assoc, Option.bind_some, Option.bind_none, Option.bind_fun_some, ih]
def F102_T {β : Type} (k : Nat) (a0_0 a0_1 a0_2 a0_3 a0_4 : Int) (a0_5 a0_6 a0_7 a0_8 : Bool) (a0_9 : List (den rng)) (a0_10 : List (den (.int .u8))) (LP0 : Int → List (den (.int .u8)) → Option β) : Option β := (F59 k a0_5 1).bind fun b1 => (F59 k a0_6 2).bind fun b2 => (F59 k a0_7 4).bind fun b3 => (F59 k a0_8 8).bind fun b4 => (F91 k a0_2 2).bind fun b5 => (F91 k a0_3 2).bind fun b6 => (F62 k [[IntKind.u8.wrap (a0_0), IntKind.u8.wrap (a0_1)], b5, b6, [IntKind.u8.wrap (a0_4), IntKind.u8.wrap (IntKind.i64.wrap ((IntKind.i64.wrap ((IntKind.i64.wrap (b1 + b2)) + b3)) + b4)), IntKind.u8.wrap (((a0_9.length : Nat) : Int))]]).bind fun b7 => LP0 0 b7
def F102 (k : Nat) (a0_0 a0_1 a0_2 a0_3 a0_4 : Int) (a0_5 a0_6 a0_7 a0_8 : Bool) (a0_9 : List (den rng)) (a0_10 : List (den (.int .u8))) : Option (List (den (.int .u8))) := F102_T k a0_0 a0_1 a0_2 a0_3 a0_4 a0_5 a0_6 a0_7 a0_8 a0_9 a0_10 (fun x50_0 m4900_0 => F102_l0 k a0_0 a0_1 a0_2 a0_3 a0_4 a0_5 a0_6 a0_7 a0_8 a0_9 a0_10 k x50_0 m4900_0)
theorem F102_st {β : Type} (k : Nat) (a0_0 a0_1 a0_2 a0_3 a0_4 : Int) (a0_5 a0_6 a0_7 a0_8 : Bool) (a0_9 : List (den rng)) (a0_10 : List (den (.int .u8))) (K : A × List (List Leaf) → Option β) : evalF (F102_E k) Try.f102 (F102_a a0_0 a0_1 a0_2 a0_3 a0_4 a0_5 a0_6 a0_7 a0_8 a0_9 a0_10) K =
    F102_T k a0_0 a0_1 a0_2 a0_3 a0_4 a0_5 a0_6 a0_7 a0_8 a0_9 a0_10 (fun x50_0 m4900_0 => loopG (F102_E k) Try.f102 [1, 1, 1, 0, 1, 0] 0 (kontAt (F102_E k) [1, 1, 1, 0, 1, 0] (bodyOf Try.f102) 0 (endC (F102_E k) Try.f102 (F102_a a0_0 a0_1 a0_2 a0_3 a0_4 a0_5 a0_6 a0_7 a0_8 a0_9 a0_10) K)) k (F102_s0 a0_0 a0_1 a0_2 a0_3 a0_4 a0_5 a0_6 a0_7 a0_8 a0_9 a0_10 x50_0 m4900_0)) := by kernel_rfl
theorem F102_ev {β : Type} (k : Nat) (a0_0 a0_1 a0_2 a0_3 a0_4 : Int) (a0_5 a0_6 a0_7 a0_8 : Bool) (a0_9 : List (den rng)) (a0_10 : List (den (.int .u8))) (K : A × List (List Leaf) → Option β) : evalF (F102_E k) Try.f102 (F102_a a0_0 a0_1 a0_2 a0_3 a0_4 a0_5 a0_6 a0_7 a0_8 a0_9 a0_10) K = (F102 k a0_0 a0_1 a0_2 a0_3 a0_4 a0_5 a0_6 a0_7 a0_8 a0_9 a0_10).bind fun r => K (F102_r r) := by
  rw [F102_st, F102]
  simp only [F102_T, bind_cond, Option.bind_assoc, Option.bind_some, Option.bind_none, Option.bind_fun_some, F102_l0_lp]
theorem F102_tOk (k : Nat) : TabFn Try.prog (F102_t k) := .ent (F59_q k) F59_f (.ent (F91_q k) F91_f (.ent (F62_q k) F62_f (.none)))
theorem F102_con (k : Nat) (a0_0 a0_1 a0_2 a0_3 a0_4 : Int) (a0_5 a0_6 a0_7 a0_8 : Bool) (a0_9 : List (den rng)) (a0_10 : List (den (.int .u8))) : Contract Try.prog 102 (F102_a a0_0 a0_1 a0_2 a0_3 a0_4 a0_5 a0_6 a0_7 a0_8 a0_9 a0_10) ⟨F102 k a0_0 a0_1 a0_2 a0_3 a0_4 a0_5 a0_6 a0_7 a0_8 a0_9 a0_10, F102_r⟩ := con_of (envOk (F102_tOk k) _ _ _ _) mixed Try.func102 rfl rfl (F102_ev k a0_0 a0_1 a0_2 a0_3 a0_4 a0_5 a0_6 a0_7 a0_8 a0_9 a0_10 some)
def F102_sh : List AK := [.agg [.l (.int .i64), .l (.int .i64), .l (.int .i64), .l (.int .i64), .l (.int .i64), .l (.bool), .l (.bool), .l (.bool), .l (.bool), .l (.sl .ro rng), .l (.sl .ro (.int .u8))]]
def F102_p (k : Nat) : List Arg → Option CR := cle F102_sh fun x => ⟨F102 k x.1.1 x.1.2.1 x.1.2.2.1 x.1.2.2.2.1 x.1.2.2.2.2.1 x.1.2.2.2.2.2.1 x.1.2.2.2.2.2.2.1 x.1.2.2.2.2.2.2.2.1 x.1.2.2.2.2.2.2.2.2.1 x.1.2.2.2.2.2.2.2.2.2.1 x.1.2.2.2.2.2.2.2.2.2.2.1, F102_r⟩
theorem F102_q (k : Nat) : ∀ xs cr, F102_p k xs = some cr → Contract Try.prog 102 xs cr := cle_ok fun x => F102_con k _ _ _ _ _ _ _ _ _ _ _
theorem F102_f : FnOk Try.prog 102 := .of (by kernel_rfl)
def F104_t (k : Nat) : Tab := entT 91 (F91_p k) <| entT 62 (F62_p k) <| noTab
abbrev F104_E (k : Nat) : Env := env (F104_t k) noHint .own [] k
abbrev F104_a (a0 a1 : Int) : List Arg := [.one (.l (.v (.int .i64 a0))), .one (.l (.v (.int .i64 a1)))]
def F104_r (r : List (den (.int .u8))) : A × List (List Leaf) := (.one (.s .own (.int .u8) r), [])
def F104 (k : Nat) (a0 a1 : Int) : Option (List (den (.int .u8))) := (F91 k a0 2).bind fun b1 => (F91 k a1 2).bind fun b2 => (F62 k [b1, b2]).bind fun b3 => some b3
theorem F104_st {β : Type} (k : Nat) (a0 a1 : Int) (K : A × List (List Leaf) → Option β) : evalF (F104_E k) Try.f104 (F104_a a0 a1) K =
    (F91 k a0 2).bind fun b1 => (F91 k a1 2).bind fun b2 => (F62 k [b1, b2]).bind fun b3 => K (.one (.s .own (.int .u8) b3), []) := by kernel_rfl
theorem F104_ev {β : Type} (k : Nat) (a0 a1 : Int) (K : A × List (List Leaf) → Option β) : evalF (F104_E k) Try.f104 (F104_a a0 a1) K = (F104 k a0 a1).bind fun r => K (F104_r r) := by
  rw [F104_st, F104]
  simp only [F104_r, bind_cond, Option.bind_assoc, Option.bind_some, Option.bind_none, Option.bind_fun_some]
theorem F104_tOk (k : Nat) : TabFn Try.prog (F104_t k) := .ent (F91_q k) F91_f (.ent (F62_q k) F62_f (.none))
theorem F104_con (k : Nat) (a0 a1 : Int) : Contract Try.prog 104 (F104_a a0 a1) ⟨F104 k a0 a1, F104_r⟩ := con_of (envOk (F104_tOk k) _ _ _ _) mixed Try.func104 rfl rfl (F104_ev k a0 a1 some)
def F104_sh : List AK := [.one (.l (.int .i64)), .one (.l (.int .i64))]
def F104_p (k : Nat) : List Arg → Option CR := cle F104_sh fun x => ⟨F104 k x.1 x.2.1, F104_r⟩
theorem F104_q (k : Nat) : ∀ xs cr, F104_p k xs = some cr → Contract Try.prog 104 xs cr := cle_ok fun x => F104_con k _ _
theorem F104_f : FnOk Try.prog 104 := .of (by kernel_rfl)
def F117_h : Nat → Hint
  | 0 => ⟨[(3, .plain), (6, .plain), (7, .plain), (8, .plain)], []⟩
  | _ => ⟨[], []⟩
abbrev F117_E (k : Nat) : Env := env noTab F117_h .own [] k
abbrev F117_a (a0 : List (den (.int .i64))) : List Arg := [.one (.l (.s .ro (.int .i64) a0))]
def F117_r (r : Int) : A × List (List Leaf) := (.one (.v (.int .i64 r)), [])
def F117_s0 (a0 : List (den (.int .i64))) (x3_0 x8_0 : Int) : St := ⟨dz 3 ((.one (.v (.int .i64 x3_0))) :: (.one .d) :: (.one .d) :: (.one (.s .ro (.int .i64) a0)) :: (.one (.v (.int .i64 ((a0.length : Nat) : Int)))) :: (.one (.v (.int .i64 x8_0))) :: dz 12 []), []⟩
def F117_l0_T {β : Type} (k : Nat) (a0 : List (den (.int .i64))) (NX : Int → Int → Option β) (RET : Int → Option β) (x3_0 x8_0 : Int) : Option β := cond (decide (x8_0 < ((a0.length : Nat) : Int))) (cond (decide (0 ≤ x8_0)) (cond (decide (x8_0 < ((a0.length : Nat) : Int))) (cond (decide ((IntKind.i64.wrap (x3_0 + (atI a0 x8_0))) > 65535)) (NX (IntKind.i64.wrap ((IntKind.i64.wrap (x3_0 + (atI a0 x8_0))) - 65535)) (IntKind.i64.wrap (x8_0 + 1))) (NX (IntKind.i64.wrap (x3_0 + (atI a0 x8_0))) (IntKind.i64.wrap (x8_0 + 1)))) none) none) (RET x3_0)
def F117_l0 (k : Nat) (a0 : List (den (.int .i64))) : Nat → Int → Int → Option (Int)
  | 0, _, _ => none
  | n + 1, x3_0, x8_0 => F117_l0_T k a0 (fun x3_0 x8_0 => F117_l0 k a0 n x3_0 x8_0) some x3_0 x8_0
theorem F117_l0_rd {β : Type} (k n : Nat) (a0 : List (den (.int .i64))) (x3_0 x8_0 : Int) (K : A × List (List Leaf) → Option β) :
    loopG (F117_E k) Try.f117 [1, 1, 0, 1, 0] 0 (kontAt (F117_E k) [1, 1, 0, 1, 0] (bodyOf Try.f117) 0 (endC (F117_E k) Try.f117 (F117_a a0) K)) (n + 1) (F117_s0 a0 x3_0 x8_0) =
    F117_l0_T k a0 (fun x3_0 x8_0 => loopG (F117_E k) Try.f117 [1, 1, 0, 1, 0] 0 (kontAt (F117_E k) [1, 1, 0, 1, 0] (bodyOf Try.f117) 0 (endC (F117_E k) Try.f117 (F117_a a0) K)) n (F117_s0 a0 x3_0 x8_0)) (fun r => K (F117_r r)) x3_0 x8_0 := by kernel_rfl
theorem F117_l0_lp {β : Type} (k : Nat) (a0 : List (den (.int .i64))) (K : A × List (List Leaf) → Option β) (n : Nat) : ∀ (x3_0 x8_0 : Int), loopG (F117_E k) Try.f117 [1, 1, 0, 1, 0] 0 (kontAt (F117_E k) [1, 1, 0, 1, 0] (bodyOf Try.f117) 0 (endC (F117_E k) Try.f117 (F117_a a0) K)) n (F117_s0 a0 x3_0 x8_0) =
    (F117_l0 k a0 n x3_0 x8_0).bind fun r => K (F117_r r) := by
  induction n with
  | zero => intros; rfl
  | succ n ih =>
    intros
    rw [F117_l0_rd, F117_l0]
    simp only [F117_l0_T, bind_cond, Option.bind_assoc, Option.bind_some, Option.bind_none, Option.bind_fun_some, ih]
def F117_T {β : Type} (k : Nat) (a0 : List (den (.int .i64))) (LP0 : Int → Int → Option β) : Option β := LP0 0 0
def F117 (k : Nat) (a0 : List (den (.int .i64))) : Option (Int) := F117_T k a0 (fun x3_0 x8_0 => F117_l0 k a0 k x3_0 x8_0)
theorem F117_st {β : Type} (k : Nat) (a0 : List (den (.int .i64))) (K : A × List (List Leaf) → Option β) : evalF (F117_E k) Try.f117 (F117_a a0) K =
    F117_T k a0 (fun x3_0 x8_0 => loopG (F117_E k) Try.f117 [1, 1, 0, 1, 0] 0 (kontAt (F117_E k) [1, 1, 0, 1, 0] (bodyOf Try.f117) 0 (endC (F117_E k) Try.f117 (F117_a a0) K)) k (F117_s0 a0 x3_0 x8_0)) := by kernel_rfl
theorem F117_ev {β : Type} (k : Nat) (a0 : List (den (.int .i64))) (K : A × List (List Leaf) → Option β) : evalF (F117_E k) Try.f117 (F117_a a0) K = (F117 k a0).bind fun r => K (F117_r r) := by
  rw [F117_st, F117]
  simp only [F117_T, bind_cond, Option.bind_assoc, Option.bind_some, Option.bind_none, Option.bind_fun_some, F117_l0_lp]
theorem F117_con (k : Nat) (a0 : List (den (.int .i64))) : Contract Try.prog 117 (F117_a a0) ⟨F117 k a0, F117_r⟩ := con_of (envOk .none _ _ _ _) mixed Try.func117 rfl rfl (F117_ev k a0 some)
def F117_sh : List AK := [.one (.l (.sl .ro (.int .i64)))]
def F117_p (k : Nat) : List Arg → Option CR := cle F117_sh fun x => ⟨F117 k x.1, F117_r⟩
theorem F117_q (k : Nat) : ∀ xs cr, F117_p k xs = some cr → Contract Try.prog 117 xs cr := cle_ok fun x => F117_con k _
theorem F117_f : FnOk Try.prog 117 := .of (by kernel_rfl)
def F103_h : Nat → Hint
  | 0 => ⟨[(3, .plain)], [(3000, .plain)]⟩
  | _ => ⟨[], []⟩
def F103_t (k : Nat) : Tab := entT 117 (F117_p k) <| noTab
abbrev F103_E (k : Nat) : Env := env (F103_t k) F103_h .own [] k
abbrev F103_a (a0 : List (den (.int .u8))) : List Arg := [.one (.l (.s .ro (.int .u8) a0))]
def F103_r (r : Int) : A × List (List Leaf) := (.one (.v (.int .i64 r)), [])
def F103_s0 (a0 : List (den (.int .u8))) (m3000_0 : Int) : St := ⟨dz 3 ((.one (.ptr (.cell 3000) 1 0)) :: dz 25 []), [(3000, ⟨.v (.int .i64 m3000_0), 0, 0⟩)]⟩
def F103_l0 (k : Nat) (a0 : List (den (.int .u8))) : List (List (den (.int .u8))) → Int → Option (Int)
  | [], m3000_0 => some (IntKind.i64.wrap (65535 - m3000_0))
  | z0_0 :: r, m3000_0 => cond (decide (0 < ((z0_0.length : Nat) : Int))) (cond (decide (((z0_0.length : Nat) : Int) > 1)) (cond (decide (1 < ((z0_0.length : Nat) : Int))) ((F117 k [m3000_0, bitsOf .or .i64 (IntKind.i64.wrap ((IntKind.i64.wrap (atI z0_0 0)) * 2 ^ (8))) (IntKind.i64.wrap (atI z0_0 1))]).bind fun b1 => F103_l0 k a0 r b1) none) ((F117 k [m3000_0, IntKind.i64.wrap ((IntKind.i64.wrap (atI z0_0 0)) * 2 ^ (8))]).bind fun b2 => F103_l0 k a0 r b2)) none
theorem F103_l0_r0 {β : Type} (k : Nat) (a0 : List (den (.int .u8))) (m3000_0 : Int) (K : A × List (List Leaf) → Option β) :
    rangeG (F103_E k) Try.f103 [1, 1, 0, 1, 0] 0 8 (kontAt (F103_E k) [1, 1, 0, 1, 0] (bodyOf Try.f103) 0 (endC (F103_E k) Try.f103 (F103_a a0) K)) ([] : List (List (den (.int .u8)))) (F103_s0 a0 m3000_0) =
    K (.one (.v (.int .i64 (IntKind.i64.wrap (65535 - m3000_0)))), []) := by kernel_rfl
theorem F103_l0_rd {β : Type} (k : Nat) (a0 : List (den (.int .u8))) (z0_0 : List (den (.int .u8))) (r : List (List (den (.int .u8)))) (m3000_0 : Int) (K : A × List (List Leaf) → Option β) :
    rangeG (F103_E k) Try.f103 [1, 1, 0, 1, 0] 0 8 (kontAt (F103_E k) [1, 1, 0, 1, 0] (bodyOf Try.f103) 0 (endC (F103_E k) Try.f103 (F103_a a0) K)) (z0_0 :: r) (F103_s0 a0 m3000_0) =
    cond (decide (0 < ((z0_0.length : Nat) : Int))) (cond (decide (((z0_0.length : Nat) : Int) > 1)) (cond (decide (1 < ((z0_0.length : Nat) : Int))) ((F117 k [m3000_0, bitsOf .or .i64 (IntKind.i64.wrap ((IntKind.i64.wrap (atI z0_0 0)) * 2 ^ (8))) (IntKind.i64.wrap (atI z0_0 1))]).bind fun b1 => rangeG (F103_E k) Try.f103 [1, 1, 0, 1, 0] 0 8 (kontAt (F103_E k) [1, 1, 0, 1, 0] (bodyOf Try.f103) 0 (endC (F103_E k) Try.f103 (F103_a a0) K)) r (F103_s0 a0 b1)) none) ((F117 k [m3000_0, IntKind.i64.wrap ((IntKind.i64.wrap (atI z0_0 0)) * 2 ^ (8))]).bind fun b2 => rangeG (F103_E k) Try.f103 [1, 1, 0, 1, 0] 0 8 (kontAt (F103_E k) [1, 1, 0, 1, 0] (bodyOf Try.f103) 0 (endC (F103_E k) Try.f103 (F103_a a0) K)) r (F103_s0 a0 b2))) none := by kernel_rfl
theorem F103_l0_lp {β : Type} (k : Nat) (a0 : List (den (.int .u8))) (K : A × List (List Leaf) → Option β) (l : List (List (den (.int .u8)))) : ∀ (m3000_0 : Int), rangeG (F103_E k) Try.f103 [1, 1, 0, 1, 0] 0 8 (kontAt (F103_E k) [1, 1, 0, 1, 0] (bodyOf Try.f103) 0 (endC (F103_E k) Try.f103 (F103_a a0) K)) l (F103_s0 a0 m3000_0) =
    (F103_l0 k a0 l m3000_0).bind fun r => K (F103_r r) := by
  induction l with
  | nil => intros; rw [F103_l0_r0, F103_l0]; simp only [F103_r, bind_cond, Option.bind_assoc, Option.bind_some, Option.bind_none, Option.bind_fun_some]
  | cons z r ih =>
    intros
    rw [F103_l0_rd, F103_l0]
    simp only [F103_r, bind_cond, Option.bind_assoc, Option.bind_some, Option.bind_none, Option.bind_fun_some, ih]
def F103 (k : Nat) (a0 : List (den (.int .u8))) : Option (Int) := cond (decide (1 ≤ 2) && decide (2 ≤ 9223372036854775807) && decide (a0.length ≤ 140737488355328)) (F103_l0 k a0 (pieces ((2 : Int).toNat) a0) 0) none
theorem F103_st {β : Type} (k : Nat) (a0 : List (den (.int .u8))) (K : A × List (List Leaf) → Option β) : evalF (F103_E k) Try.f103 (F103_a a0) K =
    cond (decide (1 ≤ 2) && decide (2 ≤ 9223372036854775807) && decide (a0.length ≤ 140737488355328)) (rangeG (F103_E k) Try.f103 [1, 1, 0, 1, 0] 0 8 (kontAt (F103_E k) [1, 1, 0, 1, 0] (bodyOf Try.f103) 0 (endC (F103_E k) Try.f103 (F103_a a0) K)) (pieces ((2 : Int).toNat) a0) (F103_s0 a0 0)) none := by kernel_rfl
theorem F103_ev {β : Type} (k : Nat) (a0 : List (den (.int .u8))) (K : A × List (List Leaf) → Option β) : evalF (F103_E k) Try.f103 (F103_a a0) K = (F103 k a0).bind fun r => K (F103_r r) := by
  rw [F103_st, F103]
  simp only [F103_r, bind_cond, Option.bind_assoc, Option.bind_some, Option.bind_none, Option.bind_fun_some, F103_l0_lp]
theorem F103_tOk (k : Nat) : TabFn Try.prog (F103_t k) := .ent (F117_q k) F117_f (.none)
theorem F103_con (k : Nat) (a0 : List (den (.int .u8))) : Contract Try.prog 103 (F103_a a0) ⟨F103 k a0, F103_r⟩ := con_of (envOk (F103_tOk k) _ _ _ _) mixed Try.func103 rfl rfl (F103_ev k a0 some)
def F103_sh : List AK := [.one (.l (.sl .ro (.int .u8)))]
def F103_p (k : Nat) : List Arg → Option CR := cle F103_sh fun x => ⟨F103 k x.1, F103_r⟩
theorem F103_q (k : Nat) : ∀ xs cr, F103_p k xs = some cr → Contract Try.prog 103 xs cr := cle_ok fun x => F103_con k _
theorem F103_f : FnOk Try.prog 103 := .of (by kernel_rfl)
def F74_t (k : Nat) : Tab := entT 14 (F14_p k) <| entT 55 (F55_p k) <| entT 102 (F102_p k) <| entT 104 (F104_p k) <| entT 62 (F62_p k) <| entT 103 (F103_p k) <| entT 91 (F91_p k) <| noTab
abbrev F74_E (k : Nat) : Env := { env (F74_t k) noHint .own [] k with frz := [28, 32] }
abbrev F74_a (a0_0 a0_1 a0_2 a0_3 a0_4 : Int) (a0_5 a0_6 a0_7 a0_8 : Bool) (a0_9 : List (den rng)) (a0_10 : List (den (.int .u8))) (a1 a2 : Int) : List Arg := [.agg [.l (.v (.int .i64 a0_0)), .l (.v (.int .i64 a0_1)), .l (.v (.int .i64 a0_2)), .l (.v (.int .i64 a0_3)), .l (.v (.int .i64 a0_4)), .l (.v (.bool a0_5)), .l (.v (.bool a0_6)), .l (.v (.bool a0_7)), .l (.v (.bool a0_8)), .l (.s .ro rng a0_9), .l (.s .ro (.int .u8) a0_10)], .one (.l (.v (.int .i64 a1))), .one (.l (.v (.int .i64 a2)))]
def F74_r (r : List (den (.int .u8))) : A × List (List Leaf) := (.one (.s .own (.int .u8) r), [])
def F74_T {β : Type} (k : Nat) (a0_0 a0_1 a0_2 a0_3 a0_4 : Int) (a0_5 a0_6 a0_7 a0_8 : Bool) (a0_9 : List (den rng)) (a0_10 : List (den (.int .u8))) (a1 a2 : Int) (RET : List (den (.int .u8)) → Option β) : Option β := (F14 k a0_0 a0_1 a0_2 a0_3 a0_4 a0_5 a0_6 a0_7 a0_8 a0_9 a0_10).bind fun b1 => cond (!b1) (RET []) ((F55 k a1).bind fun b2 => cond (!b2) (RET []) ((F55 k a2).bind fun b3 => cond (!b3) (RET []) ((F102 k a0_0 a0_1 a0_2 a0_3 a0_4 a0_5 a0_6 a0_7 a0_8 a0_9 a0_10).bind fun b4 => (F104 k a1 a2).bind fun b5 => (F62 k [b5, b4]).bind fun b6 => (F103 k b6).bind fun b7 => (F91 k b7 2).bind fun b8 => (F62 k [b4, b8]).bind fun b9 => RET b9)))
def F74 (k : Nat) (a0_0 a0_1 a0_2 a0_3 a0_4 : Int) (a0_5 a0_6 a0_7 a0_8 : Bool) (a0_9 : List (den rng)) (a0_10 : List (den (.int .u8))) (a1 a2 : Int) : Option (List (den (.int .u8))) := F74_T k a0_0 a0_1 a0_2 a0_3 a0_4 a0_5 a0_6 a0_7 a0_8 a0_9 a0_10 a1 a2 some
theorem F74_st {β : Type} (k : Nat) (a0_0 a0_1 a0_2 a0_3 a0_4 : Int) (a0_5 a0_6 a0_7 a0_8 : Bool) (a0_9 : List (den rng)) (a0_10 : List (den (.int .u8))) (a1 a2 : Int) (K : A × List (List Leaf) → Option β) : evalF (F74_E k) Try.f74 (F74_a a0_0 a0_1 a0_2 a0_3 a0_4 a0_5 a0_6 a0_7 a0_8 a0_9 a0_10 a1 a2) K =
    F74_T k a0_0 a0_1 a0_2 a0_3 a0_4 a0_5 a0_6 a0_7 a0_8 a0_9 a0_10 a1 a2 (fun r => K (F74_r r)) := by kernel_rfl
theorem F74_ev {β : Type} (k : Nat) (a0_0 a0_1 a0_2 a0_3 a0_4 : Int) (a0_5 a0_6 a0_7 a0_8 : Bool) (a0_9 : List (den rng)) (a0_10 : List (den (.int .u8))) (a1 a2 : Int) (K : A × List (List Leaf) → Option β) : evalF (F74_E k) Try.f74 (F74_a a0_0 a0_1 a0_2 a0_3 a0_4 a0_5 a0_6 a0_7 a0_8 a0_9 a0_10 a1 a2) K = (F74 k a0_0 a0_1 a0_2 a0_3 a0_4 a0_5 a0_6 a0_7 a0_8 a0_9 a0_10 a1 a2).bind fun r => K (F74_r r) := by
  rw [F74_st, F74]
  simp only [F74_T, bind_cond, Option.bind_assoc, Option.bind_some, Option.bind_none, Option.bind_fun_some]
theorem F74_tOk (k : Nat) : TabFn Try.prog (F74_t k) := .ent (F14_q k) F14_f (.ent (F55_q k) F55_f (.ent (F102_q k) F102_f (.ent (F104_q k) F104_f (.ent (F62_q k) F62_f (.ent (F103_q k) F103_f (.ent (F91_q k) F91_f (.none)))))))
theorem F74_con (k : Nat) (a0_0 a0_1 a0_2 a0_3 a0_4 : Int) (a0_5 a0_6 a0_7 a0_8 : Bool) (a0_9 : List (den rng)) (a0_10 : List (den (.int .u8))) (a1 a2 : Int) : Contract Try.prog 74 (F74_a a0_0 a0_1 a0_2 a0_3 a0_4 a0_5 a0_6 a0_7 a0_8 a0_9 a0_10 a1 a2) ⟨F74 k a0_0 a0_1 a0_2 a0_3 a0_4 a0_5 a0_6 a0_7 a0_8 a0_9 a0_10 a1 a2, F74_r⟩ := con_of (envOkF [28, 32] (F74_tOk k) _ _ _ _) mixed Try.func74 rfl rfl (F74_ev k a0_0 a0_1 a0_2 a0_3 a0_4 a0_5 a0_6 a0_7 a0_8 a0_9 a0_10 a1 a2 some)
def F74_sh : List AK := [.agg [.l (.int .i64), .l (.int .i64), .l (.int .i64), .l (.int .i64), .l (.int .i64), .l (.bool), .l (.bool), .l (.bool), .l (.bool), .l (.sl .ro rng), .l (.sl .ro (.int .u8))], .one (.l (.int .i64)), .one (.l (.int .i64))]
def F74_p (k : Nat) : List Arg → Option CR := cle F74_sh fun x => ⟨F74 k x.1.1 x.1.2.1 x.1.2.2.1 x.1.2.2.2.1 x.1.2.2.2.2.1 x.1.2.2.2.2.2.1 x.1.2.2.2.2.2.2.1 x.1.2.2.2.2.2.2.2.1 x.1.2.2.2.2.2.2.2.2.1 x.1.2.2.2.2.2.2.2.2.2.1 x.1.2.2.2.2.2.2.2.2.2.2.1 x.2.1 x.2.2.1, F74_r⟩
theorem F74_q (k : Nat) : ∀ xs cr, F74_p k xs = some cr → Contract Try.prog 74 xs cr := cle_ok fun x => F74_con k _ _ _ _ _ _ _ _ _ _ _ _ _
theorem F74_f : FnOk Try.prog 74 := .of (by kernel_rfl)
def F105_t (k : Nat) : Tab := entT 55 (F55_p k) <| entT 45 (F45_p k) <| noTab
abbrev F105_E (k : Nat) : Env := env (F105_t k) noHint .own [] k
abbrev F105_a (a0_0 a0_1 a0_2 a0_3 a0_4 a0_5 : Int) (a0_6 a0_7 : Bool) (a0_8 : List (den (.int .u8))) : List Arg := [.agg [.l (.v (.int .i64 a0_0)), .l (.v (.int .i64 a0_1)), .l (.v (.int .i64 a0_2)), .l (.v (.int .i64 a0_3)), .l (.v (.int .i64 a0_4)), .l (.v (.int .i64 a0_5)), .l (.v (.bool a0_6)), .l (.v (.bool a0_7)), .l (.s .ro (.int .u8) a0_8)]]
def F105_r (r : Bool) : A × List (List Leaf) := (.one (.v (.bool r)), [])
def F105_T {β : Type} (k : Nat) (a0_0 a0_1 a0_2 a0_3 a0_4 a0_5 : Int) (a0_6 a0_7 : Bool) (a0_8 : List (den (.int .u8))) (RET : Bool → Option β) : Option β := (F55 k a0_0).bind fun b1 => cond b1 ((F55 k a0_1).bind fun b2 => cond b2 ((F45 k a0_2 0 255).bind fun b3 => cond b3 ((F45 k a0_3 0 255).bind fun b4 => cond b4 ((F45 k a0_4 0 255).bind fun b5 => cond b5 ((F45 k a0_5 0 255).bind fun b6 => cond b6 (cond (decide (((a0_8.length : Nat) : Int) ≤ 48)) (cond (!a0_6) (cond (!a0_7) (RET true) (cond (a0_5 == 0) (RET (!a0_6)) (RET false))) (cond (decide (((a0_8.length : Nat) : Int) > 0)) (cond (!a0_7) (RET true) (cond (a0_5 == 0) (RET (!a0_6)) (RET false))) (RET false))) (RET false)) (RET false)) (RET false)) (RET false)) (RET false)) (RET false)) (RET false)
def F105 (k : Nat) (a0_0 a0_1 a0_2 a0_3 a0_4 a0_5 : Int) (a0_6 a0_7 : Bool) (a0_8 : List (den (.int .u8))) : Option (Bool) := F105_T k a0_0 a0_1 a0_2 a0_3 a0_4 a0_5 a0_6 a0_7 a0_8 some
theorem F105_st {β : Type} (k : Nat) (a0_0 a0_1 a0_2 a0_3 a0_4 a0_5 : Int) (a0_6 a0_7 : Bool) (a0_8 : List (den (.int .u8))) (K : A × List (List Leaf) → Option β) : evalF (F105_E k) Try.f105 (F105_a a0_0 a0_1 a0_2 a0_3 a0_4 a0_5 a0_6 a0_7 a0_8) K =
    F105_T k a0_0 a0_1 a0_2 a0_3 a0_4 a0_5 a0_6 a0_7 a0_8 (fun r => K (F105_r r)) := by kernel_rfl
theorem F105_ev {β : Type} (k : Nat) (a0_0 a0_1 a0_2 a0_3 a0_4 a0_5 : Int) (a0_6 a0_7 : Bool) (a0_8 : List (den (.int .u8))) (K : A × List (List Leaf) → Option β) : evalF (F105_E k) Try.f105 (F105_a a0_0 a0_1 a0_2 a0_3 a0_4 a0_5 a0_6 a0_7 a0_8) K = (F105 k a0_0 a0_1 a0_2 a0_3 a0_4 a0_5 a0_6 a0_7 a0_8).bind fun r => K (F105_r r) := by
  rw [F105_st, F105]
  simp only [F105_T, bind_cond, Option.bind_assoc, Option.bind_some, Option.bind_none, Option.bind_fun_some]
theorem F105_tOk (k : Nat) : TabFn Try.prog (F105_t k) := .ent (F55_q k) F55_f (.ent (F45_q k) F45_f (.none))
theorem F105_con (k : Nat) (a0_0 a0_1 a0_2 a0_3 a0_4 a0_5 : Int) (a0_6 a0_7 : Bool) (a0_8 : List (den (.int .u8))) : Contract Try.prog 105 (F105_a a0_0 a0_1 a0_2 a0_3 a0_4 a0_5 a0_6 a0_7 a0_8) ⟨F105 k a0_0 a0_1 a0_2 a0_3 a0_4 a0_5 a0_6 a0_7 a0_8, F105_r⟩ := con_of (envOk (F105_tOk k) _ _ _ _) mixed Try.func105 rfl rfl (F105_ev k a0_0 a0_1 a0_2 a0_3 a0_4 a0_5 a0_6 a0_7 a0_8 some)
def F105_sh : List AK := [.agg [.l (.int .i64), .l (.int .i64), .l (.int .i64), .l (.int .i64), .l (.int .i64), .l (.int .i64), .l (.bool), .l (.bool), .l (.sl .ro (.int .u8))]]
def F105_p (k : Nat) : List Arg → Option CR := cle F105_sh fun x => ⟨F105 k x.1.1 x.1.2.1 x.1.2.2.1 x.1.2.2.2.1 x.1.2.2.2.2.1 x.1.2.2.2.2.2.1 x.1.2.2.2.2.2.2.1 x.1.2.2.2.2.2.2.2.1 x.1.2.2.2.2.2.2.2.2.1, F105_r⟩
theorem F105_q (k : Nat) : ∀ xs cr, F105_p k xs = some cr → Contract Try.prog 105 xs cr := cle_ok fun x => F105_con k _ _ _ _ _ _ _ _ _
theorem F105_f : FnOk Try.prog 105 := .of (by kernel_rfl)
def F107_t (k : Nat) : Tab := entT 45 (F45_p k) <| noTab
abbrev F107_E (k : Nat) : Env := env (F107_t k) noHint .own [] k
abbrev F107_a (a0_0 a0_1 a0_2 : Int) (a0_3 : List (den (.int .u8))) : List Arg := [.agg [.l (.v (.int .i64 a0_0)), .l (.v (.int .i64 a0_1)), .l (.v (.int .i64 a0_2)), .l (.s .ro (.int .u8) a0_3)]]
def F107_r (r : Bool) : A × List (List Leaf) := (.one (.v (.bool r)), [])
def F107_T {β : Type} (k : Nat) (a0_0 a0_1 a0_2 : Int) (a0_3 : List (den (.int .u8))) (RET : Bool → Option β) : Option β := (F45 k a0_0 0 255).bind fun b1 => cond b1 ((F45 k a0_1 0 254).bind fun b2 => cond b2 ((F45 k a0_2 0 255).bind fun b3 => cond b3 (RET (decide (((a0_3.length : Nat) : Int) ≤ 64))) (RET false)) (RET false)) (RET false)
def F107 (k : Nat) (a0_0 a0_1 a0_2 : Int) (a0_3 : List (den (.int .u8))) : Option (Bool) := F107_T k a0_0 a0_1 a0_2 a0_3 some
theorem F107_st {β : Type} (k : Nat) (a0_0 a0_1 a0_2 : Int) (a0_3 : List (den (.int .u8))) (K : A × List (List Leaf) → Option β) : evalF (F107_E k) Try.f107 (F107_a a0_0 a0_1 a0_2 a0_3) K =
    F107_T k a0_0 a0_1 a0_2 a0_3 (fun r => K (F107_r r)) := by kernel_rfl
theorem F107_ev {β : Type} (k : Nat) (a0_0 a0_1 a0_2 : Int) (a0_3 : List (den (.int .u8))) (K : A × List (List Leaf) → Option β) : evalF (F107_E k) Try.f107 (F107_a a0_0 a0_1 a0_2 a0_3) K = (F107 k a0_0 a0_1 a0_2 a0_3).bind fun r => K (F107_r r) := by
  rw [F107_st, F107]
  simp only [F107_T, bind_cond, Option.bind_assoc, Option.bind_some, Option.bind_none, Option.bind_fun_some]
theorem F107_tOk (k : Nat) : TabFn Try.prog (F107_t k) := .ent (F45_q k) F45_f (.none)
theorem F107_con (k : Nat) (a0_0 a0_1 a0_2 : Int) (a0_3 : List (den (.int .u8))) : Contract Try.prog 107 (F107_a a0_0 a0_1 a0_2 a0_3) ⟨F107 k a0_0 a0_1 a0_2 a0_3, F107_r⟩ := con_of (envOk (F107_tOk k) _ _ _ _) mixed Try.func107 rfl rfl (F107_ev k a0_0 a0_1 a0_2 a0_3 some)
def F107_sh : List AK := [.agg [.l (.int .i64), .l (.int .i64), .l (.int .i64), .l (.sl .ro (.int .u8))]]
def F107_p (k : Nat) : List Arg → Option CR := cle F107_sh fun x => ⟨F107 k x.1.1 x.1.2.1 x.1.2.2.1 x.1.2.2.2.1, F107_r⟩
theorem F107_q (k : Nat) : ∀ xs cr, F107_p k xs = some cr → Contract Try.prog 107 xs cr := cle_ok fun x => F107_con k _ _ _ _
theorem F107_f : FnOk Try.prog 107 := .of (by kernel_rfl)
def F76_t (k : Nat) : Tab := entT 107 (F107_p k) <| entT 103 (F103_p k) <| entT 91 (F91_p k) <| entT 62 (F62_p k) <| noTab
abbrev F76_E (k : Nat) : Env := env (F76_t k) noHint .own [] k
abbrev F76_a (a0_0 a0_1 a0_2 : Int) (a0_3 : List (den (.int .u8))) : List Arg := [.agg [.l (.v (.int .i64 a0_0)), .l (.v (.int .i64 a0_1)), .l (.v (.int .i64 a0_2)), .l (.s .ro (.int .u8) a0_3)]]
def F76_r (r : List (den (.int .u8))) : A × List (List Leaf) := (.one (.s .own (.int .u8) r), [])
def F76_T {β : Type} (k : Nat) (a0_0 a0_1 a0_2 : Int) (a0_3 : List (den (.int .u8))) (RET : List (den (.int .u8)) → Option β) : Option β := (F107 k a0_0 a0_1 a0_2 a0_3).bind fun b1 => cond (!b1) (RET []) (cond (decide (([IntKind.u8.wrap (a0_0), IntKind.u8.wrap (a0_1), IntKind.u8.wrap (a0_2), IntKind.u8.wrap (((a0_3.length : Nat) : Int))].length + a0_3.length) * 1 ≤ 140737488355328)) ((F103 k ([IntKind.u8.wrap (a0_0), IntKind.u8.wrap (a0_1), IntKind.u8.wrap (a0_2), IntKind.u8.wrap (((a0_3.length : Nat) : Int))] ++ a0_3)).bind fun b2 => (F91 k b2 2).bind fun b3 => (F62 k [[IntKind.u8.wrap (a0_0), IntKind.u8.wrap (a0_1), IntKind.u8.wrap (a0_2), IntKind.u8.wrap (((a0_3.length : Nat) : Int))] ++ a0_3, b3]).bind fun b4 => RET b4) none)
def F76 (k : Nat) (a0_0 a0_1 a0_2 : Int) (a0_3 : List (den (.int .u8))) : Option (List (den (.int .u8))) := F76_T k a0_0 a0_1 a0_2 a0_3 some
theorem F76_st {β : Type} (k : Nat) (a0_0 a0_1 a0_2 : Int) (a0_3 : List (den (.int .u8))) (K : A × List (List Leaf) → Option β) : evalF (F76_E k) Try.f76 (F76_a a0_0 a0_1 a0_2 a0_3) K =
    F76_T k a0_0 a0_1 a0_2 a0_3 (fun r => K (F76_r r)) := by kernel_rfl
theorem F76_ev {β : Type} (k : Nat) (a0_0 a0_1 a0_2 : Int) (a0_3 : List (den (.int .u8))) (K : A × List (List Leaf) → Option β) : evalF (F76_E k) Try.f76 (F76_a a0_0 a0_1 a0_2 a0_3) K = (F76 k a0_0 a0_1 a0_2 a0_3).bind fun r => K (F76_r r) := by
  rw [F76_st, F76]
  simp only [F76_T, bind_cond, Option.bind_assoc, Option.bind_some, Option.bind_none, Option.bind_fun_some]
theorem F76_tOk (k : Nat) : TabFn Try.prog (F76_t k) := .ent (F107_q k) F107_f (.ent (F103_q k) F103_f (.ent (F91_q k) F91_f (.ent (F62_q k) F62_f (.none))))
theorem F76_con (k : Nat) (a0_0 a0_1 a0_2 : Int) (a0_3 : List (den (.int .u8))) : Contract Try.prog 76 (F76_a a0_0 a0_1 a0_2 a0_3) ⟨F76 k a0_0 a0_1 a0_2 a0_3, F76_r⟩ := con_of (envOk (F76_tOk k) _ _ _ _) mixed Try.func76 rfl rfl (F76_ev k a0_0 a0_1 a0_2 a0_3 some)
def F76_sh : List AK := [.agg [.l (.int .i64), .l (.int .i64), .l (.int .i64), .l (.sl .ro (.int .u8))]]
def F76_p (k : Nat) : List Arg → Option CR := cle F76_sh fun x => ⟨F76 k x.1.1 x.1.2.1 x.1.2.2.1 x.1.2.2.2.1, F76_r⟩
theorem F76_q (k : Nat) : ∀ xs cr, F76_p k xs = some cr → Contract Try.prog 76 xs cr := cle_ok fun x => F76_con k _ _ _ _
theorem F76_f : FnOk Try.prog 76 := .of (by kernel_rfl)
def F111_h : Nat → Hint
  | 0 => ⟨[(0, .plain), (1, .plain), (2, .plain), (7, .plain), (8, .plain)], []⟩
  | _ => ⟨[], []⟩
def F111_t (k : Nat) : Tab := entT 51 (F51_p k) <| noTab
abbrev F111_E (k : Nat) : Env := env (F111_t k) F111_h .own [] k
abbrev F111_a (a0 : List (den (.int .u8))) (a1 a2 : Int) : List Arg := [.one (.l (.s .ro (.int .u8) a0)), .one (.l (.v (.int .i64 a1))), .one (.l (.v (.int .i64 a2)))]
def F111_r (r : Int) : A × List (List Leaf) := (.one (.v (.int .i64 r)), [])
def F111_s0 (a0 : List (den (.int .u8))) (a1 a2 : Int) (x7_0 x8_0 : Int) : St := ⟨(.one (.s .ro (.int .u8) a0)) :: (.one (.v (.int .i64 a1))) :: (.one (.v (.int .i64 a2))) :: dz 4 ((.one (.v (.int .i64 x7_0))) :: (.one (.v (.int .i64 x8_0))) :: dz 28 []), []⟩
def F111_l0_T {β : Type} (k : Nat) (a0 : List (den (.int .u8))) (a1 a2 : Int) (NX : Int → Int → Option β) (RET : Int → Option β) (x7_0 x8_0 : Int) : Option β := cond (decide (x8_0 < a2)) (cond (decide (0 ≤ (IntKind.i64.wrap (a1 + x8_0)))) (cond (decide ((IntKind.i64.wrap (a1 + x8_0)) < ((a0.length : Nat) : Int))) (NX (IntKind.i64.wrap ((IntKind.i64.wrap (x7_0 * 256)) + (IntKind.i64.wrap (atI a0 (IntKind.i64.wrap (a1 + x8_0)))))) (IntKind.i64.wrap (x8_0 + 1))) none) none) (RET x7_0)
def F111_l0 (k : Nat) (a0 : List (den (.int .u8))) (a1 a2 : Int) : Nat → Int → Int → Option (Int)
  | 0, _, _ => none
  | n + 1, x7_0, x8_0 => F111_l0_T k a0 a1 a2 (fun x7_0 x8_0 => F111_l0 k a0 a1 a2 n x7_0 x8_0) some x7_0 x8_0
theorem F111_l0_rd {β : Type} (k n : Nat) (a0 : List (den (.int .u8))) (a1 a2 : Int) (x7_0 x8_0 : Int) (K : A × List (List Leaf) → Option β) :
    loopG (F111_E k) Try.f111 [1, 1, 1, 0, 1, 0] 0 (kontAt (F111_E k) [1, 1, 1, 0, 1, 0] (bodyOf Try.f111) 0 (endC (F111_E k) Try.f111 (F111_a a0 a1 a2) K)) (n + 1) (F111_s0 a0 a1 a2 x7_0 x8_0) =
    F111_l0_T k a0 a1 a2 (fun x7_0 x8_0 => loopG (F111_E k) Try.f111 [1, 1, 1, 0, 1, 0] 0 (kontAt (F111_E k) [1, 1, 1, 0, 1, 0] (bodyOf Try.f111) 0 (endC (F111_E k) Try.f111 (F111_a a0 a1 a2) K)) n (F111_s0 a0 a1 a2 x7_0 x8_0)) (fun r => K (F111_r r)) x7_0 x8_0 := by kernel_rfl
theorem F111_l0_lp {β : Type} (k : Nat) (a0 : List (den (.int .u8))) (a1 a2 : Int) (K : A × List (List Leaf) → Option β) (n : Nat) : ∀ (x7_0 x8_0 : Int), loopG (F111_E k) Try.f111 [1, 1, 1, 0, 1, 0] 0 (kontAt (F111_E k) [1, 1, 1, 0, 1, 0] (bodyOf Try.f111) 0 (endC (F111_E k) Try.f111 (F111_a a0 a1 a2) K)) n (F111_s0 a0 a1 a2 x7_0 x8_0) =
    (F111_l0 k a0 a1 a2 n x7_0 x8_0).bind fun r => K (F111_r r) := by
  induction n with
  | zero => intros; rfl
  | succ n ih =>
    intros
    rw [F111_l0_rd, F111_l0]
    simp only [F111_l0_T, bind_cond, Option.bind_assoc, Option.bind_some, Option.bind_none, Option.bind_fun_some, ih]
def F111_T {β : Type} (k : Nat) (a0 : List (den (.int .u8))) (a1 a2 : Int) (LP0 : Int → Int → Option β) (RET : Int → Option β) : Option β := (F51 k a2 1 4).bind fun b1 => cond (!b1) (RET (-1)) ((F51 k a1 0 (IntKind.i64.wrap (((a0.length : Nat) : Int) - a2))).bind fun b2 => cond (!b2) (RET (-1)) (LP0 0 0))
def F111 (k : Nat) (a0 : List (den (.int .u8))) (a1 a2 : Int) : Option (Int) := F111_T k a0 a1 a2 (fun x7_0 x8_0 => F111_l0 k a0 a1 a2 k x7_0 x8_0) some
theorem F111_st {β : Type} (k : Nat) (a0 : List (den (.int .u8))) (a1 a2 : Int) (K : A × List (List Leaf) → Option β) : evalF (F111_E k) Try.f111 (F111_a a0 a1 a2) K =
    F111_T k a0 a1 a2 (fun x7_0 x8_0 => loopG (F111_E k) Try.f111 [1, 1, 1, 0, 1, 0] 0 (kontAt (F111_E k) [1, 1, 1, 0, 1, 0] (bodyOf Try.f111) 0 (endC (F111_E k) Try.f111 (F111_a a0 a1 a2) K)) k (F111_s0 a0 a1 a2 x7_0 x8_0)) (fun r => K (F111_r r)) := by kernel_rfl
theorem F111_ev {β : Type} (k : Nat) (a0 : List (den (.int .u8))) (a1 a2 : Int) (K : A × List (List Leaf) → Option β) : evalF (F111_E k) Try.f111 (F111_a a0 a1 a2) K = (F111 k a0 a1 a2).bind fun r => K (F111_r r) := by
  rw [F111_st, F111]
  simp only [F111_T, bind_cond, Option.bind_assoc, Option.bind_some, Option.bind_none, Option.bind_fun_some, F111_l0_lp]
theorem F111_tOk (k : Nat) : TabFn Try.prog (F111_t k) := .ent (F51_q k) F51_f (.none)
theorem F111_con (k : Nat) (a0 : List (den (.int .u8))) (a1 a2 : Int) : Contract Try.prog 111 (F111_a a0 a1 a2) ⟨F111 k a0 a1 a2, F111_r⟩ := con_of (envOk (F111_tOk k) _ _ _ _) mixed Try.func111 rfl rfl (F111_ev k a0 a1 a2 some)
def F111_sh : List AK := [.one (.l (.sl .ro (.int .u8))), .one (.l (.int .i64)), .one (.l (.int .i64))]
def F111_p (k : Nat) : List Arg → Option CR := cle F111_sh fun x => ⟨F111 k x.1 x.2.1 x.2.2.1, F111_r⟩
theorem F111_q (k : Nat) : ∀ xs cr, F111_p k xs = some cr → Contract Try.prog 111 xs cr := cle_ok fun x => F111_con k _ _ _
theorem F111_f : FnOk Try.prog 111 := .of (by kernel_rfl)
def F81_t (k : Nat) : Tab := entT 101 (F101_p k) <| entT 111 (F111_p k) <| entT 100 (F100_p k) <| noTab
abbrev F81_E (k : Nat) : Env := env (F81_t k) noHint .own [] k
abbrev F81_a (a0 : List (den (.int .u8))) : List Arg := [.one (.l (.s .ro (.int .u8) a0))]
def F81_r (r : Int × Int × Int × List (den (.int .u8)) × Bool) : A × List (List Leaf) := (.tup [(true, [.v (.int .i64 r.1), .v (.int .i64 r.2.1), .v (.int .i64 r.2.2.1), .s .own (.int .u8) r.2.2.2.1]), (false, [.v (.bool r.2.2.2.2)])], [])
def F81_T {β : Type} (k : Nat) (a0 : List (den (.int .u8))) (RET : (Int × Int × Int × List (den (.int .u8)) × Bool) → Option β) : Option β := cond (decide (((a0.length : Nat) : Int) < 6)) (RET (0, 0, 0, [], false)) (cond (decide (0 < ((a0.length : Nat) : Int))) (cond (decide (1 < ((a0.length : Nat) : Int))) (cond (decide (2 < ((a0.length : Nat) : Int))) (cond (decide (0 ≤ (IntKind.i64.wrap (((a0.length : Nat) : Int) - 2))) && decide ((IntKind.i64.wrap (((a0.length : Nat) : Int) - 2)) ≤ ((a0.length : Nat) : Int))) (cond (decide (0 ≤ 4) && decide (4 ≤ (IntKind.i64.wrap (((a0.length : Nat) : Int) - 2)))) (cond (decide ((([] : List (den (.int .u8))).length + ((a0.take ((IntKind.i64.wrap (((a0.length : Nat) : Int) - 2)).toNat)).drop 4).length) * 1 ≤ 140737488355328)) ((F101 k (IntKind.i64.wrap (atI a0 0)) (IntKind.i64.wrap (atI a0 1)) (IntKind.i64.wrap (atI a0 2)) ([] ++ ((a0.take ((IntKind.i64.wrap (((a0.length : Nat) : Int) - 2)).toNat)).drop 4))).bind fun b1 => cond (!b1) (RET (0, 0, 0, [], false)) (cond (decide (3 < ((a0.length : Nat) : Int))) (cond ((IntKind.i64.wrap (atI a0 3)) != ((([] ++ ((a0.take ((IntKind.i64.wrap (((a0.length : Nat) : Int) - 2)).toNat)).drop 4)).length : Nat) : Int)) (RET (0, 0, 0, [], false)) ((F111 k a0 (IntKind.i64.wrap (((a0.length : Nat) : Int) - 2)) 2).bind fun b2 => cond (decide (0 ≤ (IntKind.i64.wrap (((a0.length : Nat) : Int) - 2))) && decide ((IntKind.i64.wrap (((a0.length : Nat) : Int) - 2)) ≤ ((a0.length : Nat) : Int))) ((F100 k (a0.take ((IntKind.i64.wrap (((a0.length : Nat) : Int) - 2)).toNat))).bind fun b3 => cond (b2 != b3) (RET (0, 0, 0, [], false)) (RET (IntKind.i64.wrap (atI a0 0), IntKind.i64.wrap (atI a0 1), IntKind.i64.wrap (atI a0 2), [] ++ ((a0.take ((IntKind.i64.wrap (((a0.length : Nat) : Int) - 2)).toNat)).drop 4), true))) none)) none)) none) none) none) none) none) none)
def F81 (k : Nat) (a0 : List (den (.int .u8))) : Option (Int × Int × Int × List (den (.int .u8)) × Bool) := F81_T k a0 some
theorem F81_st {β : Type} (k : Nat) (a0 : List (den (.int .u8))) (K : A × List (List Leaf) → Option β) : evalF (F81_E k) Try.f81 (F81_a a0) K =
    F81_T k a0 (fun r => K (F81_r r)) := by kernel_rfl
theorem F81_ev {β : Type} (k : Nat) (a0 : List (den (.int .u8))) (K : A × List (List Leaf) → Option β) : evalF (F81_E k) Try.f81 (F81_a a0) K = (F81 k a0).bind fun r => K (F81_r r) := by
  rw [F81_st, F81]
  simp only [F81_T, bind_cond, Option.bind_assoc, Option.bind_some, Option.bind_none, Option.bind_fun_some]
theorem F81_tOk (k : Nat) : TabFn Try.prog (F81_t k) := .ent (F101_q k) F101_f (.ent (F111_q k) F111_f (.ent (F100_q k) F100_f (.none)))
theorem F81_con (k : Nat) (a0 : List (den (.int .u8))) : Contract Try.prog 81 (F81_a a0) ⟨F81 k a0, F81_r⟩ := con_of (envOk (F81_tOk k) _ _ _ _) mixed Try.func81 rfl rfl (F81_ev k a0 some)
def F81_sh : List AK := [.one (.l (.sl .ro (.int .u8)))]
def F81_p (k : Nat) : List Arg → Option CR := cle F81_sh fun x => ⟨F81 k x.1, F81_r⟩
theorem F81_q (k : Nat) : ∀ xs cr, F81_p k xs = some cr → Contract Try.prog 81 xs cr := cle_ok fun x => F81_con k _
theorem F81_f : FnOk Try.prog 81 := .of (by kernel_rfl)
def F82_t (k : Nat) : Tab := entT 101 (F101_p k) <| entT 51 (F51_p k) <| noTab
abbrev F82_E (k : Nat) : Env := env (F82_t k) noHint .own [] k
abbrev F82_a (a0_0 a0_1 a0_2 : Int) (a0_3 : List (den (.int .u8))) (a1 : Int) : List Arg := [.agg [.l (.v (.int .i64 a0_0)), .l (.v (.int .i64 a0_1)), .l (.v (.int .i64 a0_2)), .l (.s .ro (.int .u8) a0_3)], .one (.l (.v (.int .i64 a1)))]
def F82_r (r : Bool) : A × List (List Leaf) := (.one (.v (.bool r)), [])
def F82_T {β : Type} (k : Nat) (a0_0 a0_1 a0_2 : Int) (a0_3 : List (den (.int .u8))) (a1 : Int) (RET : Bool → Option β) : Option β := (F101 k a0_0 a0_1 a0_2 a0_3).bind fun b1 => cond b1 ((F51 k a1 0 254).bind fun b2 => cond b2 (cond (a0_0 == a1) (RET true) (cond (a0_0 == 255) (RET (a0_1 != a1)) (RET false))) (RET false)) (RET false)
def F82 (k : Nat) (a0_0 a0_1 a0_2 : Int) (a0_3 : List (den (.int .u8))) (a1 : Int) : Option (Bool) := F82_T k a0_0 a0_1 a0_2 a0_3 a1 some
theorem F82_st {β : Type} (k : Nat) (a0_0 a0_1 a0_2 : Int) (a0_3 : List (den (.int .u8))) (a1 : Int) (K : A × List (List Leaf) → Option β) : evalF (F82_E k) Try.f82 (F82_a a0_0 a0_1 a0_2 a0_3 a1) K =
    F82_T k a0_0 a0_1 a0_2 a0_3 a1 (fun r => K (F82_r r)) := by kernel_rfl
theorem F82_ev {β : Type} (k : Nat) (a0_0 a0_1 a0_2 : Int) (a0_3 : List (den (.int .u8))) (a1 : Int) (K : A × List (List Leaf) → Option β) : evalF (F82_E k) Try.f82 (F82_a a0_0 a0_1 a0_2 a0_3 a1) K = (F82 k a0_0 a0_1 a0_2 a0_3 a1).bind fun r => K (F82_r r) := by
  rw [F82_st, F82]
  simp only [F82_T, bind_cond, Option.bind_assoc, Option.bind_some, Option.bind_none, Option.bind_fun_some]
theorem F82_tOk (k : Nat) : TabFn Try.prog (F82_t k) := .ent (F101_q k) F101_f (.ent (F51_q k) F51_f (.none))
theorem F82_con (k : Nat) (a0_0 a0_1 a0_2 : Int) (a0_3 : List (den (.int .u8))) (a1 : Int) : Contract Try.prog 82 (F82_a a0_0 a0_1 a0_2 a0_3 a1) ⟨F82 k a0_0 a0_1 a0_2 a0_3 a1, F82_r⟩ := con_of (envOk (F82_tOk k) _ _ _ _) mixed Try.func82 rfl rfl (F82_ev k a0_0 a0_1 a0_2 a0_3 a1 some)
def F82_sh : List AK := [.agg [.l (.int .i64), .l (.int .i64), .l (.int .i64), .l (.sl .ro (.int .u8))], .one (.l (.int .i64))]
def F82_p (k : Nat) : List Arg → Option CR := cle F82_sh fun x => ⟨F82 k x.1.1 x.1.2.1 x.1.2.2.1 x.1.2.2.2.1 x.2.1, F82_r⟩
theorem F82_q (k : Nat) : ∀ xs cr, F82_p k xs = some cr → Contract Try.prog 82 xs cr := cle_ok fun x => F82_con k _ _ _ _ _
theorem F82_f : FnOk Try.prog 82 := .of (by kernel_rfl)
def F112_t (k : Nat) : Tab := entT 51 (F51_p k) <| entT 100 (F100_p k) <| noTab
abbrev F112_E (k : Nat) : Env := env (F112_t k) noHint .own [] k
abbrev F112_a (a0 : List (den (.int .u8))) (a1 : Int) : List Arg := [.one (.l (.s .ro (.int .u8) a0)), .one (.l (.v (.int .i64 a1)))]
def F112_r (r : Bool) : A × List (List Leaf) := (.one (.v (.bool r)), [])
def F112_T {β : Type} (k : Nat) (a0 : List (den (.int .u8))) (a1 : Int) (RET : Bool → Option β) : Option β := (F51 k a1 0 65535).bind fun b1 => cond b1 ((F100 k a0).bind fun b2 => RET ((a1.tmod 65535) == (b2.tmod 65535))) (RET false)
def F112 (k : Nat) (a0 : List (den (.int .u8))) (a1 : Int) : Option (Bool) := F112_T k a0 a1 some
theorem F112_st {β : Type} (k : Nat) (a0 : List (den (.int .u8))) (a1 : Int) (K : A × List (List Leaf) → Option β) : evalF (F112_E k) Try.f112 (F112_a a0 a1) K =
    F112_T k a0 a1 (fun r => K (F112_r r)) := by kernel_rfl
theorem F112_ev {β : Type} (k : Nat) (a0 : List (den (.int .u8))) (a1 : Int) (K : A × List (List Leaf) → Option β) : evalF (F112_E k) Try.f112 (F112_a a0 a1) K = (F112 k a0 a1).bind fun r => K (F112_r r) := by
  rw [F112_st, F112]
  simp only [F112_T, bind_cond, Option.bind_assoc, Option.bind_some, Option.bind_none, Option.bind_fun_some]
theorem F112_tOk (k : Nat) : TabFn Try.prog (F112_t k) := .ent (F51_q k) F51_f (.ent (F100_q k) F100_f (.none))
theorem F112_con (k : Nat) (a0 : List (den (.int .u8))) (a1 : Int) : Contract Try.prog 112 (F112_a a0 a1) ⟨F112 k a0 a1, F112_r⟩ := con_of (envOk (F112_tOk k) _ _ _ _) mixed Try.func112 rfl rfl (F112_ev k a0 a1 some)
def F112_sh : List AK := [.one (.l (.sl .ro (.int .u8))), .one (.l (.int .i64))]
def F112_p (k : Nat) : List Arg → Option CR := cle F112_sh fun x => ⟨F112 k x.1 x.2.1, F112_r⟩
theorem F112_q (k : Nat) : ∀ xs cr, F112_p k xs = some cr → Contract Try.prog 112 xs cr := cle_ok fun x => F112_con k _ _
theorem F112_f : FnOk Try.prog 112 := .of (by kernel_rfl)
def F83_t (k : Nat) : Tab := entT 111 (F111_p k) <| entT 98 (F98_p k) <| entT 112 (F112_p k) <| noTab
abbrev F83_E (k : Nat) : Env := env (F83_t k) noHint .own [] k
abbrev F83_a (a0 : List (den (.int .u8))) : List Arg := [.one (.l (.s .ro (.int .u8) a0))]
def F83_r (r : Int × Int × Int × Int × Int × Int × Bool × Bool × List (den (.int .u8)) × Bool) : A × List (List Leaf) := (.tup [(true, [.v (.int .i64 r.1), .v (.int .i64 r.2.1), .v (.int .i64 r.2.2.1), .v (.int .i64 r.2.2.2.1), .v (.int .i64 r.2.2.2.2.1), .v (.int .i64 r.2.2.2.2.2.1), .v (.bool r.2.2.2.2.2.2.1), .v (.bool r.2.2.2.2.2.2.2.1), .s .own (.int .u8) r.2.2.2.2.2.2.2.2.1]), (false, [.v (.bool r.2.2.2.2.2.2.2.2.2)])], [])
def F83_T {β : Type} (k : Nat) (a0 : List (den (.int .u8))) (RET : (Int × Int × Int × Int × Int × Int × Bool × Bool × List (den (.int .u8)) × Bool) → Option β) : Option β := cond (decide (((a0.length : Nat) : Int) < 12)) (RET (0, 0, 0, 0, 0, 0, false, false, [], false)) ((F111 k a0 0 2).bind fun b1 => (F111 k a0 2 2).bind fun b2 => cond (decide (4 < ((a0.length : Nat) : Int))) (cond (decide (5 < ((a0.length : Nat) : Int))) (cond (decide (6 < ((a0.length : Nat) : Int))) (cond (decide (7 < ((a0.length : Nat) : Int))) (cond (decide (8 < ((a0.length : Nat) : Int))) (cond (decide (8 < ((a0.length : Nat) : Int))) (cond (decide (0 ≤ 12) && decide (12 ≤ ((a0.length : Nat) : Int))) (cond (decide ((([] : List (den (.int .u8))).length + (a0.drop 12).length) * 1 ≤ 140737488355328)) (cond (decide (8 < ((a0.length : Nat) : Int))) (cond (decide ((atI a0 8) > 3)) (RET (0, 0, 0, 0, 0, 0, false, false, [], false)) (cond (decide (9 < ((a0.length : Nat) : Int))) (cond ((IntKind.i64.wrap (atI a0 9)) != ((([] ++ (a0.drop 12)).length : Nat) : Int)) (RET (0, 0, 0, 0, 0, 0, false, false, [], false)) ((F98 k b1 b2 (IntKind.i64.wrap (atI a0 4)) (IntKind.i64.wrap (atI a0 5)) (IntKind.i64.wrap (atI a0 6)) (IntKind.i64.wrap (atI a0 7)) (((atI a0 8).tmod 2) == 1) ((IntKind.u8.wrap ((atI a0 8).tdiv 2)) == 1) ([] ++ (a0.drop 12))).bind fun b3 => cond (!b3) (RET (0, 0, 0, 0, 0, 0, false, false, [], false)) (cond (decide (0 ≤ 10) && decide (10 ≤ ((a0.length : Nat) : Int))) ((F111 k a0 10 2).bind fun b4 => (F112 k (a0.take 10) b4).bind fun b5 => cond (!b5) (RET (0, 0, 0, 0, 0, 0, false, false, [], false)) (RET (b1, b2, IntKind.i64.wrap (atI a0 4), IntKind.i64.wrap (atI a0 5), IntKind.i64.wrap (atI a0 6), IntKind.i64.wrap (atI a0 7), (((atI a0 8).tmod 2) == 1), ((IntKind.u8.wrap ((atI a0 8).tdiv 2)) == 1), [] ++ (a0.drop 12), true))) none))) none)) none) none) none) none) none) none) none) none) none)
def F83 (k : Nat) (a0 : List (den (.int .u8))) : Option (Int × Int × Int × Int × Int × Int × Bool × Bool × List (den (.int .u8)) × Bool) := F83_T k a0 some
theorem F83_st {β : Type} (k : Nat) (a0 : List (den (.int .u8))) (K : A × List (List Leaf) → Option β) : evalF (F83_E k) Try.f83 (F83_a a0) K =
    F83_T k a0 (fun r => K (F83_r r)) := by kernel_rfl
theorem F83_ev {β : Type} (k : Nat) (a0 : List (den (.int .u8))) (K : A × List (List Leaf) → Option β) : evalF (F83_E k) Try.f83 (F83_a a0) K = (F83 k a0).bind fun r => K (F83_r r) := by
  rw [F83_st, F83]
  simp only [F83_T, bind_cond, Option.bind_assoc, Option.bind_some, Option.bind_none, Option.bind_fun_some]
theorem F83_tOk (k : Nat) : TabFn Try.prog (F83_t k) := .ent (F111_q k) F111_f (.ent (F98_q k) F98_f (.ent (F112_q k) F112_f (.none)))
theorem F83_con (k : Nat) (a0 : List (den (.int .u8))) : Contract Try.prog 83 (F83_a a0) ⟨F83 k a0, F83_r⟩ := con_of (envOk (F83_tOk k) _ _ _ _) mixed Try.func83 rfl rfl (F83_ev k a0 some)
def F83_sh : List AK := [.one (.l (.sl .ro (.int .u8)))]
def F83_p (k : Nat) : List Arg → Option CR := cle F83_sh fun x => ⟨F83 k x.1, F83_r⟩
theorem F83_q (k : Nat) : ∀ xs cr, F83_p k xs = some cr → Contract Try.prog 83 xs cr := cle_ok fun x => F83_con k _
theorem F83_f : FnOk Try.prog 83 := .of (by kernel_rfl)
def F84_h : Nat → Hint
  | 0 => ⟨[(0, .plain), (1, .plain), (2, .plain), (6, .plain), (8, .plain), (9, .plain), (10, .plain)], [(6000, .plain), (6001, .plain), (6002, .plain), (6003, .plain), (6004, .plain), (6005, .plain), (6006, .plain), (6007, .plain), (6008, .plain), (6009, .plain), (6010, .plain), (8000, .plain), (8001, .plain), (8002, .plain), (8003, .plain), (8004, .plain), (8005, .plain), (8006, .plain), (8007, .plain), (8008, .plain), (8009, .own .own rng []), (8010, .plain)]⟩
  | _ => ⟨[], []⟩
def F84_t (k : Nat) : Tab := entT 51 (F51_p k) <| entT 111 (F111_p k) <| entT 50 (F50_p k) <| entT 97 (F97_p k) <| noTab
abbrev F84_E (k : Nat) : Env := env (F84_t k) F84_h .own [] k
abbrev F84_a (a0 : List (den (.int .u8))) (a1 a2 : Int) : List Arg := [.one (.l (.s .ro (.int .u8) a0)), .one (.l (.v (.int .i64 a1))), .one (.l (.v (.int .i64 a2)))]
def F84_r (r : Int × Int × Int × Int × Int × Bool × Bool × Bool × Bool × List (den rng) × List (den (.int .u8)) × Bool) : A × List (List Leaf) := (.tup [(true, [.v (.int .i64 r.1), .v (.int .i64 r.2.1), .v (.int .i64 r.2.2.1), .v (.int .i64 r.2.2.2.1), .v (.int .i64 r.2.2.2.2.1), .v (.bool r.2.2.2.2.2.1), .v (.bool r.2.2.2.2.2.2.1), .v (.bool r.2.2.2.2.2.2.2.1), .v (.bool r.2.2.2.2.2.2.2.2.1), .s .own rng r.2.2.2.2.2.2.2.2.2.1, .s .own (.int .u8) r.2.2.2.2.2.2.2.2.2.2.1]), (false, [.v (.bool r.2.2.2.2.2.2.2.2.2.2.2)])], [])
def F84_s0 (a0 : List (den (.int .u8))) (a1 a2 : Int) (x9_0 x10_0 m8002_0 m8003_0 : Int) (m8009_0 : List (den rng)) : St := ⟨(.one (.s .ro (.int .u8) a0)) :: (.one (.v (.int .i64 a1))) :: (.one (.v (.int .i64 a2))) :: dz 3 ((.one (.ptr (.cell 6000) 11 0)) :: (.one .d) :: (.one (.ptr (.cell 8000) 11 0)) :: (.one (.v (.int .i64 x9_0))) :: (.one (.v (.int .i64 x10_0))) :: dz 143 []), [(6000, ⟨.v (.int .i64 0), 0, 0⟩), (6001, ⟨.v (.int .i64 0), 0, 0⟩), (6002, ⟨.v (.int .i64 0), 0, 0⟩), (6003, ⟨.v (.int .i64 0), 0, 0⟩), (6004, ⟨.v (.int .i64 0), 0, 0⟩), (6005, ⟨.v (.bool false), 0, 0⟩), (6006, ⟨.v (.bool false), 0, 0⟩), (6007, ⟨.v (.bool false), 0, 0⟩), (6008, ⟨.v (.bool false), 0, 0⟩), (6009, ⟨.s .own rng [], 0, 0⟩), (6010, ⟨.s .own (.int .u8) [], 0, 0⟩), (8000, ⟨.v (.int .i64 (IntKind.i64.wrap (atI a0 0))), 0, 0⟩), (8001, ⟨.v (.int .i64 (IntKind.i64.wrap (atI a0 1))), 0, 0⟩), (8002, ⟨.v (.int .i64 m8002_0), 0, 0⟩), (8003, ⟨.v (.int .i64 m8003_0), 0, 0⟩), (8004, ⟨.v (.int .i64 (IntKind.i64.wrap (atI a0 6))), 0, 0⟩), (8005, ⟨.v (.bool (((atI a0 7).tmod 2) == 1)), 0, 0⟩), (8006, ⟨.v (.bool (((IntKind.u8.wrap ((atI a0 7).tdiv 2)).tmod 2) == 1)), 0, 0⟩), (8007, ⟨.v (.bool (((IntKind.u8.wrap ((atI a0 7).tdiv 4)).tmod 2) == 1)), 0, 0⟩), (8008, ⟨.v (.bool ((IntKind.u8.wrap ((atI a0 7).tdiv 8)) == 1)), 0, 0⟩), (8009, ⟨.s .own rng m8009_0, 0, 0⟩), (8010, ⟨.s .own (.int .u8) [], 0, 0⟩)]⟩
def F84_l0_T {β : Type} (k : Nat) (a0 : List (den (.int .u8))) (a1 a2 : Int) (NX : Int → Int → Int → Int → List (den rng) → Option β) (RET : (Int × Int × Int × Int × Int × Bool × Bool × Bool × Bool × List (den rng) × List (den (.int .u8)) × Bool) → Option β) (x9_0 x10_0 m8002_0 m8003_0 : Int) (m8009_0 : List (den rng)) : Option β := cond (decide (8 < ((a0.length : Nat) : Int))) (cond (decide (x10_0 < (IntKind.i64.wrap (atI a0 8)))) ((F111 k a0 x9_0 2).bind fun b5 => (F111 k a0 (IntKind.i64.wrap (x9_0 + 2)) 2).bind fun b6 => cond (decide ((m8009_0.length + [(b5, b6)].length) * 16 ≤ 140737488355328)) (NX (IntKind.i64.wrap (x9_0 + 4)) (IntKind.i64.wrap (x10_0 + 1)) m8002_0 m8003_0 (m8009_0 ++ [(b5, b6)])) none) (cond (decide (0 ≤ (IntKind.i64.wrap (((a0.length : Nat) : Int) - 2))) && decide ((IntKind.i64.wrap (((a0.length : Nat) : Int) - 2)) ≤ ((a0.length : Nat) : Int))) (cond (decide (0 ≤ (IntKind.i64.wrap (x9_0 + 1))) && decide ((IntKind.i64.wrap (x9_0 + 1)) ≤ (IntKind.i64.wrap (((a0.length : Nat) : Int) - 2)))) (cond (decide ((([] : List (den (.int .u8))).length + ((a0.take ((IntKind.i64.wrap (((a0.length : Nat) : Int) - 2)).toNat)).drop ((IntKind.i64.wrap (x9_0 + 1)).toNat)).length) * 1 ≤ 140737488355328)) (cond (decide (0 ≤ x9_0)) (cond (decide (x9_0 < ((a0.length : Nat) : Int))) (cond ((IntKind.i64.wrap (atI a0 x9_0)) != ((([] ++ ((a0.take ((IntKind.i64.wrap (((a0.length : Nat) : Int) - 2)).toNat)).drop ((IntKind.i64.wrap (x9_0 + 1)).toNat))).length : Nat) : Int)) (RET (0, 0, 0, 0, 0, false, false, false, false, [], [], false)) ((F50 k (IntKind.i64.wrap (atI a0 0)) (IntKind.i64.wrap (atI a0 1)) m8002_0 m8003_0 (IntKind.i64.wrap (atI a0 6)) (((atI a0 7).tmod 2) == 1) (((IntKind.u8.wrap ((atI a0 7).tdiv 2)).tmod 2) == 1) (((IntKind.u8.wrap ((atI a0 7).tdiv 4)).tmod 2) == 1) ((IntKind.u8.wrap ((atI a0 7).tdiv 8)) == 1) m8009_0 ([] ++ ((a0.take ((IntKind.i64.wrap (((a0.length : Nat) : Int) - 2)).toNat)).drop ((IntKind.i64.wrap (x9_0 + 1)).toNat)))).bind fun b7 => cond (!b7) (RET (0, 0, 0, 0, 0, false, false, false, false, [], [], false)) ((F111 k a0 (IntKind.i64.wrap (((a0.length : Nat) : Int) - 2)) 2).bind fun b8 => cond (decide (0 ≤ (IntKind.i64.wrap (((a0.length : Nat) : Int) - 2))) && decide ((IntKind.i64.wrap (((a0.length : Nat) : Int) - 2)) ≤ ((a0.length : Nat) : Int))) ((F97 k a1 a2 (a0.take ((IntKind.i64.wrap (((a0.length : Nat) : Int) - 2)).toNat))).bind fun b9 => cond (b8 != b9) (RET (0, 0, 0, 0, 0, false, false, false, false, [], [], false)) (RET (IntKind.i64.wrap (atI a0 0), IntKind.i64.wrap (atI a0 1), m8002_0, m8003_0, IntKind.i64.wrap (atI a0 6), (((atI a0 7).tmod 2) == 1), (((IntKind.u8.wrap ((atI a0 7).tdiv 2)).tmod 2) == 1), (((IntKind.u8.wrap ((atI a0 7).tdiv 4)).tmod 2) == 1), ((IntKind.u8.wrap ((atI a0 7).tdiv 8)) == 1), m8009_0, [] ++ ((a0.take ((IntKind.i64.wrap (((a0.length : Nat) : Int) - 2)).toNat)).drop ((IntKind.i64.wrap (x9_0 + 1)).toNat)), true))) none))) none) none) none) none) none)) none
def F84_l0 (k : Nat) (a0 : List (den (.int .u8))) (a1 a2 : Int) : Nat → Int → Int → Int → Int → List (den rng) → Option (Int × Int × Int × Int × Int × Bool × Bool × Bool × Bool × List (den rng) × List (den (.int .u8)) × Bool)
  | 0, _, _, _, _, _ => none
  | n + 1, x9_0, x10_0, m8002_0, m8003_0, m8009_0 => F84_l0_T k a0 a1 a2 (fun x9_0 x10_0 m8002_0 m8003_0 m8009_0 => F84_l0 k a0 a1 a2 n x9_0 x10_0 m8002_0 m8003_0 m8009_0) some x9_0 x10_0 m8002_0 m8003_0 m8009_0
theorem F84_l0_rd {β : Type} (k n : Nat) (a0 : List (den (.int .u8))) (a1 a2 : Int) (x9_0 x10_0 m8002_0 m8003_0 : Int) (m8009_0 : List (den rng)) (K : A × List (List Leaf) → Option β) :
    loopG (F84_E k) Try.f84 [1, 1, 1, 1, 1, 1, 1, 1, 0, 1, 0] 0 (kontAt (F84_E k) [1, 1, 1, 1, 1, 1, 1, 1, 0, 1, 0] (bodyOf Try.f84) 0 (endC (F84_E k) Try.f84 (F84_a a0 a1 a2) K)) (n + 1) (F84_s0 a0 a1 a2 x9_0 x10_0 m8002_0 m8003_0 m8009_0) =
    F84_l0_T k a0 a1 a2 (fun x9_0 x10_0 m8002_0 m8003_0 m8009_0 => loopG (F84_E k) Try.f84 [1, 1, 1, 1, 1, 1, 1, 1, 0, 1, 0] 0 (kontAt (F84_E k) [1, 1, 1, 1, 1, 1, 1, 1, 0, 1, 0] (bodyOf Try.f84) 0 (endC (F84_E k) Try.f84 (F84_a a0 a1 a2) K)) n (F84_s0 a0 a1 a2 x9_0 x10_0 m8002_0 m8003_0 m8009_0)) (fun r => K (F84_r r)) x9_0 x10_0 m8002_0 m8003_0 m8009_0 := by kernel_rfl
theorem F84_l0_lp {β : Type} (k : Nat) (a0 : List (den (.int .u8))) (a1 a2 : Int) (K : A × List (List Leaf) → Option β) (n : Nat) : ∀ (x9_0 x10_0 m8002_0 m8003_0 : Int) (m8009_0 : List (den rng)), loopG (F84_E k) Try.f84 [1, 1, 1, 1, 1, 1, 1, 1, 0, 1, 0] 0 (kontAt (F84_E k) [1, 1, 1, 1, 1, 1, 1, 1, 0, 1, 0] (bodyOf Try.f84) 0 (endC (F84_E k) Try.f84 (F84_a a0 a1 a2) K)) n (F84_s0 a0 a1 a2 x9_0 x10_0 m8002_0 m8003_0 m8009_0) =
    (F84_l0 k a0 a1 a2 n x9_0 x10_0 m8002_0 m8003_0 m8009_0).bind fun r => K (F84_r r) := by
  induction n with
  | zero => intros; rfl
  | succ n ih =>
    intros
    rw [F84_l0_rd, F84_l0]
    simp only [F84_l0_T, bind_cond, Option.bind_assoc, Option.bind_some, Option.bind_none, Option.bind_fun_some, ih]
def F84_T {β : Type} (k : Nat) (a0 : List (den (.int .u8))) (a1 a2 : Int) (LP0 : Int → Int → Int → Int → List (den rng) → Option β) (RET : (Int × Int × Int × Int × Int × Bool × Bool × Bool × Bool × List (den rng) × List (den (.int .u8)) × Bool) → Option β) : Option β := cond (decide (((a0.length : Nat) : Int) < 12)) (RET (0, 0, 0, 0, 0, false, false, false, false, [], [], false)) ((F51 k a1 0 65535).bind fun b1 => cond (!b1) (RET (0, 0, 0, 0, 0, false, false, false, false, [], [], false)) ((F51 k a2 0 65535).bind fun b2 => cond (!b2) (RET (0, 0, 0, 0, 0, false, false, false, false, [], [], false)) (cond (decide (7 < ((a0.length : Nat) : Int))) (cond (decide ((atI a0 7) > 15)) (RET (0, 0, 0, 0, 0, false, false, false, false, [], [], false)) (cond (decide (8 < ((a0.length : Nat) : Int))) (cond (decide ((atI a0 8) > 2)) (RET (0, 0, 0, 0, 0, false, false, false, false, [], [], false)) (cond (decide (8 < ((a0.length : Nat) : Int))) (cond (decide (((a0.length : Nat) : Int) < (IntKind.i64.wrap (12 + (IntKind.i64.wrap (4 * (IntKind.i64.wrap (atI a0 8)))))))) (RET (0, 0, 0, 0, 0, false, false, false, false, [], [], false)) (cond (decide (0 < ((a0.length : Nat) : Int))) (cond (decide (1 < ((a0.length : Nat) : Int))) ((F111 k a0 2 2).bind fun b3 => (F111 k a0 4 2).bind fun b4 => cond (decide (6 < ((a0.length : Nat) : Int))) (cond (decide (7 < ((a0.length : Nat) : Int))) (cond (decide (7 < ((a0.length : Nat) : Int))) (cond (decide (7 < ((a0.length : Nat) : Int))) (cond (decide (7 < ((a0.length : Nat) : Int))) (LP0 9 0 b3 b4 []) none) none) none) none) none) none) none)) none)) none)) none)))
def F84 (k : Nat) (a0 : List (den (.int .u8))) (a1 a2 : Int) : Option (Int × Int × Int × Int × Int × Bool × Bool × Bool × Bool × List (den rng) × List (den (.int .u8)) × Bool) := F84_T k a0 a1 a2 (fun x9_0 x10_0 m8002_0 m8003_0 m8009_0 => F84_l0 k a0 a1 a2 k x9_0 x10_0 m8002_0 m8003_0 m8009_0) some
theorem F84_st {β : Type} (k : Nat) (a0 : List (den (.int .u8))) (a1 a2 : Int) (K : A × List (List Leaf) → Option β) : evalF (F84_E k) Try.f84 (F84_a a0 a1 a2) K =
    F84_T k a0 a1 a2 (fun x9_0 x10_0 m8002_0 m8003_0 m8009_0 => loopG (F84_E k) Try.f84 [1, 1, 1, 1, 1, 1, 1, 1, 0, 1, 0] 0 (kontAt (F84_E k) [1, 1, 1, 1, 1, 1, 1, 1, 0, 1, 0] (bodyOf Try.f84) 0 (endC (F84_E k) Try.f84 (F84_a a0 a1 a2) K)) k (F84_s0 a0 a1 a2 x9_0 x10_0 m8002_0 m8003_0 m8009_0)) (fun r => K (F84_r r)) := by kernel_rfl
theorem F84_ev {β : Type} (k : Nat) (a0 : List (den (.int .u8))) (a1 a2 : Int) (K : A × List (List Leaf) → Option β) : evalF (F84_E k) Try.f84 (F84_a a0 a1 a2) K = (F84 k a0 a1 a2).bind fun r => K (F84_r r) := by
  rw [F84_st, F84]
  simp only [F84_T, bind_cond, Option.bind_assoc, Option.bind_some, Option.bind_none, Option.bind_fun_some, F84_l0_lp]
theorem F84_tOk (k : Nat) : TabFn Try.prog (F84_t k) := .ent (F51_q k) F51_f (.ent (F111_q k) F111_f (.ent (F50_q k) F50_f (.ent (F97_q k) F97_f (.none))))
theorem F84_con (k : Nat) (a0 : List (den (.int .u8))) (a1 a2 : Int) : Contract Try.prog 84 (F84_a a0 a1 a2) ⟨F84 k a0 a1 a2, F84_r⟩ := con_of (envOk (F84_tOk k) _ _ _ _) mixed Try.func84 rfl rfl (F84_ev k a0 a1 a2 some)
def F84_sh : List AK := [.one (.l (.sl .ro (.int .u8))), .one (.l (.int .i64)), .one (.l (.int .i64))]
def F84_p (k : Nat) : List Arg → Option CR := cle F84_sh fun x => ⟨F84 k x.1 x.2.1 x.2.2.1, F84_r⟩
theorem F84_q (k : Nat) : ∀ xs cr, F84_p k xs = some cr → Contract Try.prog 84 xs cr := cle_ok fun x => F84_con k _ _ _
theorem F84_f : FnOk Try.prog 84 := .of (by kernel_rfl)
def F37_t (k : Nat) : Tab := entT 81 (F81_p k) <| entT 82 (F82_p k) <| entT 83 (F83_p k) <| entT 84 (F84_p k) <| noTab
abbrev F37_E (k : Nat) : Env := env (F37_t k) noHint .own [] k
abbrev F37_a (a0 : List (den (.int .u8))) (a1 a2 : Int) : List Arg := [.one (.l (.s .ro (.int .u8) a0)), .one (.l (.v (.int .i64 a1))), .one (.l (.v (.int .i64 a2)))]
def F37_r (r : Int × Int × Int × Int × Int × Bool × Bool × Bool × Bool × List (den rng) × List (den (.int .u8)) × Int × Bool) : A × List (List Leaf) := (.tup [(true, [.v (.int .i64 r.1), .v (.int .i64 r.2.1), .v (.int .i64 r.2.2.1), .v (.int .i64 r.2.2.2.1), .v (.int .i64 r.2.2.2.2.1), .v (.bool r.2.2.2.2.2.1), .v (.bool r.2.2.2.2.2.2.1), .v (.bool r.2.2.2.2.2.2.2.1), .v (.bool r.2.2.2.2.2.2.2.2.1), .s .own rng r.2.2.2.2.2.2.2.2.2.1, .s .own (.int .u8) r.2.2.2.2.2.2.2.2.2.2.1]), (false, [.v (.int .i64 r.2.2.2.2.2.2.2.2.2.2.2.1)]), (false, [.v (.bool r.2.2.2.2.2.2.2.2.2.2.2.2)])], [])
def F37_T {β : Type} (k : Nat) (a0 : List (den (.int .u8))) (a1 a2 : Int) (RET : (Int × Int × Int × Int × Int × Bool × Bool × Bool × Bool × List (den rng) × List (den (.int .u8)) × Int × Bool) → Option β) : Option β := (F81 k a0).bind fun b1 => cond (!b1.2.2.2.2) (RET (0, 0, 0, 0, 0, false, false, false, false, [], [], 0, false)) ((F82 k b1.1 b1.2.1 b1.2.2.1 b1.2.2.2.1 a2).bind fun b2 => cond (!b2) (RET (0, 0, 0, 0, 0, false, false, false, false, [], [], 0, false)) (cond (b1.2.2.1 != 8) (RET (0, 0, 0, 0, 0, false, false, false, false, [], [], 0, false)) ((F83 k b1.2.2.2.1).bind fun b3 => cond (!b3.2.2.2.2.2.2.2.2.2) (RET (0, 0, 0, 0, 0, false, false, false, false, [], [], 0, false)) (cond (b3.2.1 != a1) (RET (0, 0, 0, 0, 0, false, false, false, false, [], [], 0, false)) (cond (b3.2.2.1 != 6) (RET (0, 0, 0, 0, 0, false, false, false, false, [], [], 0, false)) (cond (decide (b3.2.2.2.2.2.1 > 0)) (RET (0, 0, 0, 0, 0, false, false, false, false, [], [], 0, false)) (cond b3.2.2.2.2.2.2.1 (RET (0, 0, 0, 0, 0, false, false, false, false, [], [], 0, false)) ((F84 k b3.2.2.2.2.2.2.2.2.1 b3.1 b3.2.1).bind fun b4 => cond (!b4.2.2.2.2.2.2.2.2.2.2.2) (RET (0, 0, 0, 0, 0, false, false, false, false, [], [], 0, false)) (RET (b4.1, b4.2.1, b4.2.2.1, b4.2.2.2.1, b4.2.2.2.2.1, b4.2.2.2.2.2.1, b4.2.2.2.2.2.2.1, b4.2.2.2.2.2.2.2.1, b4.2.2.2.2.2.2.2.2.1, b4.2.2.2.2.2.2.2.2.2.1, b4.2.2.2.2.2.2.2.2.2.2.1, b3.1, true))))))))))
def F37 (k : Nat) (a0 : List (den (.int .u8))) (a1 a2 : Int) : Option (Int × Int × Int × Int × Int × Bool × Bool × Bool × Bool × List (den rng) × List (den (.int .u8)) × Int × Bool) := F37_T k a0 a1 a2 some
theorem F37_st {β : Type} (k : Nat) (a0 : List (den (.int .u8))) (a1 a2 : Int) (K : A × List (List Leaf) → Option β) : evalF (F37_E k) Try.f37 (F37_a a0 a1 a2) K =
    F37_T k a0 a1 a2 (fun r => K (F37_r r)) := by kernel_rfl
theorem F37_ev {β : Type} (k : Nat) (a0 : List (den (.int .u8))) (a1 a2 : Int) (K : A × List (List Leaf) → Option β) : evalF (F37_E k) Try.f37 (F37_a a0 a1 a2) K = (F37 k a0 a1 a2).bind fun r => K (F37_r r) := by
  rw [F37_st, F37]
  simp only [F37_T, bind_cond, Option.bind_assoc, Option.bind_some, Option.bind_none, Option.bind_fun_some]
theorem F37_tOk (k : Nat) : TabFn Try.prog (F37_t k) := .ent (F81_q k) F81_f (.ent (F82_q k) F82_f (.ent (F83_q k) F83_f (.ent (F84_q k) F84_f (.none))))
theorem F37_con (k : Nat) (a0 : List (den (.int .u8))) (a1 a2 : Int) : Contract Try.prog 37 (F37_a a0 a1 a2) ⟨F37 k a0 a1 a2, F37_r⟩ := con_of (envOk (F37_tOk k) _ _ _ _) mixed Try.func37 rfl rfl (F37_ev k a0 a1 a2 some)
def F37_sh : List AK := [.one (.l (.sl .ro (.int .u8))), .one (.l (.int .i64)), .one (.l (.int .i64))]
def F37_p (k : Nat) : List Arg → Option CR := cle F37_sh fun x => ⟨F37 k x.1 x.2.1 x.2.2.1, F37_r⟩
theorem F37_q (k : Nat) : ∀ xs cr, F37_p k xs = some cr → Contract Try.prog 37 xs cr := cle_ok fun x => F37_con k _ _ _
theorem F37_f : FnOk Try.prog 37 := .of (by kernel_rfl)
abbrev F114_E (k : Nat) : Env := env noTab noHint .own [] k
abbrev F114_a (a0 : List (den (.int .u8))) : List Arg := [.one (.l (.s .own (.int .u8) a0))]
def F114_r (r : List (den (.int .u8))) : A × List (List Leaf) := (.one (.s .own (.int .u8) r), [])
def F114_T {β : Type} (k : Nat) (a0 : List (den (.int .u8))) (RET : List (den (.int .u8)) → Option β) : Option β := cond (decide (0 ≤ ((a0.length : Nat) : Int)) && decide (((a0.length : Nat) : Int) ≤ ((a0.length : Nat) : Int))) (cond (decide (((a0.length : Nat) : Int) = ((a0.length : Nat) : Int))) (RET ((a0.take (((a0.length : Nat) : Int).toNat)).drop 0)) none) none
def F114 (k : Nat) (a0 : List (den (.int .u8))) : Option (List (den (.int .u8))) := F114_T k a0 some
theorem F114_st {β : Type} (k : Nat) (a0 : List (den (.int .u8))) (K : A × List (List Leaf) → Option β) : evalF (F114_E k) Try.f114 (F114_a a0) K =
    F114_T k a0 (fun r => K (F114_r r)) := by kernel_rfl
theorem F114_ev {β : Type} (k : Nat) (a0 : List (den (.int .u8))) (K : A × List (List Leaf) → Option β) : evalF (F114_E k) Try.f114 (F114_a a0) K = (F114 k a0).bind fun r => K (F114_r r) := by
  rw [F114_st, F114]
  simp only [F114_T, bind_cond, Option.bind_assoc, Option.bind_some, Option.bind_none, Option.bind_fun_some]
theorem F114_con (k : Nat) (a0 : List (den (.int .u8))) : Contract Try.prog 114 (F114_a a0) ⟨F114 k a0, F114_r⟩ := con_of (envOk .none _ _ _ _) mixed Try.func114 rfl rfl (F114_ev k a0 some)
def F114_sh : List AK := [.one (.l (.sl .own (.int .u8)))]
def F114_p (k : Nat) : List Arg → Option CR := cle F114_sh fun x => ⟨F114 k x.1, F114_r⟩
theorem F114_q (k : Nat) : ∀ xs cr, F114_p k xs = some cr → Contract Try.prog 114 xs cr := cle_ok fun x => F114_con k _
theorem F114_f : FnOk Try.prog 114 := .of (by kernel_rfl)
def F88_t (k : Nat) : Tab := entT 114 (F114_p k) <| noTab
abbrev F88_E (k : Nat) : Env := env (F88_t k) noHint .own [] k
abbrev F88_a (a0 : List (den (.int .u8))) : List Arg := [.one (.l (.s .ro (.int .u8) a0))]
def F88_r (r : List (den (.int .u8))) : A × List (List Leaf) := (.one (.s .own (.int .u8) r), [])
def F88_T {β : Type} (k : Nat) (a0 : List (den (.int .u8))) (RET : List (den (.int .u8)) → Option β) : Option β := cond (((a0.length : Nat) : Int) == 0) (RET []) (cond (decide ((([] : List (den (.int .u8))).length + a0.length) * 1 ≤ 140737488355328)) ((F114 k ([] ++ a0)).bind fun b1 => RET b1) none)
def F88 (k : Nat) (a0 : List (den (.int .u8))) : Option (List (den (.int .u8))) := F88_T k a0 some
theorem F88_st {β : Type} (k : Nat) (a0 : List (den (.int .u8))) (K : A × List (List Leaf) → Option β) : evalF (F88_E k) Try.f88 (F88_a a0) K =
    F88_T k a0 (fun r => K (F88_r r)) := by kernel_rfl
theorem F88_ev {β : Type} (k : Nat) (a0 : List (den (.int .u8))) (K : A × List (List Leaf) → Option β) : evalF (F88_E k) Try.f88 (F88_a a0) K = (F88 k a0).bind fun r => K (F88_r r) := by
  rw [F88_st, F88]
  simp only [F88_T, bind_cond, Option.bind_assoc, Option.bind_some, Option.bind_none, Option.bind_fun_some]
theorem F88_tOk (k : Nat) : TabFn Try.prog (F88_t k) := .ent (F114_q k) F114_f (.none)
theorem F88_con (k : Nat) (a0 : List (den (.int .u8))) : Contract Try.prog 88 (F88_a a0) ⟨F88 k a0, F88_r⟩ := con_of (envOk (F88_tOk k) _ _ _ _) mixed Try.func88 rfl rfl (F88_ev k a0 some)
def F88_sh : List AK := [.one (.l (.sl .ro (.int .u8)))]
def F88_p (k : Nat) : List Arg → Option CR := cle F88_sh fun x => ⟨F88 k x.1, F88_r⟩
theorem F88_q (k : Nat) : ∀ xs cr, F88_p k xs = some cr → Contract Try.prog 88 xs cr := cle_ok fun x => F88_con k _
theorem F88_f : FnOk Try.prog 88 := .of (by kernel_rfl)
def F108_h : Nat → Hint
  | 0 => ⟨[(0, .plain), (1, .plain), (12, .plain), (13, .plain)], []⟩
  | _ => ⟨[], []⟩
abbrev F108_E (k : Nat) : Env := env noTab F108_h .own [] k
abbrev F108_a (a0 a1 : List (den (.int .u8))) : List Arg := [.one (.l (.s .ro (.int .u8) a0)), .one (.l (.s .ro (.int .u8) a1))]
def F108_r (r : Bool) : A × List (List Leaf) := (.one (.v (.bool r)), [])
def F108_s0 (a0 a1 : List (den (.int .u8))) (x13_0 : Int) : St := ⟨(.one (.s .ro (.int .u8) a0)) :: (.one (.s .ro (.int .u8) a1)) :: dz 10 ((.one (.v (.int .i64 ((a0.length : Nat) : Int)))) :: (.one (.v (.int .i64 x13_0))) :: dz 12 []), []⟩
def F108_l0_T {β : Type} (k : Nat) (a0 a1 : List (den (.int .u8))) (NX : Int → Option β) (RET : Bool → Option β) (x13_0 : Int) : Option β := cond (decide (x13_0 < ((a0.length : Nat) : Int))) (cond (decide (0 ≤ x13_0)) (cond (decide (x13_0 < ((a0.length : Nat) : Int))) (cond (decide (0 ≤ x13_0)) (cond (decide (x13_0 < ((a1.length : Nat) : Int))) (cond ((atI a0 x13_0) != (atI a1 x13_0)) (RET false) (NX (IntKind.i64.wrap (x13_0 + 1)))) none) none) none) none) (RET true)
def F108_l0 (k : Nat) (a0 a1 : List (den (.int .u8))) : Nat → Int → Option (Bool)
  | 0, _ => none
  | n + 1, x13_0 => F108_l0_T k a0 a1 (fun x13_0 => F108_l0 k a0 a1 n x13_0) some x13_0
theorem F108_l0_rd {β : Type} (k n : Nat) (a0 a1 : List (den (.int .u8))) (x13_0 : Int) (K : A × List (List Leaf) → Option β) :
    loopG (F108_E k) Try.f108 [1, 1, 0, 1, 0] 0 (kontAt (F108_E k) [1, 1, 0, 1, 0] (bodyOf Try.f108) 0 (endC (F108_E k) Try.f108 (F108_a a0 a1) K)) (n + 1) (F108_s0 a0 a1 x13_0) =
    F108_l0_T k a0 a1 (fun x13_0 => loopG (F108_E k) Try.f108 [1, 1, 0, 1, 0] 0 (kontAt (F108_E k) [1, 1, 0, 1, 0] (bodyOf Try.f108) 0 (endC (F108_E k) Try.f108 (F108_a a0 a1) K)) n (F108_s0 a0 a1 x13_0)) (fun r => K (F108_r r)) x13_0 := by kernel_rfl
theorem F108_l0_lp {β : Type} (k : Nat) (a0 a1 : List (den (.int .u8))) (K : A × List (List Leaf) → Option β) (n : Nat) : ∀ (x13_0 : Int), loopG (F108_E k) Try.f108 [1, 1, 0, 1, 0] 0 (kontAt (F108_E k) [1, 1, 0, 1, 0] (bodyOf Try.f108) 0 (endC (F108_E k) Try.f108 (F108_a a0 a1) K)) n (F108_s0 a0 a1 x13_0) =
    (F108_l0 k a0 a1 n x13_0).bind fun r => K (F108_r r) := by
  induction n with
  | zero => intros; rfl
  | succ n ih =>
    intros
    rw [F108_l0_rd, F108_l0]
    simp only [F108_l0_T, bind_cond, Option.bind_assoc, Option.bind_some, Option.bind_none, Option.bind_fun_some, ih]
def F108_T {β : Type} (k : Nat) (a0 a1 : List (den (.int .u8))) (LP0 : Int → Option β) (RET : Bool → Option β) : Option β := cond (((a0.length : Nat) : Int) != ((a1.length : Nat) : Int)) (RET false) (LP0 0)
def F108 (k : Nat) (a0 a1 : List (den (.int .u8))) : Option (Bool) := F108_T k a0 a1 (fun x13_0 => F108_l0 k a0 a1 k x13_0) some
theorem F108_st {β : Type} (k : Nat) (a0 a1 : List (den (.int .u8))) (K : A × List (List Leaf) → Option β) : evalF (F108_E k) Try.f108 (F108_a a0 a1) K =
    F108_T k a0 a1 (fun x13_0 => loopG (F108_E k) Try.f108 [1, 1, 0, 1, 0] 0 (kontAt (F108_E k) [1, 1, 0, 1, 0] (bodyOf Try.f108) 0 (endC (F108_E k) Try.f108 (F108_a a0 a1) K)) k (F108_s0 a0 a1 x13_0)) (fun r => K (F108_r r)) := by kernel_rfl
theorem F108_ev {β : Type} (k : Nat) (a0 a1 : List (den (.int .u8))) (K : A × List (List Leaf) → Option β) : evalF (F108_E k) Try.f108 (F108_a a0 a1) K = (F108 k a0 a1).bind fun r => K (F108_r r) := by
  rw [F108_st, F108]
  simp only [F108_T, bind_cond, Option.bind_assoc, Option.bind_some, Option.bind_none, Option.bind_fun_some, F108_l0_lp]
theorem F108_con (k : Nat) (a0 a1 : List (den (.int .u8))) : Contract Try.prog 108 (F108_a a0 a1) ⟨F108 k a0 a1, F108_r⟩ := con_of (envOk .none _ _ _ _) mixed Try.func108 rfl rfl (F108_ev k a0 a1 some)
def F108_sh : List AK := [.one (.l (.sl .ro (.int .u8))), .one (.l (.sl .ro (.int .u8)))]
def F108_p (k : Nat) : List Arg → Option CR := cle F108_sh fun x => ⟨F108 k x.1 x.2.1, F108_r⟩
theorem F108_q (k : Nat) : ∀ xs cr, F108_p k xs = some cr → Contract Try.prog 108 xs cr := cle_ok fun x => F108_con k _ _
theorem F108_f : FnOk Try.prog 108 := .of (by kernel_rfl)
def F77_t (k : Nat) : Tab := entT 88 (F88_p k) <| entT 76 (F76_p k) <| entT 108 (F108_p k) <| noTab
abbrev F77_E (k : Nat) : Env := env (F77_t k) noHint .own [] k
abbrev F77_a (a0 : List (den (.int .u8))) : List Arg := [.one (.l (.s .ro (.int .u8) a0))]
def F77_r (r : Int × Int × Int × List (den (.int .u8)) × Bool) : A × List (List Leaf) := (.tup [(true, [.v (.int .i64 r.1), .v (.int .i64 r.2.1), .v (.int .i64 r.2.2.1), .s .own (.int .u8) r.2.2.2.1]), (false, [.v (.bool r.2.2.2.2)])], [])
def F77_T {β : Type} (k : Nat) (a0 : List (den (.int .u8))) (RET : (Int × Int × Int × List (den (.int .u8)) × Bool) → Option β) : Option β := cond (decide (((a0.length : Nat) : Int) < 6)) (RET (0, 0, 0, [], false)) (cond (decide (0 < ((a0.length : Nat) : Int))) (cond (decide (1 < ((a0.length : Nat) : Int))) (cond (decide (2 < ((a0.length : Nat) : Int))) (cond (decide (0 ≤ (IntKind.i64.wrap (((a0.length : Nat) : Int) - 2))) && decide ((IntKind.i64.wrap (((a0.length : Nat) : Int) - 2)) ≤ ((a0.length : Nat) : Int))) (cond (decide (0 ≤ 4) && decide (4 ≤ (IntKind.i64.wrap (((a0.length : Nat) : Int) - 2)))) ((F88 k ((a0.take ((IntKind.i64.wrap (((a0.length : Nat) : Int) - 2)).toNat)).drop 4)).bind fun b1 => (F76 k (IntKind.i64.wrap (atI a0 0)) (IntKind.i64.wrap (atI a0 1)) (IntKind.i64.wrap (atI a0 2)) b1).bind fun b2 => (F108 k b2 a0).bind fun b3 => cond (!b3) (RET (0, 0, 0, [], false)) (RET (IntKind.i64.wrap (atI a0 0), IntKind.i64.wrap (atI a0 1), IntKind.i64.wrap (atI a0 2), b1, true))) none) none) none) none) none)
def F77 (k : Nat) (a0 : List (den (.int .u8))) : Option (Int × Int × Int × List (den (.int .u8)) × Bool) := F77_T k a0 some
theorem F77_st {β : Type} (k : Nat) (a0 : List (den (.int .u8))) (K : A × List (List Leaf) → Option β) : evalF (F77_E k) Try.f77 (F77_a a0) K =
    F77_T k a0 (fun r => K (F77_r r)) := by kernel_rfl
theorem F77_ev {β : Type} (k : Nat) (a0 : List (den (.int .u8))) (K : A × List (List Leaf) → Option β) : evalF (F77_E k) Try.f77 (F77_a a0) K = (F77 k a0).bind fun r => K (F77_r r) := by
  rw [F77_st, F77]
  simp only [F77_T, bind_cond, Option.bind_assoc, Option.bind_some, Option.bind_none, Option.bind_fun_some]
theorem F77_tOk (k : Nat) : TabFn Try.prog (F77_t k) := .ent (F88_q k) F88_f (.ent (F76_q k) F76_f (.ent (F108_q k) F108_f (.none)))
theorem F77_con (k : Nat) (a0 : List (den (.int .u8))) : Contract Try.prog 77 (F77_a a0) ⟨F77 k a0, F77_r⟩ := con_of (envOk (F77_tOk k) _ _ _ _) mixed Try.func77 rfl rfl (F77_ev k a0 some)
def F77_sh : List AK := [.one (.l (.sl .ro (.int .u8)))]
def F77_p (k : Nat) : List Arg → Option CR := cle F77_sh fun x => ⟨F77 k x.1, F77_r⟩
theorem F77_q (k : Nat) : ∀ xs cr, F77_p k xs = some cr → Contract Try.prog 77 xs cr := cle_ok fun x => F77_con k _
theorem F77_f : FnOk Try.prog 77 := .of (by kernel_rfl)
def F78_t (k : Nat) : Tab := entT 107 (F107_p k) <| entT 45 (F45_p k) <| noTab
abbrev F78_E (k : Nat) : Env := env (F78_t k) noHint .own [] k
abbrev F78_a (a0_0 a0_1 a0_2 : Int) (a0_3 : List (den (.int .u8))) (a1 : Int) : List Arg := [.agg [.l (.v (.int .i64 a0_0)), .l (.v (.int .i64 a0_1)), .l (.v (.int .i64 a0_2)), .l (.s .ro (.int .u8) a0_3)], .one (.l (.v (.int .i64 a1)))]
def F78_r (r : Bool) : A × List (List Leaf) := (.one (.v (.bool r)), [])
def F78_T {β : Type} (k : Nat) (a0_0 a0_1 a0_2 : Int) (a0_3 : List (den (.int .u8))) (a1 : Int) (RET : Bool → Option β) : Option β := (F107 k a0_0 a0_1 a0_2 a0_3).bind fun b1 => cond b1 ((F45 k a1 0 254).bind fun b2 => cond b2 (cond (a0_0 == a1) (RET true) (cond (a0_0 == 255) (RET (a0_1 != a1)) (RET false))) (RET false)) (RET false)
def F78 (k : Nat) (a0_0 a0_1 a0_2 : Int) (a0_3 : List (den (.int .u8))) (a1 : Int) : Option (Bool) := F78_T k a0_0 a0_1 a0_2 a0_3 a1 some
theorem F78_st {β : Type} (k : Nat) (a0_0 a0_1 a0_2 : Int) (a0_3 : List (den (.int .u8))) (a1 : Int) (K : A × List (List Leaf) → Option β) : evalF (F78_E k) Try.f78 (F78_a a0_0 a0_1 a0_2 a0_3 a1) K =
    F78_T k a0_0 a0_1 a0_2 a0_3 a1 (fun r => K (F78_r r)) := by kernel_rfl
theorem F78_ev {β : Type} (k : Nat) (a0_0 a0_1 a0_2 : Int) (a0_3 : List (den (.int .u8))) (a1 : Int) (K : A × List (List Leaf) → Option β) : evalF (F78_E k) Try.f78 (F78_a a0_0 a0_1 a0_2 a0_3 a1) K = (F78 k a0_0 a0_1 a0_2 a0_3 a1).bind fun r => K (F78_r r) := by
  rw [F78_st, F78]
  simp only [F78_T, bind_cond, Option.bind_assoc, Option.bind_some, Option.bind_none, Option.bind_fun_some]
theorem F78_tOk (k : Nat) : TabFn Try.prog (F78_t k) := .ent (F107_q k) F107_f (.ent (F45_q k) F45_f (.none))
theorem F78_con (k : Nat) (a0_0 a0_1 a0_2 : Int) (a0_3 : List (den (.int .u8))) (a1 : Int) : Contract Try.prog 78 (F78_a a0_0 a0_1 a0_2 a0_3 a1) ⟨F78 k a0_0 a0_1 a0_2 a0_3 a1, F78_r⟩ := con_of (envOk (F78_tOk k) _ _ _ _) mixed Try.func78 rfl rfl (F78_ev k a0_0 a0_1 a0_2 a0_3 a1 some)
def F78_sh : List AK := [.agg [.l (.int .i64), .l (.int .i64), .l (.int .i64), .l (.sl .ro (.int .u8))], .one (.l (.int .i64))]
def F78_p (k : Nat) : List Arg → Option CR := cle F78_sh fun x => ⟨F78 k x.1.1 x.1.2.1 x.1.2.2.1 x.1.2.2.2.1 x.2.1, F78_r⟩
theorem F78_q (k : Nat) : ∀ xs cr, F78_p k xs = some cr → Contract Try.prog 78 xs cr := cle_ok fun x => F78_con k _ _ _ _ _
theorem F78_f : FnOk Try.prog 78 := .of (by kernel_rfl)
def F110_h : Nat → Hint
  | 0 => ⟨[(7, .plain), (30, .plain), (31, .plain), (32, .plain)], []⟩
  | _ => ⟨[], []⟩
def F110_t (k : Nat) : Tab := entT 45 (F45_p k) <| noTab
abbrev F110_E (k : Nat) : Env := env (F110_t k) F110_h .own [] k
abbrev F110_a (a0 : List (den (.int .u8))) (a1 a2 : Int) : List Arg := [.one (.l (.s .ro (.int .u8) a0)), .one (.l (.v (.int .i64 a1))), .one (.l (.v (.int .i64 a2)))]
def F110_r (r : Int) : A × List (List Leaf) := (.one (.v (.int .i64 r)), [])
def F110_s0 (a0 : List (den (.int .u8))) (a1 a2 : Int) (x7_0 x32_0 : Int) : St := ⟨dz 7 ((.one (.v (.int .i64 x7_0))) :: dz 22 ((.one (.s .ro (.int .u8) ((a0.take ((IntKind.i64.wrap (a1 + a2)).toNat)).drop a1.toNat))) :: (.one (.v (.int .i64 ((((a0.take ((IntKind.i64.wrap (a1 + a2)).toNat)).drop a1.toNat).length : Nat) : Int)))) :: (.one (.v (.int .i64 x32_0))) :: dz 10 [])), []⟩
def F110_l0_T {β : Type} (k : Nat) (a0 : List (den (.int .u8))) (a1 a2 : Int) (NX : Int → Int → Option β) (RET : Int → Option β) (x7_0 x32_0 : Int) : Option β := cond (decide (x32_0 < ((((a0.take ((IntKind.i64.wrap (a1 + a2)).toNat)).drop a1.toNat).length : Nat) : Int))) (cond (decide (0 ≤ x32_0)) (cond (decide (x32_0 < ((((a0.take ((IntKind.i64.wrap (a1 + a2)).toNat)).drop a1.toNat).length : Nat) : Int))) (NX (bitsOf .or .i64 (IntKind.i64.wrap (x7_0 * 2 ^ (8))) (IntKind.i64.wrap (atI ((a0.take ((IntKind.i64.wrap (a1 + a2)).toNat)).drop a1.toNat) x32_0))) (IntKind.i64.wrap (x32_0 + 1))) none) none) (RET x7_0)
def F110_l0 (k : Nat) (a0 : List (den (.int .u8))) (a1 a2 : Int) : Nat → Int → Int → Option (Int)
  | 0, _, _ => none
  | n + 1, x7_0, x32_0 => F110_l0_T k a0 a1 a2 (fun x7_0 x32_0 => F110_l0 k a0 a1 a2 n x7_0 x32_0) some x7_0 x32_0
theorem F110_l0_rd {β : Type} (k n : Nat) (a0 : List (den (.int .u8))) (a1 a2 : Int) (x7_0 x32_0 : Int) (K : A × List (List Leaf) → Option β) :
    loopG (F110_E k) Try.f110 [1, 1, 1, 0, 1, 0] 0 (kontAt (F110_E k) [1, 1, 1, 0, 1, 0] (bodyOf Try.f110) 0 (endC (F110_E k) Try.f110 (F110_a a0 a1 a2) K)) (n + 1) (F110_s0 a0 a1 a2 x7_0 x32_0) =
    F110_l0_T k a0 a1 a2 (fun x7_0 x32_0 => loopG (F110_E k) Try.f110 [1, 1, 1, 0, 1, 0] 0 (kontAt (F110_E k) [1, 1, 1, 0, 1, 0] (bodyOf Try.f110) 0 (endC (F110_E k) Try.f110 (F110_a a0 a1 a2) K)) n (F110_s0 a0 a1 a2 x7_0 x32_0)) (fun r => K (F110_r r)) x7_0 x32_0 := by kernel_rfl
theorem F110_l0_lp {β : Type} (k : Nat) (a0 : List (den (.int .u8))) (a1 a2 : Int) (K : A × List (List Leaf) → Option β) (n : Nat) : ∀ (x7_0 x32_0 : Int), loopG (F110_E k) Try.f110 [1, 1, 1, 0, 1, 0] 0 (kontAt (F110_E k) [1, 1, 1, 0, 1, 0] (bodyOf Try.f110) 0 (endC (F110_E k) Try.f110 (F110_a a0 a1 a2) K)) n (F110_s0 a0 a1 a2 x7_0 x32_0) =
    (F110_l0 k a0 a1 a2 n x7_0 x32_0).bind fun r => K (F110_r r) := by
  induction n with
  | zero => intros; rfl
  | succ n ih =>
    intros
    rw [F110_l0_rd, F110_l0]
    simp only [F110_l0_T, bind_cond, Option.bind_assoc, Option.bind_some, Option.bind_none, Option.bind_fun_some, ih]
def F110_T {β : Type} (k : Nat) (a0 : List (den (.int .u8))) (a1 a2 : Int) (LP0 : Int → Int → Option β) (RET : Int → Option β) : Option β := (F45 k a2 1 4).bind fun b1 => cond (!b1) (RET (-1)) (cond (decide (a1 < 0)) (RET (-1)) (cond (decide (a1 > (IntKind.i64.wrap (((a0.length : Nat) : Int) - a2)))) (RET (-1)) (cond (decide (0 ≤ (IntKind.i64.wrap (a1 + a2))) && decide ((IntKind.i64.wrap (a1 + a2)) ≤ ((a0.length : Nat) : Int))) (cond (decide (0 ≤ a1) && decide (a1 ≤ (IntKind.i64.wrap (a1 + a2)))) (LP0 0 0) none) none)))
def F110 (k : Nat) (a0 : List (den (.int .u8))) (a1 a2 : Int) : Option (Int) := F110_T k a0 a1 a2 (fun x7_0 x32_0 => F110_l0 k a0 a1 a2 k x7_0 x32_0) some
theorem F110_st {β : Type} (k : Nat) (a0 : List (den (.int .u8))) (a1 a2 : Int) (K : A × List (List Leaf) → Option β) : evalF (F110_E k) Try.f110 (F110_a a0 a1 a2) K =
    F110_T k a0 a1 a2 (fun x7_0 x32_0 => loopG (F110_E k) Try.f110 [1, 1, 1, 0, 1, 0] 0 (kontAt (F110_E k) [1, 1, 1, 0, 1, 0] (bodyOf Try.f110) 0 (endC (F110_E k) Try.f110 (F110_a a0 a1 a2) K)) k (F110_s0 a0 a1 a2 x7_0 x32_0)) (fun r => K (F110_r r)) := by kernel_rfl
theorem F110_ev {β : Type} (k : Nat) (a0 : List (den (.int .u8))) (a1 a2 : Int) (K : A × List (List Leaf) → Option β) : evalF (F110_E k) Try.f110 (F110_a a0 a1 a2) K = (F110 k a0 a1 a2).bind fun r => K (F110_r r) := by
  rw [F110_st, F110]
  simp only [F110_T, bind_cond, Option.bind_assoc, Option.bind_some, Option.bind_none, Option.bind_fun_some, F110_l0_lp]
theorem F110_tOk (k : Nat) : TabFn Try.prog (F110_t k) := .ent (F45_q k) F45_f (.none)
theorem F110_con (k : Nat) (a0 : List (den (.int .u8))) (a1 a2 : Int) : Contract Try.prog 110 (F110_a a0 a1 a2) ⟨F110 k a0 a1 a2, F110_r⟩ := con_of (envOk (F110_tOk k) _ _ _ _) mixed Try.func110 rfl rfl (F110_ev k a0 a1 a2 some)
def F110_sh : List AK := [.one (.l (.sl .ro (.int .u8))), .one (.l (.int .i64)), .one (.l (.int .i64))]
def F110_p (k : Nat) : List Arg → Option CR := cle F110_sh fun x => ⟨F110 k x.1 x.2.1 x.2.2.1, F110_r⟩
theorem F110_q (k : Nat) : ∀ xs cr, F110_p k xs = some cr → Contract Try.prog 110 xs cr := cle_ok fun x => F110_con k _ _ _
theorem F110_f : FnOk Try.prog 110 := .of (by kernel_rfl)
def F109_t (k : Nat) : Tab := entT 103 (F103_p k) <| entT 55 (F55_p k) <| noTab
abbrev F109_E (k : Nat) : Env := env (F109_t k) noHint .own [] k
abbrev F109_a (a0 : List (den (.int .u8))) (a1 : Int) : List Arg := [.one (.l (.s .ro (.int .u8) a0)), .one (.l (.v (.int .i64 a1)))]
def F109_r (r : Bool) : A × List (List Leaf) := (.one (.v (.bool r)), [])
def F109_T {β : Type} (k : Nat) (a0 : List (den (.int .u8))) (a1 : Int) (RET : Bool → Option β) : Option β := (F103 k a0).bind fun b1 => (F55 k a1).bind fun b2 => cond b2 (cond (a1 == b1) (RET true) (cond ((a1.tmod 65535) == 0) (RET ((b1.tmod 65535) == 0)) (RET false))) (RET false)
def F109 (k : Nat) (a0 : List (den (.int .u8))) (a1 : Int) : Option (Bool) := F109_T k a0 a1 some
theorem F109_st {β : Type} (k : Nat) (a0 : List (den (.int .u8))) (a1 : Int) (K : A × List (List Leaf) → Option β) : evalF (F109_E k) Try.f109 (F109_a a0 a1) K =
    F109_T k a0 a1 (fun r => K (F109_r r)) := by kernel_rfl
theorem F109_ev {β : Type} (k : Nat) (a0 : List (den (.int .u8))) (a1 : Int) (K : A × List (List Leaf) → Option β) : evalF (F109_E k) Try.f109 (F109_a a0 a1) K = (F109 k a0 a1).bind fun r => K (F109_r r) := by
  rw [F109_st, F109]
  simp only [F109_T, bind_cond, Option.bind_assoc, Option.bind_some, Option.bind_none, Option.bind_fun_some]
theorem F109_tOk (k : Nat) : TabFn Try.prog (F109_t k) := .ent (F103_q k) F103_f (.ent (F55_q k) F55_f (.none))
theorem F109_con (k : Nat) (a0 : List (den (.int .u8))) (a1 : Int) : Contract Try.prog 109 (F109_a a0 a1) ⟨F109 k a0 a1, F109_r⟩ := con_of (envOk (F109_tOk k) _ _ _ _) mixed Try.func109 rfl rfl (F109_ev k a0 a1 some)
def F109_sh : List AK := [.one (.l (.sl .ro (.int .u8))), .one (.l (.int .i64))]
def F109_p (k : Nat) : List Arg → Option CR := cle F109_sh fun x => ⟨F109 k x.1 x.2.1, F109_r⟩
theorem F109_q (k : Nat) : ∀ xs cr, F109_p k xs = some cr → Contract Try.prog 109 xs cr := cle_ok fun x => F109_con k _ _
theorem F109_f : FnOk Try.prog 109 := .of (by kernel_rfl)
def F79_t (k : Nat) : Tab := entT 110 (F110_p k) <| entT 109 (F109_p k) <| entT 88 (F88_p k) <| entT 105 (F105_p k) <| noTab
abbrev F79_E (k : Nat) : Env := env (F79_t k) noHint .own [] k
abbrev F79_a (a0 : List (den (.int .u8))) : List Arg := [.one (.l (.s .ro (.int .u8) a0))]
def F79_r (r : Int × Int × Int × Int × Int × Int × Bool × Bool × List (den (.int .u8)) × Bool) : A × List (List Leaf) := (.tup [(true, [.v (.int .i64 r.1), .v (.int .i64 r.2.1), .v (.int .i64 r.2.2.1), .v (.int .i64 r.2.2.2.1), .v (.int .i64 r.2.2.2.2.1), .v (.int .i64 r.2.2.2.2.2.1), .v (.bool r.2.2.2.2.2.2.1), .v (.bool r.2.2.2.2.2.2.2.1), .s .own (.int .u8) r.2.2.2.2.2.2.2.2.1]), (false, [.v (.bool r.2.2.2.2.2.2.2.2.2)])], [])
def F79_T {β : Type} (k : Nat) (a0 : List (den (.int .u8))) (RET : (Int × Int × Int × Int × Int × Int × Bool × Bool × List (den (.int .u8)) × Bool) → Option β) : Option β := cond (decide (((a0.length : Nat) : Int) < 12)) (RET (0, 0, 0, 0, 0, 0, false, false, [], false)) (cond (decide (0 ≤ 10) && decide (10 ≤ ((a0.length : Nat) : Int))) ((F110 k a0 10 2).bind fun b1 => (F109 k (a0.take 10) b1).bind fun b2 => cond (!b2) (RET (0, 0, 0, 0, 0, 0, false, false, [], false)) (cond (decide (9 < ((a0.length : Nat) : Int))) (cond (((a0.length : Nat) : Int) != (IntKind.i64.wrap (12 + (IntKind.i64.wrap (atI a0 9))))) (RET (0, 0, 0, 0, 0, 0, false, false, [], false)) (cond (decide (8 < ((a0.length : Nat) : Int))) (cond (decide ((atI a0 8) > 3)) (RET (0, 0, 0, 0, 0, 0, false, false, [], false)) ((F110 k a0 0 2).bind fun b3 => (F110 k a0 2 2).bind fun b4 => cond (decide (4 < ((a0.length : Nat) : Int))) (cond (decide (5 < ((a0.length : Nat) : Int))) (cond (decide (6 < ((a0.length : Nat) : Int))) (cond (decide (7 < ((a0.length : Nat) : Int))) (cond (decide (8 < ((a0.length : Nat) : Int))) (cond (decide (8 < ((a0.length : Nat) : Int))) (cond (decide (0 ≤ 12) && decide (12 ≤ ((a0.length : Nat) : Int))) ((F88 k (a0.drop 12)).bind fun b5 => (F105 k b3 b4 (IntKind.i64.wrap (atI a0 4)) (IntKind.i64.wrap (atI a0 5)) (IntKind.i64.wrap (atI a0 6)) (IntKind.i64.wrap (atI a0 7)) ((bitsOf .and .u8 (atI a0 8) 1) != 0) ((bitsOf .and .u8 (atI a0 8) 2) != 0) b5).bind fun b6 => cond (!b6) (RET (0, 0, 0, 0, 0, 0, false, false, [], false)) (RET (b3, b4, IntKind.i64.wrap (atI a0 4), IntKind.i64.wrap (atI a0 5), IntKind.i64.wrap (atI a0 6), IntKind.i64.wrap (atI a0 7), ((bitsOf .and .u8 (atI a0 8) 1) != 0), ((bitsOf .and .u8 (atI a0 8) 2) != 0), b5, true))) none) none) none) none) none) none) none)) none)) none)) none)
def F79 (k : Nat) (a0 : List (den (.int .u8))) : Option (Int × Int × Int × Int × Int × Int × Bool × Bool × List (den (.int .u8)) × Bool) := F79_T k a0 some
theorem F79_st {β : Type} (k : Nat) (a0 : List (den (.int .u8))) (K : A × List (List Leaf) → Option β) : evalF (F79_E k) Try.f79 (F79_a a0) K =
    F79_T k a0 (fun r => K (F79_r r)) := by kernel_rfl
theorem F79_ev {β : Type} (k : Nat) (a0 : List (den (.int .u8))) (K : A × List (List Leaf) → Option β) : evalF (F79_E k) Try.f79 (F79_a a0) K = (F79 k a0).bind fun r => K (F79_r r) := by
  rw [F79_st, F79]
  simp only [F79_T, bind_cond, Option.bind_assoc, Option.bind_some, Option.bind_none, Option.bind_fun_some]
theorem F79_tOk (k : Nat) : TabFn Try.prog (F79_t k) := .ent (F110_q k) F110_f (.ent (F109_q k) F109_f (.ent (F88_q k) F88_f (.ent (F105_q k) F105_f (.none))))
theorem F79_con (k : Nat) (a0 : List (den (.int .u8))) : Contract Try.prog 79 (F79_a a0) ⟨F79 k a0, F79_r⟩ := con_of (envOk (F79_tOk k) _ _ _ _) mixed Try.func79 rfl rfl (F79_ev k a0 some)
def F79_sh : List AK := [.one (.l (.sl .ro (.int .u8)))]
def F79_p (k : Nat) : List Arg → Option CR := cle F79_sh fun x => ⟨F79 k x.1, F79_r⟩
theorem F79_q (k : Nat) : ∀ xs cr, F79_p k xs = some cr → Contract Try.prog 79 xs cr := cle_ok fun x => F79_con k _
theorem F79_f : FnOk Try.prog 79 := .of (by kernel_rfl)
abbrev F113_E (k : Nat) : Env := env noTab noHint .own [] k
abbrev F113_a (a0 : List (den rng)) : List Arg := [.one (.l (.s .own rng a0))]
def F113_r (r : List (den rng)) : A × List (List Leaf) := (.one (.s .own rng r), [])
def F113_T {β : Type} (k : Nat) (a0 : List (den rng)) (RET : List (den rng) → Option β) : Option β := cond (decide (0 ≤ ((a0.length : Nat) : Int)) && decide (((a0.length : Nat) : Int) ≤ ((a0.length : Nat) : Int))) (cond (decide (((a0.length : Nat) : Int) = ((a0.length : Nat) : Int))) (RET ((a0.take (((a0.length : Nat) : Int).toNat)).drop 0)) none) none
def F113 (k : Nat) (a0 : List (den rng)) : Option (List (den rng)) := F113_T k a0 some
theorem F113_st {β : Type} (k : Nat) (a0 : List (den rng)) (K : A × List (List Leaf) → Option β) : evalF (F113_E k) Try.f113 (F113_a a0) K =
    F113_T k a0 (fun r => K (F113_r r)) := by kernel_rfl
theorem F113_ev {β : Type} (k : Nat) (a0 : List (den rng)) (K : A × List (List Leaf) → Option β) : evalF (F113_E k) Try.f113 (F113_a a0) K = (F113 k a0).bind fun r => K (F113_r r) := by
  rw [F113_st, F113]
  simp only [F113_T, bind_cond, Option.bind_assoc, Option.bind_some, Option.bind_none, Option.bind_fun_some]
theorem F113_con (k : Nat) (a0 : List (den rng)) : Contract Try.prog 113 (F113_a a0) ⟨F113 k a0, F113_r⟩ := con_of (envOk .none _ _ _ _) mixed Try.func113 rfl rfl (F113_ev k a0 some)
def F113_sh : List AK := [.one (.l (.sl .own rng))]
def F113_p (k : Nat) : List Arg → Option CR := cle F113_sh fun x => ⟨F113 k x.1, F113_r⟩
theorem F113_q (k : Nat) : ∀ xs cr, F113_p k xs = some cr → Contract Try.prog 113 xs cr := cle_ok fun x => F113_con k _
theorem F113_f : FnOk Try.prog 113 := .of (by kernel_rfl)
def F87_t (k : Nat) : Tab := entT 113 (F113_p k) <| noTab
abbrev F87_E (k : Nat) : Env := env (F87_t k) noHint .own [] k
abbrev F87_a (a0 : List (den rng)) : List Arg := [.one (.l (.s .ro rng a0))]
def F87_r (r : List (den rng)) : A × List (List Leaf) := (.one (.s .own rng r), [])
def F87_T {β : Type} (k : Nat) (a0 : List (den rng)) (RET : List (den rng) → Option β) : Option β := cond (((a0.length : Nat) : Int) == 0) (RET []) (cond (decide ((([] : List (den rng)).length + a0.length) * 16 ≤ 140737488355328)) ((F113 k ([] ++ a0)).bind fun b1 => RET b1) none)
def F87 (k : Nat) (a0 : List (den rng)) : Option (List (den rng)) := F87_T k a0 some
theorem F87_st {β : Type} (k : Nat) (a0 : List (den rng)) (K : A × List (List Leaf) → Option β) : evalF (F87_E k) Try.f87 (F87_a a0) K =
    F87_T k a0 (fun r => K (F87_r r)) := by kernel_rfl
theorem F87_ev {β : Type} (k : Nat) (a0 : List (den rng)) (K : A × List (List Leaf) → Option β) : evalF (F87_E k) Try.f87 (F87_a a0) K = (F87 k a0).bind fun r => K (F87_r r) := by
  rw [F87_st, F87]
  simp only [F87_T, bind_cond, Option.bind_assoc, Option.bind_some, Option.bind_none, Option.bind_fun_some]
theorem F87_tOk (k : Nat) : TabFn Try.prog (F87_t k) := .ent (F113_q k) F113_f (.none)
theorem F87_con (k : Nat) (a0 : List (den rng)) : Contract Try.prog 87 (F87_a a0) ⟨F87 k a0, F87_r⟩ := con_of (envOk (F87_tOk k) _ _ _ _) mixed Try.func87 rfl rfl (F87_ev k a0 some)
def F87_sh : List AK := [.one (.l (.sl .ro rng))]
def F87_p (k : Nat) : List Arg → Option CR := cle F87_sh fun x => ⟨F87 k x.1, F87_r⟩
theorem F87_q (k : Nat) : ∀ xs cr, F87_p k xs = some cr → Contract Try.prog 87 xs cr := cle_ok fun x => F87_con k _
theorem F87_f : FnOk Try.prog 87 := .of (by kernel_rfl)
def F46_t (k : Nat) : Tab := entT 87 (F87_p k) <| entT 88 (F88_p k) <| noTab
abbrev F46_E (k : Nat) : Env := env (F46_t k) noHint .own [] k
abbrev F46_a (a0_0 a0_1 a0_2 a0_3 a0_4 : Int) (a0_5 a0_6 a0_7 a0_8 : Bool) (a0_9 : List (den rng)) (a0_10 : List (den (.int .u8))) : List Arg := [.agg [.l (.v (.int .i64 a0_0)), .l (.v (.int .i64 a0_1)), .l (.v (.int .i64 a0_2)), .l (.v (.int .i64 a0_3)), .l (.v (.int .i64 a0_4)), .l (.v (.bool a0_5)), .l (.v (.bool a0_6)), .l (.v (.bool a0_7)), .l (.v (.bool a0_8)), .l (.s .ro rng a0_9), .l (.s .ro (.int .u8) a0_10)]]
def F46_r (r : Int × Int × Int × Int × Int × Bool × Bool × Bool × Bool × List (den rng) × List (den (.int .u8))) : A × List (List Leaf) := (.agg [.v (.int .i64 r.1), .v (.int .i64 r.2.1), .v (.int .i64 r.2.2.1), .v (.int .i64 r.2.2.2.1), .v (.int .i64 r.2.2.2.2.1), .v (.bool r.2.2.2.2.2.1), .v (.bool r.2.2.2.2.2.2.1), .v (.bool r.2.2.2.2.2.2.2.1), .v (.bool r.2.2.2.2.2.2.2.2.1), .s .own rng r.2.2.2.2.2.2.2.2.2.1, .s .own (.int .u8) r.2.2.2.2.2.2.2.2.2.2], [])
def F46_T {β : Type} (k : Nat) (a0_0 a0_1 a0_2 a0_3 a0_4 : Int) (a0_5 a0_6 a0_7 a0_8 : Bool) (a0_9 : List (den rng)) (a0_10 : List (den (.int .u8))) (RET : (Int × Int × Int × Int × Int × Bool × Bool × Bool × Bool × List (den rng) × List (den (.int .u8))) → Option β) : Option β := (F87 k a0_9).bind fun b1 => (F88 k a0_10).bind fun b2 => RET (a0_0, a0_1, a0_2, a0_3, a0_4, a0_5, a0_6, a0_7, a0_8, b1, b2)
def F46 (k : Nat) (a0_0 a0_1 a0_2 a0_3 a0_4 : Int) (a0_5 a0_6 a0_7 a0_8 : Bool) (a0_9 : List (den rng)) (a0_10 : List (den (.int .u8))) : Option (Int × Int × Int × Int × Int × Bool × Bool × Bool × Bool × List (den rng) × List (den (.int .u8))) := F46_T k a0_0 a0_1 a0_2 a0_3 a0_4 a0_5 a0_6 a0_7 a0_8 a0_9 a0_10 some
theorem F46_st {β : Type} (k : Nat) (a0_0 a0_1 a0_2 a0_3 a0_4 : Int) (a0_5 a0_6 a0_7 a0_8 : Bool) (a0_9 : List (den rng)) (a0_10 : List (den (.int .u8))) (K : A × List (List Leaf) → Option β) : evalF (F46_E k) Try.f46 (F46_a a0_0 a0_1 a0_2 a0_3 a0_4 a0_5 a0_6 a0_7 a0_8 a0_9 a0_10) K =
    F46_T k a0_0 a0_1 a0_2 a0_3 a0_4 a0_5 a0_6 a0_7 a0_8 a0_9 a0_10 (fun r => K (F46_r r)) := by kernel_rfl
theorem F46_ev {β : Type} (k : Nat) (a0_0 a0_1 a0_2 a0_3 a0_4 : Int) (a0_5 a0_6 a0_7 a0_8 : Bool) (a0_9 : List (den rng)) (a0_10 : List (den (.int .u8))) (K : A × List (List Leaf) → Option β) : evalF (F46_E k) Try.f46 (F46_a a0_0 a0_1 a0_2 a0_3 a0_4 a0_5 a0_6 a0_7 a0_8 a0_9 a0_10) K = (F46 k a0_0 a0_1 a0_2 a0_3 a0_4 a0_5 a0_6 a0_7 a0_8 a0_9 a0_10).bind fun r => K (F46_r r) := by
  rw [F46_st, F46]
  simp only [F46_T, bind_cond, Option.bind_assoc, Option.bind_some, Option.bind_none, Option.bind_fun_some]
theorem F46_tOk (k : Nat) : TabFn Try.prog (F46_t k) := .ent (F87_q k) F87_f (.ent (F88_q k) F88_f (.none))
theorem F46_con (k : Nat) (a0_0 a0_1 a0_2 a0_3 a0_4 : Int) (a0_5 a0_6 a0_7 a0_8 : Bool) (a0_9 : List (den rng)) (a0_10 : List (den (.int .u8))) : Contract Try.prog 46 (F46_a a0_0 a0_1 a0_2 a0_3 a0_4 a0_5 a0_6 a0_7 a0_8 a0_9 a0_10) ⟨F46 k a0_0 a0_1 a0_2 a0_3 a0_4 a0_5 a0_6 a0_7 a0_8 a0_9 a0_10, F46_r⟩ := con_of (envOk (F46_tOk k) _ _ _ _) mixed Try.func46 rfl rfl (F46_ev k a0_0 a0_1 a0_2 a0_3 a0_4 a0_5 a0_6 a0_7 a0_8 a0_9 a0_10 some)
def F46_sh : List AK := [.agg [.l (.int .i64), .l (.int .i64), .l (.int .i64), .l (.int .i64), .l (.int .i64), .l (.bool), .l (.bool), .l (.bool), .l (.bool), .l (.sl .ro rng), .l (.sl .ro (.int .u8))]]
def F46_p (k : Nat) : List Arg → Option CR := cle F46_sh fun x => ⟨F46 k x.1.1 x.1.2.1 x.1.2.2.1 x.1.2.2.2.1 x.1.2.2.2.2.1 x.1.2.2.2.2.2.1 x.1.2.2.2.2.2.2.1 x.1.2.2.2.2.2.2.2.1 x.1.2.2.2.2.2.2.2.2.1 x.1.2.2.2.2.2.2.2.2.2.1 x.1.2.2.2.2.2.2.2.2.2.2.1, F46_r⟩
theorem F46_q (k : Nat) : ∀ xs cr, F46_p k xs = some cr → Contract Try.prog 46 xs cr := cle_ok fun x => F46_con k _ _ _ _ _ _ _ _ _ _ _
theorem F46_f : FnOk Try.prog 46 := .of (by kernel_rfl)
def F80_h : Nat → Hint
  | 0 => ⟨[(0, .plain), (1, .plain), (2, .plain), (6, .plain), (9, .plain), (10, .plain), (61, .plain), (62, .plain)], [(6000, .plain), (6001, .plain), (6002, .plain), (6003, .plain), (6004, .plain), (6005, .plain), (6006, .plain), (6007, .plain), (6008, .plain), (6009, .plain), (6010, .plain), (9000, .plain), (9001, .plain), (9002, .plain), (9003, .plain), (9004, .plain), (9005, .plain), (9006, .plain), (9007, .plain), (9008, .plain), (9009, .own .own rng []), (9010, .plain)]⟩
  | _ => ⟨[], []⟩
def F80_t (k : Nat) : Tab := entT 110 (F110_p k) <| entT 74 (F74_p k) <| entT 108 (F108_p k) <| entT 46 (F46_p k) <| noTab
abbrev F80_E (k : Nat) : Env := env (F80_t k) F80_h .own [] k
abbrev F80_a (a0 : List (den (.int .u8))) (a1 a2 : Int) : List Arg := [.one (.l (.s .ro (.int .u8) a0)), .one (.l (.v (.int .i64 a1))), .one (.l (.v (.int .i64 a2)))]
def F80_r (r : Int × Int × Int × Int × Int × Bool × Bool × Bool × Bool × List (den rng) × List (den (.int .u8)) × Bool) : A × List (List Leaf) := (.tup [(true, [.v (.int .i64 r.1), .v (.int .i64 r.2.1), .v (.int .i64 r.2.2.1), .v (.int .i64 r.2.2.2.1), .v (.int .i64 r.2.2.2.2.1), .v (.bool r.2.2.2.2.2.1), .v (.bool r.2.2.2.2.2.2.1), .v (.bool r.2.2.2.2.2.2.2.1), .v (.bool r.2.2.2.2.2.2.2.2.1), .s .own rng r.2.2.2.2.2.2.2.2.2.1, .s .own (.int .u8) r.2.2.2.2.2.2.2.2.2.2.1]), (false, [.v (.bool r.2.2.2.2.2.2.2.2.2.2.2)])], [])
def F80_s0 (a0 : List (den (.int .u8))) (a1 a2 : Int) (x10_0 x62_0 m9002_0 m9003_0 : Int) (m9009_0 : List (den rng)) : St := ⟨(.one (.s .ro (.int .u8) a0)) :: (.one (.v (.int .i64 a1))) :: (.one (.v (.int .i64 a2))) :: dz 3 ((.one (.ptr (.cell 6000) 11 0)) :: (.one .d) :: (.one .d) :: (.one (.ptr (.cell 9000) 11 0)) :: (.one (.v (.int .i64 x10_0))) :: dz 50 ((.one (.v (.int .i64 (IntKind.i64.wrap (atI a0 8))))) :: (.one (.v (.int .i64 x62_0))) :: dz 35 [])), [(6000, ⟨.v (.int .i64 0), 0, 0⟩), (6001, ⟨.v (.int .i64 0), 0, 0⟩), (6002, ⟨.v (.int .i64 0), 0, 0⟩), (6003, ⟨.v (.int .i64 0), 0, 0⟩), (6004, ⟨.v (.int .i64 0), 0, 0⟩), (6005, ⟨.v (.bool false), 0, 0⟩), (6006, ⟨.v (.bool false), 0, 0⟩), (6007, ⟨.v (.bool false), 0, 0⟩), (6008, ⟨.v (.bool false), 0, 0⟩), (6009, ⟨.s .own rng [], 0, 0⟩), (6010, ⟨.s .own (.int .u8) [], 0, 0⟩), (9000, ⟨.v (.int .i64 (IntKind.i64.wrap (atI a0 0))), 0, 0⟩), (9001, ⟨.v (.int .i64 (IntKind.i64.wrap (atI a0 1))), 0, 0⟩), (9002, ⟨.v (.int .i64 m9002_0), 0, 0⟩), (9003, ⟨.v (.int .i64 m9003_0), 0, 0⟩), (9004, ⟨.v (.int .i64 (IntKind.i64.wrap (atI a0 6))), 0, 0⟩), (9005, ⟨.v (.bool ((bitsOf .and .u8 (atI a0 7) 1) != 0)), 0, 0⟩), (9006, ⟨.v (.bool ((bitsOf .and .u8 (atI a0 7) 2) != 0)), 0, 0⟩), (9007, ⟨.v (.bool ((bitsOf .and .u8 (atI a0 7) 4) != 0)), 0, 0⟩), (9008, ⟨.v (.bool ((bitsOf .and .u8 (atI a0 7) 8) != 0)), 0, 0⟩), (9009, ⟨.s .own rng m9009_0, 0, 0⟩), (9010, ⟨.s .own (.int .u8) [], 0, 0⟩)]⟩
def F80_l0_T {β : Type} (k : Nat) (a0 : List (den (.int .u8))) (a1 a2 : Int) (NX : Int → Int → Int → Int → List (den rng) → Option β) (RET : (Int × Int × Int × Int × Int × Bool × Bool × Bool × Bool × List (den rng) × List (den (.int .u8)) × Bool) → Option β) (x10_0 x62_0 m9002_0 m9003_0 : Int) (m9009_0 : List (den rng)) : Option β := cond (decide (x62_0 < (IntKind.i64.wrap (atI a0 8)))) ((F110 k a0 x10_0 2).bind fun b3 => (F110 k a0 (IntKind.i64.wrap (x10_0 + 2)) 2).bind fun b4 => cond (decide ((m9009_0.length + [(b3, b4)].length) * 16 ≤ 140737488355328)) (NX (IntKind.i64.wrap (x10_0 + 4)) (IntKind.i64.wrap (x62_0 + 1)) m9002_0 m9003_0 (m9009_0 ++ [(b3, b4)])) none) (cond (decide (0 ≤ (IntKind.i64.wrap (((a0.length : Nat) : Int) - 2))) && decide ((IntKind.i64.wrap (((a0.length : Nat) : Int) - 2)) ≤ ((a0.length : Nat) : Int))) (cond (decide (0 ≤ (IntKind.i64.wrap (x10_0 + 1))) && decide ((IntKind.i64.wrap (x10_0 + 1)) ≤ (IntKind.i64.wrap (((a0.length : Nat) : Int) - 2)))) ((F74 k (IntKind.i64.wrap (atI a0 0)) (IntKind.i64.wrap (atI a0 1)) m9002_0 m9003_0 (IntKind.i64.wrap (atI a0 6)) ((bitsOf .and .u8 (atI a0 7) 1) != 0) ((bitsOf .and .u8 (atI a0 7) 2) != 0) ((bitsOf .and .u8 (atI a0 7) 4) != 0) ((bitsOf .and .u8 (atI a0 7) 8) != 0) m9009_0 ((a0.take ((IntKind.i64.wrap (((a0.length : Nat) : Int) - 2)).toNat)).drop ((IntKind.i64.wrap (x10_0 + 1)).toNat)) a1 a2).bind fun b5 => (F108 k b5 a0).bind fun b6 => cond (!b6) (RET (0, 0, 0, 0, 0, false, false, false, false, [], [], false)) ((F46 k (IntKind.i64.wrap (atI a0 0)) (IntKind.i64.wrap (atI a0 1)) m9002_0 m9003_0 (IntKind.i64.wrap (atI a0 6)) ((bitsOf .and .u8 (atI a0 7) 1) != 0) ((bitsOf .and .u8 (atI a0 7) 2) != 0) ((bitsOf .and .u8 (atI a0 7) 4) != 0) ((bitsOf .and .u8 (atI a0 7) 8) != 0) m9009_0 ((a0.take ((IntKind.i64.wrap (((a0.length : Nat) : Int) - 2)).toNat)).drop ((IntKind.i64.wrap (x10_0 + 1)).toNat))).bind fun b7 => RET (b7.1, b7.2.1, b7.2.2.1, b7.2.2.2.1, b7.2.2.2.2.1, b7.2.2.2.2.2.1, b7.2.2.2.2.2.2.1, b7.2.2.2.2.2.2.2.1, b7.2.2.2.2.2.2.2.2.1, b7.2.2.2.2.2.2.2.2.2.1, b7.2.2.2.2.2.2.2.2.2.2, true))) none) none)
def F80_l0 (k : Nat) (a0 : List (den (.int .u8))) (a1 a2 : Int) : Nat → Int → Int → Int → Int → List (den rng) → Option (Int × Int × Int × Int × Int × Bool × Bool × Bool × Bool × List (den rng) × List (den (.int .u8)) × Bool)
  | 0, _, _, _, _, _ => none
  | n + 1, x10_0, x62_0, m9002_0, m9003_0, m9009_0 => F80_l0_T k a0 a1 a2 (fun x10_0 x62_0 m9002_0 m9003_0 m9009_0 => F80_l0 k a0 a1 a2 n x10_0 x62_0 m9002_0 m9003_0 m9009_0) some x10_0 x62_0 m9002_0 m9003_0 m9009_0
theorem F80_l0_rd {β : Type} (k n : Nat) (a0 : List (den (.int .u8))) (a1 a2 : Int) (x10_0 x62_0 m9002_0 m9003_0 : Int) (m9009_0 : List (den rng)) (K : A × List (List Leaf) → Option β) :
    loopG (F80_E k) Try.f80 [1, 1, 1, 1, 1, 0, 1, 0] 0 (kontAt (F80_E k) [1, 1, 1, 1, 1, 0, 1, 0] (bodyOf Try.f80) 0 (endC (F80_E k) Try.f80 (F80_a a0 a1 a2) K)) (n + 1) (F80_s0 a0 a1 a2 x10_0 x62_0 m9002_0 m9003_0 m9009_0) =
    F80_l0_T k a0 a1 a2 (fun x10_0 x62_0 m9002_0 m9003_0 m9009_0 => loopG (F80_E k) Try.f80 [1, 1, 1, 1, 1, 0, 1, 0] 0 (kontAt (F80_E k) [1, 1, 1, 1, 1, 0, 1, 0] (bodyOf Try.f80) 0 (endC (F80_E k) Try.f80 (F80_a a0 a1 a2) K)) n (F80_s0 a0 a1 a2 x10_0 x62_0 m9002_0 m9003_0 m9009_0)) (fun r => K (F80_r r)) x10_0 x62_0 m9002_0 m9003_0 m9009_0 := by kernel_rfl
theorem F80_l0_lp {β : Type} (k : Nat) (a0 : List (den (.int .u8))) (a1 a2 : Int) (K : A × List (List Leaf) → Option β) (n : Nat) : ∀ (x10_0 x62_0 m9002_0 m9003_0 : Int) (m9009_0 : List (den rng)), loopG (F80_E k) Try.f80 [1, 1, 1, 1, 1, 0, 1, 0] 0 (kontAt (F80_E k) [1, 1, 1, 1, 1, 0, 1, 0] (bodyOf Try.f80) 0 (endC (F80_E k) Try.f80 (F80_a a0 a1 a2) K)) n (F80_s0 a0 a1 a2 x10_0 x62_0 m9002_0 m9003_0 m9009_0) =
    (F80_l0 k a0 a1 a2 n x10_0 x62_0 m9002_0 m9003_0 m9009_0).bind fun r => K (F80_r r) := by
  induction n with
  | zero => intros; rfl
  | succ n ih =>
    intros
    rw [F80_l0_rd, F80_l0]
    simp only [F80_l0_T, bind_cond, Option.bind_assoc, Option.bind_some, Option.bind_none, Option.bind_fun_some, ih]
def F80_T {β : Type} (k : Nat) (a0 : List (den (.int .u8))) (a1 a2 : Int) (LP0 : Int → Int → Int → Int → List (den rng) → Option β) (RET : (Int × Int × Int × Int × Int × Bool × Bool × Bool × Bool × List (den rng) × List (den (.int .u8)) × Bool) → Option β) : Option β := cond (decide (((a0.length : Nat) : Int) < 12)) (RET (0, 0, 0, 0, 0, false, false, false, false, [], [], false)) (cond (decide (8 < ((a0.length : Nat) : Int))) (cond (decide (((a0.length : Nat) : Int) < (IntKind.i64.wrap (12 + (IntKind.i64.wrap (4 * (IntKind.i64.wrap (atI a0 8)))))))) (RET (0, 0, 0, 0, 0, false, false, false, false, [], [], false)) (cond (decide (7 < ((a0.length : Nat) : Int))) (cond (decide (0 < ((a0.length : Nat) : Int))) (cond (decide (1 < ((a0.length : Nat) : Int))) ((F110 k a0 2 2).bind fun b1 => (F110 k a0 4 2).bind fun b2 => cond (decide (6 < ((a0.length : Nat) : Int))) (cond (decide (8 < ((a0.length : Nat) : Int))) (LP0 9 0 b1 b2 []) none) none) none) none) none)) none)
def F80 (k : Nat) (a0 : List (den (.int .u8))) (a1 a2 : Int) : Option (Int × Int × Int × Int × Int × Bool × Bool × Bool × Bool × List (den rng) × List (den (.int .u8)) × Bool) := F80_T k a0 a1 a2 (fun x10_0 x62_0 m9002_0 m9003_0 m9009_0 => F80_l0 k a0 a1 a2 k x10_0 x62_0 m9002_0 m9003_0 m9009_0) some
theorem F80_st {β : Type} (k : Nat) (a0 : List (den (.int .u8))) (a1 a2 : Int) (K : A × List (List Leaf) → Option β) : evalF (F80_E k) Try.f80 (F80_a a0 a1 a2) K =
    F80_T k a0 a1 a2 (fun x10_0 x62_0 m9002_0 m9003_0 m9009_0 => loopG (F80_E k) Try.f80 [1, 1, 1, 1, 1, 0, 1, 0] 0 (kontAt (F80_E k) [1, 1, 1, 1, 1, 0, 1, 0] (bodyOf Try.f80) 0 (endC (F80_E k) Try.f80 (F80_a a0 a1 a2) K)) k (F80_s0 a0 a1 a2 x10_0 x62_0 m9002_0 m9003_0 m9009_0)) (fun r => K (F80_r r)) := by kernel_rfl
theorem F80_ev {β : Type} (k : Nat) (a0 : List (den (.int .u8))) (a1 a2 : Int) (K : A × List (List Leaf) → Option β) : evalF (F80_E k) Try.f80 (F80_a a0 a1 a2) K = (F80 k a0 a1 a2).bind fun r => K (F80_r r) := by
  rw [F80_st, F80]
  simp only [F80_T, bind_cond, Option.bind_assoc, Option.bind_some, Option.bind_none, Option.bind_fun_some, F80_l0_lp]
theorem F80_tOk (k : Nat) : TabFn Try.prog (F80_t k) := .ent (F110_q k) F110_f (.ent (F74_q k) F74_f (.ent (F108_q k) F108_f (.ent (F46_q k) F46_f (.none))))
theorem F80_con (k : Nat) (a0 : List (den (.int .u8))) (a1 a2 : Int) : Contract Try.prog 80 (F80_a a0 a1 a2) ⟨F80 k a0 a1 a2, F80_r⟩ := con_of (envOk (F80_tOk k) _ _ _ _) mixed Try.func80 rfl rfl (F80_ev k a0 a1 a2 some)
def F80_sh : List AK := [.one (.l (.sl .ro (.int .u8))), .one (.l (.int .i64)), .one (.l (.int .i64))]
def F80_p (k : Nat) : List Arg → Option CR := cle F80_sh fun x => ⟨F80 k x.1 x.2.1 x.2.2.1, F80_r⟩
theorem F80_q (k : Nat) : ∀ xs cr, F80_p k xs = some cr → Contract Try.prog 80 xs cr := cle_ok fun x => F80_con k _ _ _
theorem F80_f : FnOk Try.prog 80 := .of (by kernel_rfl)
def F36_t (k : Nat) : Tab := entT 77 (F77_p k) <| entT 78 (F78_p k) <| entT 79 (F79_p k) <| entT 80 (F80_p k) <| noTab
abbrev F36_E (k : Nat) : Env := env (F36_t k) noHint .own [] k
abbrev F36_a (a0 : List (den (.int .u8))) (a1 a2 : Int) : List Arg := [.one (.l (.s .ro (.int .u8) a0)), .one (.l (.v (.int .i64 a1))), .one (.l (.v (.int .i64 a2)))]
def F36_r (r : Int × Int × Int × Int × Int × Bool × Bool × Bool × Bool × List (den rng) × List (den (.int .u8)) × Int × Bool) : A × List (List Leaf) := (.tup [(true, [.v (.int .i64 r.1), .v (.int .i64 r.2.1), .v (.int .i64 r.2.2.1), .v (.int .i64 r.2.2.2.1), .v (.int .i64 r.2.2.2.2.1), .v (.bool r.2.2.2.2.2.1), .v (.bool r.2.2.2.2.2.2.1), .v (.bool r.2.2.2.2.2.2.2.1), .v (.bool r.2.2.2.2.2.2.2.2.1), .s .own rng r.2.2.2.2.2.2.2.2.2.1, .s .own (.int .u8) r.2.2.2.2.2.2.2.2.2.2.1]), (false, [.v (.int .i64 r.2.2.2.2.2.2.2.2.2.2.2.1)]), (false, [.v (.bool r.2.2.2.2.2.2.2.2.2.2.2.2)])], [])
def F36_T {β : Type} (k : Nat) (a0 : List (den (.int .u8))) (a1 a2 : Int) (RET : (Int × Int × Int × Int × Int × Bool × Bool × Bool × Bool × List (den rng) × List (den (.int .u8)) × Int × Bool) → Option β) : Option β := (F77 k a0).bind fun b1 => cond (!b1.2.2.2.2) (RET (0, 0, 0, 0, 0, false, false, false, false, [], [], 0, false)) ((F78 k b1.1 b1.2.1 b1.2.2.1 b1.2.2.2.1 a2).bind fun b2 => cond (!b2) (RET (0, 0, 0, 0, 0, false, false, false, false, [], [], 0, false)) (cond (b1.2.2.1 != 8) (RET (0, 0, 0, 0, 0, false, false, false, false, [], [], 0, false)) ((F79 k b1.2.2.2.1).bind fun b3 => cond (!b3.2.2.2.2.2.2.2.2.2) (RET (0, 0, 0, 0, 0, false, false, false, false, [], [], 0, false)) (cond (b3.2.1 != a1) (RET (0, 0, 0, 0, 0, false, false, false, false, [], [], 0, false)) (cond (b3.2.2.1 != 6) (RET (0, 0, 0, 0, 0, false, false, false, false, [], [], 0, false)) (cond (b3.2.2.2.2.2.1 != 0) (RET (0, 0, 0, 0, 0, false, false, false, false, [], [], 0, false)) (cond b3.2.2.2.2.2.2.1 (RET (0, 0, 0, 0, 0, false, false, false, false, [], [], 0, false)) ((F80 k b3.2.2.2.2.2.2.2.2.1 b3.1 a1).bind fun b4 => cond (!b4.2.2.2.2.2.2.2.2.2.2.2) (RET (0, 0, 0, 0, 0, false, false, false, false, [], [], 0, false)) (RET (b4.1, b4.2.1, b4.2.2.1, b4.2.2.2.1, b4.2.2.2.2.1, b4.2.2.2.2.2.1, b4.2.2.2.2.2.2.1, b4.2.2.2.2.2.2.2.1, b4.2.2.2.2.2.2.2.2.1, b4.2.2.2.2.2.2.2.2.2.1, b4.2.2.2.2.2.2.2.2.2.2.1, b3.1, true))))))))))
def F36 (k : Nat) (a0 : List (den (.int .u8))) (a1 a2 : Int) : Option (Int × Int × Int × Int × Int × Bool × Bool × Bool × Bool × List (den rng) × List (den (.int .u8)) × Int × Bool) := F36_T k a0 a1 a2 some
theorem F36_st {β : Type} (k : Nat) (a0 : List (den (.int .u8))) (a1 a2 : Int) (K : A × List (List Leaf) → Option β) : evalF (F36_E k) Try.f36 (F36_a a0 a1 a2) K =
    F36_T k a0 a1 a2 (fun r => K (F36_r r)) := by kernel_rfl
theorem F36_ev {β : Type} (k : Nat) (a0 : List (den (.int .u8))) (a1 a2 : Int) (K : A × List (List Leaf) → Option β) : evalF (F36_E k) Try.f36 (F36_a a0 a1 a2) K = (F36 k a0 a1 a2).bind fun r => K (F36_r r) := by
  rw [F36_st, F36]
  simp only [F36_T, bind_cond, Option.bind_assoc, Option.bind_some, Option.bind_none, Option.bind_fun_some]
theorem F36_tOk (k : Nat) : TabFn Try.prog (F36_t k) := .ent (F77_q k) F77_f (.ent (F78_q k) F78_f (.ent (F79_q k) F79_f (.ent (F80_q k) F80_f (.none))))
theorem F36_con (k : Nat) (a0 : List (den (.int .u8))) (a1 a2 : Int) : Contract Try.prog 36 (F36_a a0 a1 a2) ⟨F36 k a0 a1 a2, F36_r⟩ := con_of (envOk (F36_tOk k) _ _ _ _) mixed Try.func36 rfl rfl (F36_ev k a0 a1 a2 some)
def F36_sh : List AK := [.one (.l (.sl .ro (.int .u8))), .one (.l (.int .i64)), .one (.l (.int .i64))]
def F36_p (k : Nat) : List Arg → Option CR := cle F36_sh fun x => ⟨F36 k x.1 x.2.1 x.2.2.1, F36_r⟩
theorem F36_q (k : Nat) : ∀ xs cr, F36_p k xs = some cr → Contract Try.prog 36 xs cr := cle_ok fun x => F36_con k _ _ _
theorem F36_f : FnOk Try.prog 36 := .of (by kernel_rfl)
abbrev F41_E (k : Nat) : Env := env noTab noHint .own [] k
abbrev F41_a (a0 : List (den (.int .u8))) : List Arg := [.one (.l (.s .ro (.int .u8) a0))]
def F41_r (r : List (den (.int .u8)) × Int) : A × List (List Leaf) := (.one (.ptr (.cell 0) 2 0), [[.s .ro (.int .u8) r.1, .v (.int .i64 r.2)]])
def F41_T {β : Type} (k : Nat) (a0 : List (den (.int .u8))) (RET : (List (den (.int .u8)) × Int) → Option β) : Option β := cond (decide (((a0.length : Nat) : Int) > 2000)) (cond (decide (0 ≤ 2000) && decide (2000 ≤ ((a0.length : Nat) : Int))) (RET (a0.take 2000, 0)) none) (RET (a0, 0))
def F41 (k : Nat) (a0 : List (den (.int .u8))) : Option (List (den (.int .u8)) × Int) := F41_T k a0 some
theorem F41_st {β : Type} (k : Nat) (a0 : List (den (.int .u8))) (K : A × List (List Leaf) → Option β) : evalF (F41_E k) Try.f41 (F41_a a0) K =
    F41_T k a0 (fun r => K (F41_r r)) := by kernel_rfl
theorem F41_ev {β : Type} (k : Nat) (a0 : List (den (.int .u8))) (K : A × List (List Leaf) → Option β) : evalF (F41_E k) Try.f41 (F41_a a0) K = (F41 k a0).bind fun r => K (F41_r r) := by
  rw [F41_st, F41]
  simp only [F41_T, bind_cond, Option.bind_assoc, Option.bind_some, Option.bind_none, Option.bind_fun_some]
theorem F41_con (k : Nat) (a0 : List (den (.int .u8))) : Contract Try.prog 41 (F41_a a0) ⟨F41 k a0, F41_r⟩ := con_of (envOk .none _ _ _ _) mixed Try.func41 rfl rfl (F41_ev k a0 some)
def F41_sh : List AK := [.one (.l (.sl .ro (.int .u8)))]
def F41_p (k : Nat) : List Arg → Option CR := cle F41_sh fun x => ⟨F41 k x.1, F41_r⟩
theorem F41_q (k : Nat) : ∀ xs cr, F41_p k xs = some cr → Contract Try.prog 41 xs cr := cle_ok fun x => F41_con k _
theorem F41_f : FnOk Try.prog 41 := .of (by kernel_rfl)
abbrev F43_E (k : Nat) : Env := env noTab noHint .own [(false, 0), (false, 1)] k
abbrev F43_a (a0_0 : List (den (.int .u8))) (a0_1 a1 : Int) : List Arg := [.one (.p [.s .ro (.int .u8) a0_0, .v (.int .i64 a0_1)]), .one (.l (.v (.int .i64 a1)))]
def F43_r (r : Int × List (den (.int .u8)) × Int) : A × List (List Leaf) := (.one (.v (.int .i64 r.1)), [[.s .ro (.int .u8) r.2.1, .v (.int .i64 r.2.2)]])
def F43_T {β : Type} (k : Nat) (a0_0 : List (den (.int .u8))) (a0_1 a1 : Int) (RET : (Int × List (den (.int .u8)) × Int) → Option β) : Option β := cond (decide (a1 < 1)) (RET (0, a0_0, IntKind.i64.wrap (a0_1 + 1))) (cond (((a0_0.length : Nat) : Int) == 0) (RET (0, a0_0, IntKind.i64.wrap (a0_1 + 1))) (cond (decide ((IntKind.i64.wrap ((IntKind.i64.wrap (a0_1 + 1)) - 1)) < ((a0_0.length : Nat) : Int))) (cond (decide (0 ≤ (IntKind.i64.wrap ((IntKind.i64.wrap (a0_1 + 1)) - 1)))) (cond (decide ((IntKind.i64.wrap ((IntKind.i64.wrap (a0_1 + 1)) - 1)) < ((a0_0.length : Nat) : Int))) (cond (decide (a1 = 0)) none (RET (((IntKind.i64.wrap (atI a0_0 (IntKind.i64.wrap ((IntKind.i64.wrap (a0_1 + 1)) - 1)))).tmod a1), a0_0, IntKind.i64.wrap (a0_1 + 1)))) none) none) (cond (decide (((a0_0.length : Nat) : Int) = 0)) none (cond (decide (0 ≤ ((IntKind.i64.wrap ((IntKind.i64.wrap (a0_1 + 1)) - 1)).tmod ((a0_0.length : Nat) : Int)))) (cond (decide (((IntKind.i64.wrap ((IntKind.i64.wrap (a0_1 + 1)) - 1)).tmod ((a0_0.length : Nat) : Int)) < ((a0_0.length : Nat) : Int))) (cond (decide (((a0_0.length : Nat) : Int) = 0)) none (cond (decide (0 ≤ ((IntKind.i64.wrap ((IntKind.i64.wrap ((IntKind.i64.wrap ((IntKind.i64.wrap (a0_1 + 1)) - 1)) * 7)) + 3)).tmod ((a0_0.length : Nat) : Int)))) (cond (decide (((IntKind.i64.wrap ((IntKind.i64.wrap ((IntKind.i64.wrap ((IntKind.i64.wrap (a0_1 + 1)) - 1)) * 7)) + 3)).tmod ((a0_0.length : Nat) : Int)) < ((a0_0.length : Nat) : Int))) (cond (decide (((a0_0.length : Nat) : Int) = 0)) none (cond (decide (a1 = 0)) none (RET (((bitsOf .xor .i64 (IntKind.i64.wrap ((IntKind.i64.wrap ((IntKind.i64.wrap ((IntKind.i64.wrap ((IntKind.i64.wrap (atI a0_0 ((IntKind.i64.wrap ((IntKind.i64.wrap (a0_1 + 1)) - 1)).tmod ((a0_0.length : Nat) : Int)))) * 131)) + (IntKind.i64.wrap ((IntKind.i64.wrap (atI a0_0 ((IntKind.i64.wrap ((IntKind.i64.wrap ((IntKind.i64.wrap ((IntKind.i64.wrap (a0_1 + 1)) - 1)) * 7)) + 3)).tmod ((a0_0.length : Nat) : Int)))) * 1117)))) + (IntKind.i64.wrap ((IntKind.i64.wrap ((IntKind.i64.wrap (a0_1 + 1)) - 1)) * 29)))) + (IntKind.i64.wrap ((IntKind.i64.wrap ((IntKind.i64.wrap ((IntKind.i64.wrap (a0_1 + 1)) - 1)).tdiv ((a0_0.length : Nat) : Int))) * 53)))) (IntKind.i64.wrap ((IntKind.i64.wrap ((IntKind.i64.wrap ((IntKind.i64.wrap ((IntKind.i64.wrap ((IntKind.i64.wrap (atI a0_0 ((IntKind.i64.wrap ((IntKind.i64.wrap (a0_1 + 1)) - 1)).tmod ((a0_0.length : Nat) : Int)))) * 131)) + (IntKind.i64.wrap ((IntKind.i64.wrap (atI a0_0 ((IntKind.i64.wrap ((IntKind.i64.wrap ((IntKind.i64.wrap ((IntKind.i64.wrap (a0_1 + 1)) - 1)) * 7)) + 3)).tmod ((a0_0.length : Nat) : Int)))) * 1117)))) + (IntKind.i64.wrap ((IntKind.i64.wrap ((IntKind.i64.wrap (a0_1 + 1)) - 1)) * 29)))) + (IntKind.i64.wrap ((IntKind.i64.wrap ((IntKind.i64.wrap ((IntKind.i64.wrap (a0_1 + 1)) - 1)).tdiv ((a0_0.length : Nat) : Int))) * 53)))).tdiv 64))).tmod a1), a0_0, IntKind.i64.wrap (a0_1 + 1))))) none) none)) none) none))))
def F43 (k : Nat) (a0_0 : List (den (.int .u8))) (a0_1 a1 : Int) : Option (Int × List (den (.int .u8)) × Int) := F43_T k a0_0 a0_1 a1 some
theorem F43_st {β : Type} (k : Nat) (a0_0 : List (den (.int .u8))) (a0_1 a1 : Int) (K : A × List (List Leaf) → Option β) : evalF (F43_E k) Try.f43 (F43_a a0_0 a0_1 a1) K =
    F43_T k a0_0 a0_1 a1 (fun r => K (F43_r r)) := by kernel_rfl
theorem F43_ev {β : Type} (k : Nat) (a0_0 : List (den (.int .u8))) (a0_1 a1 : Int) (K : A × List (List Leaf) → Option β) : evalF (F43_E k) Try.f43 (F43_a a0_0 a0_1 a1) K = (F43 k a0_0 a0_1 a1).bind fun r => K (F43_r r) := by
  rw [F43_st, F43]
  simp only [F43_T, bind_cond, Option.bind_assoc, Option.bind_some, Option.bind_none, Option.bind_fun_some]
theorem F43_con (k : Nat) (a0_0 : List (den (.int .u8))) (a0_1 a1 : Int) : Contract Try.prog 43 (F43_a a0_0 a0_1 a1) ⟨F43 k a0_0 a0_1 a1, F43_r⟩ := con_of (envOk .none _ _ _ _) mixed Try.func43 rfl rfl (F43_ev k a0_0 a0_1 a1 some)
def F43_sh : List AK := [.p [.sl .ro (.int .u8), .int .i64], .one (.l (.int .i64))]
def F43_p (k : Nat) : List Arg → Option CR := cle F43_sh fun x => ⟨F43 k x.1.1 x.1.2.1 x.2.1, F43_r⟩
theorem F43_q (k : Nat) : ∀ xs cr, F43_p k xs = some cr → Contract Try.prog 43 xs cr := cle_ok fun x => F43_con k _ _ _
theorem F43_f : FnOk Try.prog 43 := .of (by kernel_rfl)
def F85_t (k : Nat) : Tab := entT 43 (F43_p k) <| noTab
abbrev F85_E (k : Nat) : Env := env (F85_t k) noHint .own [(false, 0), (false, 1)] k
abbrev F85_a (a0_0 : List (den (.int .u8))) (a0_1 : Int) : List Arg := [.one (.p [.s .ro (.int .u8) a0_0, .v (.int .i64 a0_1)])]
def F85_r (r : Int × List (den (.int .u8)) × Int) : A × List (List Leaf) := (.one (.v (.int .i64 r.1)), [[.s .ro (.int .u8) r.2.1, .v (.int .i64 r.2.2)]])
def F85_T {β : Type} (k : Nat) (a0_0 : List (den (.int .u8))) (a0_1 : Int) (RET : (Int × List (den (.int .u8)) × Int) → Option β) : Option β := (F43 k a0_0 a0_1 9).bind fun b1 => (F43 k b1.2.1 b1.2.2 9).bind fun b2 => (F43 k b2.2.1 b2.2.2 5).bind fun b3 => (F43 k b3.2.1 b3.2.2 256).bind fun b4 => (F43 k b4.2.1 b4.2.2 256).bind fun b5 => (F43 k b5.2.1 b5.2.2 4).bind fun b6 => cond (decide (0 ≤ b6.1)) (cond (decide (b6.1 < (([b1.1, IntKind.i64.wrap (65535 - b2.1), IntKind.i64.wrap ((IntKind.i64.wrap (32768 + b3.1)) - 2), IntKind.i64.wrap ((IntKind.i64.wrap (b4.1 * 256)) + b5.1)].length : Nat) : Int))) (RET (atI (t := (.int .i64)) [b1.1, IntKind.i64.wrap (65535 - b2.1), IntKind.i64.wrap ((IntKind.i64.wrap (32768 + b3.1)) - 2), IntKind.i64.wrap ((IntKind.i64.wrap (b4.1 * 256)) + b5.1)] b6.1, b6.2.1, b6.2.2)) none) none
def F85 (k : Nat) (a0_0 : List (den (.int .u8))) (a0_1 : Int) : Option (Int × List (den (.int .u8)) × Int) := F85_T k a0_0 a0_1 some
theorem F85_st {β : Type} (k : Nat) (a0_0 : List (den (.int .u8))) (a0_1 : Int) (K : A × List (List Leaf) → Option β) : evalF (F85_E k) Try.f85 (F85_a a0_0 a0_1) K =
    F85_T k a0_0 a0_1 (fun r => K (F85_r r)) := by kernel_rfl
theorem F85_ev {β : Type} (k : Nat) (a0_0 : List (den (.int .u8))) (a0_1 : Int) (K : A × List (List Leaf) → Option β) : evalF (F85_E k) Try.f85 (F85_a a0_0 a0_1) K = (F85 k a0_0 a0_1).bind fun r => K (F85_r r) := by
  rw [F85_st, F85]
  simp only [F85_T, bind_cond, Option.bind_assoc, Option.bind_some, Option.bind_none, Option.bind_fun_some]
theorem F85_tOk (k : Nat) : TabFn Try.prog (F85_t k) := .ent (F43_q k) F43_f (.none)
theorem F85_con (k : Nat) (a0_0 : List (den (.int .u8))) (a0_1 : Int) : Contract Try.prog 85 (F85_a a0_0 a0_1) ⟨F85 k a0_0 a0_1, F85_r⟩ := con_of (envOk (F85_tOk k) _ _ _ _) mixed Try.func85 rfl rfl (F85_ev k a0_0 a0_1 some)
def F85_sh : List AK := [.p [.sl .ro (.int .u8), .int .i64]]
def F85_p (k : Nat) : List Arg → Option CR := cle F85_sh fun x => ⟨F85 k x.1.1 x.1.2.1, F85_r⟩
theorem F85_q (k : Nat) : ∀ xs cr, F85_p k xs = some cr → Contract Try.prog 85 xs cr := cle_ok fun x => F85_con k _ _
theorem F85_f : FnOk Try.prog 85 := .of (by kernel_rfl)
def F44_h : Nat → Hint
  | 0 => ⟨[(0, .plain), (1, .plain), (5, .own .own (.int .u8) [])], [(0, .plain), (1, .plain)]⟩
  | _ => ⟨[], []⟩
def F44_t (k : Nat) : Tab := entT 43 (F43_p k) <| noTab
abbrev F44_E (k : Nat) : Env := env (F44_t k) F44_h .own [(false, 0), (false, 1)] k
abbrev F44_a (a0_0 : List (den (.int .u8))) (a0_1 a1 : Int) : List Arg := [.one (.p [.s .ro (.int .u8) a0_0, .v (.int .i64 a0_1)]), .one (.l (.v (.int .i64 a1)))]
def F44_r (r : List (den (.int .u8)) × List (den (.int .u8)) × Int) : A × List (List Leaf) := (.one (.s .own (.int .u8) r.1), [[.s .ro (.int .u8) r.2.1, .v (.int .i64 r.2.2)]])
def F44_s0 (a0_0 : List (den (.int .u8))) (a0_1 a1 : Int) (x1_0 : Int) (m0_0 : List (den (.int .u8))) (m1_0 : Int) (m5900_0 : List (den (.int .u8))) : St := ⟨(.one (.ptr (.cell 0) 2 0)) :: (.one (.v (.int .i64 x1_0))) :: dz 3 ((.one (.a (.cell 5900) 0 0 none)) :: dz 22 []), [(0, ⟨.s .ro (.int .u8) m0_0, 0, 0⟩), (1, ⟨.v (.int .i64 m1_0), 0, 0⟩), (5900, ⟨.s .own (.int .u8) m5900_0, 0, 0⟩)]⟩
def F44_l0_T {β : Type} (k : Nat) (a0_0 : List (den (.int .u8))) (a0_1 a1 : Int) (NX : Int → List (den (.int .u8)) → Int → List (den (.int .u8)) → Option β) (RET : (List (den (.int .u8)) × List (den (.int .u8)) × Int) → Option β) (x1_0 : Int) (m0_0 : List (den (.int .u8))) (m1_0 : Int) (m5900_0 : List (den (.int .u8))) : Option β := cond (decide (x1_0 > 0)) ((F43 k m0_0 m1_0 3).bind fun b1 => cond (b1.1 == 0) ((F43 k b1.2.1 b1.2.2 256).bind fun b2 => cond (decide ((m5900_0.length + [IntKind.u8.wrap (b2.1)].length) * 1 ≤ 140737488355328)) (NX (IntKind.i64.wrap (x1_0 - 1)) b2.2.1 b2.2.2 (m5900_0 ++ [IntKind.u8.wrap (b2.1)])) none) ((F43 k b1.2.1 b1.2.2 3).bind fun b3 => cond (decide ((m5900_0.length + [IntKind.u8.wrap (IntKind.i64.wrap (b3.1 + 97))].length) * 1 ≤ 140737488355328)) (NX (IntKind.i64.wrap (x1_0 - 1)) b3.2.1 b3.2.2 (m5900_0 ++ [IntKind.u8.wrap (IntKind.i64.wrap (b3.1 + 97))])) none)) (RET (m5900_0, m0_0, m1_0))
def F44_l0 (k : Nat) (a0_0 : List (den (.int .u8))) (a0_1 a1 : Int) : Nat → Int → List (den (.int .u8)) → Int → List (den (.int .u8)) → Option (List (den (.int .u8)) × List (den (.int .u8)) × Int)
  | 0, _, _, _, _ => none
  | n + 1, x1_0, m0_0, m1_0, m5900_0 => F44_l0_T k a0_0 a0_1 a1 (fun x1_0 m0_0 m1_0 m5900_0 => F44_l0 k a0_0 a0_1 a1 n x1_0 m0_0 m1_0 m5900_0) some x1_0 m0_0 m1_0 m5900_0
theorem F44_l0_rd {β : Type} (k n : Nat) (a0_0 : List (den (.int .u8))) (a0_1 a1 : Int) (x1_0 : Int) (m0_0 : List (den (.int .u8))) (m1_0 : Int) (m5900_0 : List (den (.int .u8))) (K : A × List (List Leaf) → Option β) :
    loopG (F44_E k) Try.f44 [1, 1, 0, 0] 0 (kontAt (F44_E k) [1, 1, 0, 0] (bodyOf Try.f44) 0 (endC (F44_E k) Try.f44 (F44_a a0_0 a0_1 a1) K)) (n + 1) (F44_s0 a0_0 a0_1 a1 x1_0 m0_0 m1_0 m5900_0) =
    F44_l0_T k a0_0 a0_1 a1 (fun x1_0 m0_0 m1_0 m5900_0 => loopG (F44_E k) Try.f44 [1, 1, 0, 0] 0 (kontAt (F44_E k) [1, 1, 0, 0] (bodyOf Try.f44) 0 (endC (F44_E k) Try.f44 (F44_a a0_0 a0_1 a1) K)) n (F44_s0 a0_0 a0_1 a1 x1_0 m0_0 m1_0 m5900_0)) (fun r => K (F44_r r)) x1_0 m0_0 m1_0 m5900_0 := by kernel_rfl
theorem F44_l0_lp {β : Type} (k : Nat) (a0_0 : List (den (.int .u8))) (a0_1 a1 : Int) (K : A × List (List Leaf) → Option β) (n : Nat) : ∀ (x1_0 : Int) (m0_0 : List (den (.int .u8))) (m1_0 : Int) (m5900_0 : List (den (.int .u8))), loopG (F44_E k) Try.f44 [1, 1, 0, 0] 0 (kontAt (F44_E k) [1, 1, 0, 0] (bodyOf Try.f44) 0 (endC (F44_E k) Try.f44 (F44_a a0_0 a0_1 a1) K)) n (F44_s0 a0_0 a0_1 a1 x1_0 m0_0 m1_0 m5900_0) =
    (F44_l0 k a0_0 a0_1 a1 n x1_0 m0_0 m1_0 m5900_0).bind fun r => K (F44_r r) := by
  induction n with
  | zero => intros; rfl
  | succ n ih =>
    intros
    rw [F44_l0_rd, F44_l0]
    simp only [F44_l0_T, bind_cond, Option.bind_assoc, Option.bind_some, Option.bind_none, Option.bind_fun_some, ih]
def F44_T {β : Type} (k : Nat) (a0_0 : List (den (.int .u8))) (a0_1 a1 : Int) (LP0 : Int → List (den (.int .u8)) → Int → List (den (.int .u8)) → Option β) : Option β := LP0 a1 a0_0 a0_1 []
def F44 (k : Nat) (a0_0 : List (den (.int .u8))) (a0_1 a1 : Int) : Option (List (den (.int .u8)) × List (den (.int .u8)) × Int) := F44_T k a0_0 a0_1 a1 (fun x1_0 m0_0 m1_0 m5900_0 => F44_l0 k a0_0 a0_1 a1 k x1_0 m0_0 m1_0 m5900_0)
theorem F44_st {β : Type} (k : Nat) (a0_0 : List (den (.int .u8))) (a0_1 a1 : Int) (K : A × List (List Leaf) → Option β) : evalF (F44_E k) Try.f44 (F44_a a0_0 a0_1 a1) K =
    F44_T k a0_0 a0_1 a1 (fun x1_0 m0_0 m1_0 m5900_0 => loopG (F44_E k) Try.f44 [1, 1, 0, 0] 0 (kontAt (F44_E k) [1, 1, 0, 0] (bodyOf Try.f44) 0 (endC (F44_E k) Try.f44 (F44_a a0_0 a0_1 a1) K)) k (F44_s0 a0_0 a0_1 a1 x1_0 m0_0 m1_0 m5900_0)) := by kernel_rfl
theorem F44_ev {β : Type} (k : Nat) (a0_0 : List (den (.int .u8))) (a0_1 a1 : Int) (K : A × List (List Leaf) → Option β) : evalF (F44_E k) Try.f44 (F44_a a0_0 a0_1 a1) K = (F44 k a0_0 a0_1 a1).bind fun r => K (F44_r r) := by
  rw [F44_st, F44]
  simp only [F44_T, bind_cond, Option.bind_assoc, Option.bind_some, Option.bind_none, Option.bind_fun_some, F44_l0_lp]
theorem F44_tOk (k : Nat) : TabFn Try.prog (F44_t k) := .ent (F43_q k) F43_f (.none)
theorem F44_con (k : Nat) (a0_0 : List (den (.int .u8))) (a0_1 a1 : Int) : Contract Try.prog 44 (F44_a a0_0 a0_1 a1) ⟨F44 k a0_0 a0_1 a1, F44_r⟩ := con_of (envOk (F44_tOk k) _ _ _ _) mixed Try.func44 rfl rfl (F44_ev k a0_0 a0_1 a1 some)
def F44_sh : List AK := [.p [.sl .ro (.int .u8), .int .i64], .one (.l (.int .i64))]
def F44_p (k : Nat) : List Arg → Option CR := cle F44_sh fun x => ⟨F44 k x.1.1 x.1.2.1 x.2.1, F44_r⟩
theorem F44_q (k : Nat) : ∀ xs cr, F44_p k xs = some cr → Contract Try.prog 44 xs cr := cle_ok fun x => F44_con k _ _ _
theorem F44_f : FnOk Try.prog 44 := .of (by kernel_rfl)
def F86_t (k : Nat) : Tab := entT 43 (F43_p k) <| noTab
abbrev F86_E (k : Nat) : Env := env (F86_t k) noHint .own [(false, 0), (false, 1)] k
abbrev F86_a (a0_0 : List (den (.int .u8))) (a0_1 a1 : Int) : List Arg := [.one (.p [.s .ro (.int .u8) a0_0, .v (.int .i64 a0_1)]), .one (.l (.v (.int .i64 a1)))]
def F86_r (r : Bool × List (den (.int .u8)) × Int) : A × List (List Leaf) := (.one (.v (.bool r.1)), [[.s .ro (.int .u8) r.2.1, .v (.int .i64 r.2.2)]])
def F86_T {β : Type} (k : Nat) (a0_0 : List (den (.int .u8))) (a0_1 a1 : Int) (RET : (Bool × List (den (.int .u8)) × Int) → Option β) : Option β := cond (decide (a1 > 0)) ((F43 k a0_0 a0_1 a1).bind fun b1 => RET ((b1.1 == (IntKind.i64.wrap (a1 - 1))), b1.2.1, b1.2.2)) (RET (false, a0_0, a0_1))
def F86 (k : Nat) (a0_0 : List (den (.int .u8))) (a0_1 a1 : Int) : Option (Bool × List (den (.int .u8)) × Int) := F86_T k a0_0 a0_1 a1 some
theorem F86_st {β : Type} (k : Nat) (a0_0 : List (den (.int .u8))) (a0_1 a1 : Int) (K : A × List (List Leaf) → Option β) : evalF (F86_E k) Try.f86 (F86_a a0_0 a0_1 a1) K =
    F86_T k a0_0 a0_1 a1 (fun r => K (F86_r r)) := by kernel_rfl
theorem F86_ev {β : Type} (k : Nat) (a0_0 : List (den (.int .u8))) (a0_1 a1 : Int) (K : A × List (List Leaf) → Option β) : evalF (F86_E k) Try.f86 (F86_a a0_0 a0_1 a1) K = (F86 k a0_0 a0_1 a1).bind fun r => K (F86_r r) := by
  rw [F86_st, F86]
  simp only [F86_T, bind_cond, Option.bind_assoc, Option.bind_some, Option.bind_none, Option.bind_fun_some]
theorem F86_tOk (k : Nat) : TabFn Try.prog (F86_t k) := .ent (F43_q k) F43_f (.none)
theorem F86_con (k : Nat) (a0_0 : List (den (.int .u8))) (a0_1 a1 : Int) : Contract Try.prog 86 (F86_a a0_0 a0_1 a1) ⟨F86 k a0_0 a0_1 a1, F86_r⟩ := con_of (envOk (F86_tOk k) _ _ _ _) mixed Try.func86 rfl rfl (F86_ev k a0_0 a0_1 a1 some)
def F86_sh : List AK := [.p [.sl .ro (.int .u8), .int .i64], .one (.l (.int .i64))]
def F86_p (k : Nat) : List Arg → Option CR := cle F86_sh fun x => ⟨F86 k x.1.1 x.1.2.1 x.2.1, F86_r⟩
theorem F86_q (k : Nat) : ∀ xs cr, F86_p k xs = some cr → Contract Try.prog 86 xs cr := cle_ok fun x => F86_con k _ _ _
theorem F86_f : FnOk Try.prog 86 := .of (by kernel_rfl)
def F42_h : Nat → Hint
  | 0 => ⟨[(0, .plain), (1, .plain), (4, .plain), (5, .plain), (6, .plain)], [(0, .plain), (1, .plain), (4000, .plain), (4001, .plain), (4002, .plain), (4003, .plain), (4004, .plain), (4005, .plain), (4006, .plain), (4007, .plain), (4008, .plain), (4009, .plain), (4010, .plain), (5000, .plain), (5001, .plain), (5002, .plain), (5003, .plain), (5004, .plain), (5005, .plain), (5006, .plain), (5007, .plain), (5008, .plain), (5009, .own .own rng []), (5010, .own .own (.int .u8) []), (18000, .plain)]⟩
  | _ => ⟨[], []⟩
def F42_t (k : Nat) : Tab := entT 43 (F43_p k) <| entT 85 (F85_p k) <| entT 44 (F44_p k) <| entT 86 (F86_p k) <| noTab
abbrev F42_E (k : Nat) : Env := env (F42_t k) F42_h .own [(false, 0), (false, 1)] k
abbrev F42_a (a0_0 : List (den (.int .u8))) (a0_1 a1 : Int) : List Arg := [.one (.p [.s .ro (.int .u8) a0_0, .v (.int .i64 a0_1)]), .one (.l (.v (.int .i64 a1)))]
def F42_r (r : Int × Int × Int × Int × Int × Bool × Bool × Bool × Bool × List (den rng) × List (den (.int .u8)) × List (den (.int .u8)) × Int) : A × List (List Leaf) := (.agg [.v (.int .i64 r.1), .v (.int .i64 r.2.1), .v (.int .i64 r.2.2.1), .v (.int .i64 r.2.2.2.1), .v (.int .i64 r.2.2.2.2.1), .v (.bool r.2.2.2.2.2.1), .v (.bool r.2.2.2.2.2.2.1), .v (.bool r.2.2.2.2.2.2.2.1), .v (.bool r.2.2.2.2.2.2.2.2.1), .s .own rng r.2.2.2.2.2.2.2.2.2.1, .s .own (.int .u8) r.2.2.2.2.2.2.2.2.2.2.1], [[.s .ro (.int .u8) r.2.2.2.2.2.2.2.2.2.2.2.1, .v (.int .i64 r.2.2.2.2.2.2.2.2.2.2.2.2)]])
def F42_s0 (a0_0 : List (den (.int .u8))) (a0_1 a1 : Int) (x6_0 : Int) (m0_0 : List (den (.int .u8))) (m1_0 m5000_0 m5001_0 m5002_0 m5003_0 m5004_0 : Int) (m5005_0 m5007_0 : Bool) (m5009_0 : List (den rng)) (m5010_0 : List (den (.int .u8))) : St := ⟨(.one (.ptr (.cell 0) 2 0)) :: (.one (.v (.int .i64 a1))) :: (.one .d) :: (.one .d) :: (.one (.ptr (.cell 4000) 11 0)) :: (.one (.ptr (.cell 5000) 11 0)) :: (.one (.v (.int .i64 x6_0))) :: dz 83 [], [(0, ⟨.s .ro (.int .u8) m0_0, 0, 0⟩), (1, ⟨.v (.int .i64 m1_0), 0, 0⟩), (4000, ⟨.v (.int .i64 0), 0, 0⟩), (4001, ⟨.v (.int .i64 0), 0, 0⟩), (4002, ⟨.v (.int .i64 0), 0, 0⟩), (4003, ⟨.v (.int .i64 0), 0, 0⟩), (4004, ⟨.v (.int .i64 0), 0, 0⟩), (4005, ⟨.v (.bool false), 0, 0⟩), (4006, ⟨.v (.bool false), 0, 0⟩), (4007, ⟨.v (.bool false), 0, 0⟩), (4008, ⟨.v (.bool false), 0, 0⟩), (4009, ⟨.s .own rng [], 0, 0⟩), (4010, ⟨.s .own (.int .u8) [], 0, 0⟩), (5000, ⟨.v (.int .i64 m5000_0), 0, 0⟩), (5001, ⟨.v (.int .i64 m5001_0), 0, 0⟩), (5002, ⟨.v (.int .i64 m5002_0), 0, 0⟩), (5003, ⟨.v (.int .i64 m5003_0), 0, 0⟩), (5004, ⟨.v (.int .i64 m5004_0), 0, 0⟩), (5005, ⟨.v (.bool m5005_0), 0, 0⟩), (5006, ⟨.v (.bool true), 0, 0⟩), (5007, ⟨.v (.bool m5007_0), 0, 0⟩), (5008, ⟨.v (.bool false), 0, 0⟩), (5009, ⟨.s .own rng m5009_0, 0, 0⟩), (5010, ⟨.s .own (.int .u8) m5010_0, 0, 0⟩), (18000, ⟨.d, 0, 0⟩)]⟩
def F42_l0_T {β : Type} (k : Nat) (a0_0 : List (den (.int .u8))) (a0_1 a1 : Int) (NX : Int → List (den (.int .u8)) → Int → Int → Int → Int → Int → Int → Bool → Bool → List (den rng) → List (den (.int .u8)) → Option β) (RET : (Int × Int × Int × Int × Int × Bool × Bool × Bool × Bool × List (den rng) × List (den (.int .u8)) × List (den (.int .u8)) × Int) → Option β) (x6_0 : Int) (m0_0 : List (den (.int .u8))) (m1_0 m5000_0 m5001_0 m5002_0 m5003_0 m5004_0 : Int) (m5005_0 m5007_0 : Bool) (m5009_0 : List (den rng)) (m5010_0 : List (den (.int .u8))) : Option β := cond (decide (x6_0 > 0)) ((F85 k m0_0 m1_0).bind fun b12 => (F85 k b12.2.1 b12.2.2).bind fun b13 => cond (decide ((m5009_0.length + [(b12.1, b13.1)].length) * 16 ≤ 140737488355328)) (NX (IntKind.i64.wrap (x6_0 - 1)) b13.2.1 b13.2.2 m5000_0 m5001_0 m5002_0 m5003_0 m5004_0 m5005_0 m5007_0 (m5009_0 ++ [(b12.1, b13.1)]) m5010_0) none) ((F43 k m0_0 m1_0 8).bind fun b14 => cond (b14.1 == 0) ((F86 k b14.2.1 b14.2.2 a1).bind fun b15 => cond b15.1 ((F43 k b15.2.1 b15.2.2 4).bind fun b16 => cond (b16.1 == 0) ((F43 k b16.2.1 b16.2.2 2).bind fun b17 => RET (IntKind.i64.wrap (b17.1 * 256), m5001_0, m5002_0, m5003_0, m5004_0, false, true, false, true, m5009_0, [], b17.2.1, b17.2.2)) (cond (b16.1 == 1) ((F43 k b16.2.1 b16.2.2 2).bind fun b18 => RET (m5000_0, m5001_0, IntKind.i64.wrap (65536 - (IntKind.i64.wrap (b18.1 * 65540))), m5003_0, m5004_0, false, true, false, true, m5009_0, [], b18.2.1, b18.2.2)) (cond (b16.1 == 2) (RET (m5000_0, m5001_0, m5002_0, 4, m5004_0, false, false, false, true, m5009_0, [], b16.2.1, b16.2.2)) ((F43 k b16.2.1 b16.2.2 14).bind fun b19 => cond (decide (0 ≤ b19.1) && decide (b19.1 = b19.1) && decide (b19.1 * (1 : Nat) ≤ 140737488355328)) (RET (m5000_0, m5001_0, m5002_0, m5003_0, m5004_0, false, true, false, true, m5009_0, List.replicate b19.1.toNat (dflt (.int .u8)), b19.2.1, b19.2.2)) none)))) (RET (m5000_0, m5001_0, m5002_0, m5003_0, m5004_0, false, true, false, true, m5009_0, [], b15.2.1, b15.2.2))) ((F86 k b14.2.1 b14.2.2 a1).bind fun b20 => cond b20.1 ((F43 k b20.2.1 b20.2.2 4).bind fun b21 => cond (b21.1 == 0) ((F43 k b21.2.1 b21.2.2 2).bind fun b22 => RET (IntKind.i64.wrap (b22.1 * 256), m5001_0, m5002_0, m5003_0, m5004_0, m5005_0, true, m5007_0, false, m5009_0, m5010_0, b22.2.1, b22.2.2)) (cond (b21.1 == 1) ((F43 k b21.2.1 b21.2.2 2).bind fun b23 => RET (m5000_0, m5001_0, IntKind.i64.wrap (65536 - (IntKind.i64.wrap (b23.1 * 65540))), m5003_0, m5004_0, m5005_0, true, m5007_0, false, m5009_0, m5010_0, b23.2.1, b23.2.2)) (cond (b21.1 == 2) (RET (m5000_0, m5001_0, m5002_0, 4, m5004_0, m5005_0, false, m5007_0, false, m5009_0, m5010_0, b21.2.1, b21.2.2)) ((F43 k b21.2.1 b21.2.2 14).bind fun b24 => cond (decide (0 ≤ b24.1) && decide (b24.1 = b24.1) && decide (b24.1 * (1 : Nat) ≤ 140737488355328)) (RET (m5000_0, m5001_0, m5002_0, m5003_0, m5004_0, m5005_0, true, m5007_0, true, m5009_0, List.replicate b24.1.toNat (dflt (.int .u8)), b24.2.1, b24.2.2)) none)))) (RET (m5000_0, m5001_0, m5002_0, m5003_0, m5004_0, m5005_0, true, m5007_0, false, m5009_0, m5010_0, b20.2.1, b20.2.2))))
def F42_l0 (k : Nat) (a0_0 : List (den (.int .u8))) (a0_1 a1 : Int) : Nat → Int → List (den (.int .u8)) → Int → Int → Int → Int → Int → Int → Bool → Bool → List (den rng) → List (den (.int .u8)) → Option (Int × Int × Int × Int × Int × Bool × Bool × Bool × Bool × List (den rng) × List (den (.int .u8)) × List (den (.int .u8)) × Int)
  | 0, _, _, _, _, _, _, _, _, _, _, _, _ => none
  | n + 1, x6_0, m0_0, m1_0, m5000_0, m5001_0, m5002_0, m5003_0, m5004_0, m5005_0, m5007_0, m5009_0, m5010_0 => F42_l0_T k a0_0 a0_1 a1 (fun x6_0 m0_0 m1_0 m5000_0 m5001_0 m5002_0 m5003_0 m5004_0 m5005_0 m5007_0 m5009_0 m5010_0 => F42_l0 k a0_0 a0_1 a1 n x6_0 m0_0 m1_0 m5000_0 m5001_0 m5002_0 m5003_0 m5004_0 m5005_0 m5007_0 m5009_0 m5010_0) some x6_0 m0_0 m1_0 m5000_0 m5001_0 m5002_0 m5003_0 m5004_0 m5005_0 m5007_0 m5009_0 m5010_0
theorem F42_l0_rd {β : Type} (k n : Nat) (a0_0 : List (den (.int .u8))) (a0_1 a1 : Int) (x6_0 : Int) (m0_0 : List (den (.int .u8))) (m1_0 m5000_0 m5001_0 m5002_0 m5003_0 m5004_0 : Int) (m5005_0 m5007_0 : Bool) (m5009_0 : List (den rng)) (m5010_0 : List (den (.int .u8))) (K : A × List (List Leaf) → Option β) :
    loopG (F42_E k) Try.f42 [1, 1, 0, 1, 0, 1, 1, 1, 1, 0] 0 (kontAt (F42_E k) [1, 1, 0, 1, 0, 1, 1, 1, 1, 0] (bodyOf Try.f42) 0 (endC (F42_E k) Try.f42 (F42_a a0_0 a0_1 a1) K)) (n + 1) (F42_s0 a0_0 a0_1 a1 x6_0 m0_0 m1_0 m5000_0 m5001_0 m5002_0 m5003_0 m5004_0 m5005_0 m5007_0 m5009_0 m5010_0) =
    F42_l0_T k a0_0 a0_1 a1 (fun x6_0 m0_0 m1_0 m5000_0 m5001_0 m5002_0 m5003_0 m5004_0 m5005_0 m5007_0 m5009_0 m5010_0 => loopG (F42_E k) Try.f42 [1, 1, 0, 1, 0, 1, 1, 1, 1, 0] 0 (kontAt (F42_E k) [1, 1, 0, 1, 0, 1, 1, 1, 1, 0] (bodyOf Try.f42) 0 (endC (F42_E k) Try.f42 (F42_a a0_0 a0_1 a1) K)) n (F42_s0 a0_0 a0_1 a1 x6_0 m0_0 m1_0 m5000_0 m5001_0 m5002_0 m5003_0 m5004_0 m5005_0 m5007_0 m5009_0 m5010_0)) (fun r => K (F42_r r)) x6_0 m0_0 m1_0 m5000_0 m5001_0 m5002_0 m5003_0 m5004_0 m5005_0 m5007_0 m5009_0 m5010_0 := by kernel_rfl
theorem F42_l0_lp {β : Type} (k : Nat) (a0_0 : List (den (.int .u8))) (a0_1 a1 : Int) (K : A × List (List Leaf) → Option β) (n : Nat) : ∀ (x6_0 : Int) (m0_0 : List (den (.int .u8))) (m1_0 m5000_0 m5001_0 m5002_0 m5003_0 m5004_0 : Int) (m5005_0 m5007_0 : Bool) (m5009_0 : List (den rng)) (m5010_0 : List (den (.int .u8))), loopG (F42_E k) Try.f42 [1, 1, 0, 1, 0, 1, 1, 1, 1, 0] 0 (kontAt (F42_E k) [1, 1, 0, 1, 0, 1, 1, 1, 1, 0] (bodyOf Try.f42) 0 (endC (F42_E k) Try.f42 (F42_a a0_0 a0_1 a1) K)) n (F42_s0 a0_0 a0_1 a1 x6_0 m0_0 m1_0 m5000_0 m5001_0 m5002_0 m5003_0 m5004_0 m5005_0 m5007_0 m5009_0 m5010_0) =
    (F42_l0 k a0_0 a0_1 a1 n x6_0 m0_0 m1_0 m5000_0 m5001_0 m5002_0 m5003_0 m5004_0 m5005_0 m5007_0 m5009_0 m5010_0).bind fun r => K (F42_r r) := by
  induction n with
  | zero => intros; rfl
  | succ n ih =>
    intros
    rw [F42_l0_rd, F42_l0]
    simp only [F42_l0_T, bind_cond, Option.bind_assoc, Option.bind_some, Option.bind_none, Option.bind_fun_some, ih]
def F42_T {β : Type} (k : Nat) (a0_0 : List (den (.int .u8))) (a0_1 a1 : Int) (LP0 : Int → List (den (.int .u8)) → Int → Int → Int → Int → Int → Int → Bool → Bool → List (den rng) → List (den (.int .u8)) → Option β) (RET : (Int × Int × Int × Int × Int × Bool × Bool × Bool × Bool × List (den rng) × List (den (.int .u8)) × List (den (.int .u8)) × Int) → Option β) : Option β := (F43 k a0_0 a0_1 3).bind fun b1 => (F43 k b1.2.1 b1.2.2 3).bind fun b2 => (F85 k b2.2.1 b2.2.2).bind fun b3 => (F43 k b3.2.1 b3.2.2 5).bind fun b4 => (F44 k b4.2.1 b4.2.2 b4.1).bind fun b5 => (F43 k b5.2.1 b5.2.2 4).bind fun b6 => (F43 k b6.2.1 b6.2.2 4).bind fun b7 => (F43 k b7.2.1 b7.2.2 4).bind fun b8 => cond (decide (b8.1 > 0)) ((F85 k b8.2.1 b8.2.2).bind fun b9 => (F43 k b9.2.1 b9.2.2 40).bind fun b10 => (F43 k b10.2.1 b10.2.2 3).bind fun b11 => LP0 b11.1 b11.2.1 b11.2.2 (IntKind.i64.wrap (1 + b1.1)) (IntKind.i64.wrap (1 + b2.1)) b3.1 b9.1 b10.1 (b6.1 == 0) (b7.1 == 0) [] b5.1) ((F43 k b8.2.1 b8.2.2 8).bind fun b25 => cond (b25.1 == 0) ((F86 k b25.2.1 b25.2.2 a1).bind fun b26 => cond b26.1 ((F43 k b26.2.1 b26.2.2 4).bind fun b27 => cond (b27.1 == 0) ((F43 k b27.2.1 b27.2.2 2).bind fun b28 => RET (IntKind.i64.wrap (b28.1 * 256), IntKind.i64.wrap (1 + b2.1), b3.1, 0, 0, false, false, false, true, [], [], b28.2.1, b28.2.2)) (cond (b27.1 == 1) ((F43 k b27.2.1 b27.2.2 2).bind fun b29 => RET (IntKind.i64.wrap (1 + b1.1), IntKind.i64.wrap (1 + b2.1), IntKind.i64.wrap (65536 - (IntKind.i64.wrap (b29.1 * 65540))), 0, 0, false, false, false, true, [], [], b29.2.1, b29.2.2)) (cond (b27.1 == 2) (RET (IntKind.i64.wrap (1 + b1.1), IntKind.i64.wrap (1 + b2.1), b3.1, 4, 0, false, true, false, true, [], [], b27.2.1, b27.2.2)) ((F43 k b27.2.1 b27.2.2 14).bind fun b30 => cond (decide (0 ≤ b30.1) && decide (b30.1 = b30.1) && decide (b30.1 * (1 : Nat) ≤ 140737488355328)) (RET (IntKind.i64.wrap (1 + b1.1), IntKind.i64.wrap (1 + b2.1), b3.1, 0, 0, false, false, false, true, [], List.replicate b30.1.toNat (dflt (.int .u8)), b30.2.1, b30.2.2)) none)))) (RET (IntKind.i64.wrap (1 + b1.1), IntKind.i64.wrap (1 + b2.1), b3.1, 0, 0, false, false, false, true, [], [], b26.2.1, b26.2.2))) ((F86 k b25.2.1 b25.2.2 a1).bind fun b31 => cond b31.1 ((F43 k b31.2.1 b31.2.2 4).bind fun b32 => cond (b32.1 == 0) ((F43 k b32.2.1 b32.2.2 2).bind fun b33 => RET (IntKind.i64.wrap (b33.1 * 256), IntKind.i64.wrap (1 + b2.1), b3.1, 0, 0, (b6.1 == 0), false, (b7.1 == 0), false, [], b5.1, b33.2.1, b33.2.2)) (cond (b32.1 == 1) ((F43 k b32.2.1 b32.2.2 2).bind fun b34 => RET (IntKind.i64.wrap (1 + b1.1), IntKind.i64.wrap (1 + b2.1), IntKind.i64.wrap (65536 - (IntKind.i64.wrap (b34.1 * 65540))), 0, 0, (b6.1 == 0), false, (b7.1 == 0), false, [], b5.1, b34.2.1, b34.2.2)) (cond (b32.1 == 2) (RET (IntKind.i64.wrap (1 + b1.1), IntKind.i64.wrap (1 + b2.1), b3.1, 4, 0, (b6.1 == 0), true, (b7.1 == 0), false, [], b5.1, b32.2.1, b32.2.2)) ((F43 k b32.2.1 b32.2.2 14).bind fun b35 => cond (decide (0 ≤ b35.1) && decide (b35.1 = b35.1) && decide (b35.1 * (1 : Nat) ≤ 140737488355328)) (RET (IntKind.i64.wrap (1 + b1.1), IntKind.i64.wrap (1 + b2.1), b3.1, 0, 0, (b6.1 == 0), false, (b7.1 == 0), true, [], List.replicate b35.1.toNat (dflt (.int .u8)), b35.2.1, b35.2.2)) none)))) (RET (IntKind.i64.wrap (1 + b1.1), IntKind.i64.wrap (1 + b2.1), b3.1, 0, 0, (b6.1 == 0), false, (b7.1 == 0), false, [], b5.1, b31.2.1, b31.2.2))))
def F42 (k : Nat) (a0_0 : List (den (.int .u8))) (a0_1 a1 : Int) : Option (Int × Int × Int × Int × Int × Bool × Bool × Bool × Bool × List (den rng) × List (den (.int .u8)) × List (den (.int .u8)) × Int) := F42_T k a0_0 a0_1 a1 (fun x6_0 m0_0 m1_0 m5000_0 m5001_0 m5002_0 m5003_0 m5004_0 m5005_0 m5007_0 m5009_0 m5010_0 => F42_l0 k a0_0 a0_1 a1 k x6_0 m0_0 m1_0 m5000_0 m5001_0 m5002_0 m5003_0 m5004_0 m5005_0 m5007_0 m5009_0 m5010_0) some
theorem F42_st {β : Type} (k : Nat) (a0_0 : List (den (.int .u8))) (a0_1 a1 : Int) (K : A × List (List Leaf) → Option β) : evalF (F42_E k) Try.f42 (F42_a a0_0 a0_1 a1) K =
    F42_T k a0_0 a0_1 a1 (fun x6_0 m0_0 m1_0 m5000_0 m5001_0 m5002_0 m5003_0 m5004_0 m5005_0 m5007_0 m5009_0 m5010_0 => loopG (F42_E k) Try.f42 [1, 1, 0, 1, 0, 1, 1, 1, 1, 0] 0 (kontAt (F42_E k) [1, 1, 0, 1, 0, 1, 1, 1, 1, 0] (bodyOf Try.f42) 0 (endC (F42_E k) Try.f42 (F42_a a0_0 a0_1 a1) K)) k (F42_s0 a0_0 a0_1 a1 x6_0 m0_0 m1_0 m5000_0 m5001_0 m5002_0 m5003_0 m5004_0 m5005_0 m5007_0 m5009_0 m5010_0)) (fun r => K (F42_r r)) := by kernel_rfl
theorem F42_ev {β : Type} (k : Nat) (a0_0 : List (den (.int .u8))) (a0_1 a1 : Int) (K : A × List (List Leaf) → Option β) : evalF (F42_E k) Try.f42 (F42_a a0_0 a0_1 a1) K = (F42 k a0_0 a0_1 a1).bind fun r => K (F42_r r) := by
  rw [F42_st, F42]
  simp only [F42_T, bind_cond, Option.bind_assoc, Option.bind_some, Option.bind_none, Option.bind_fun_some, F42_l0_lp]
theorem F42_tOk (k : Nat) : TabFn Try.prog (F42_t k) := .ent (F43_q k) F43_f (.ent (F85_q k) F85_f (.ent (F44_q k) F44_f (.ent (F86_q k) F86_f (.none))))
theorem F42_con (k : Nat) (a0_0 : List (den (.int .u8))) (a0_1 a1 : Int) : Contract Try.prog 42 (F42_a a0_0 a0_1 a1) ⟨F42 k a0_0 a0_1 a1, F42_r⟩ := con_of (envOk (F42_tOk k) _ _ _ _) mixed Try.func42 rfl rfl (F42_ev k a0_0 a0_1 a1 some)
def F42_sh : List AK := [.p [.sl .ro (.int .u8), .int .i64], .one (.l (.int .i64))]
def F42_p (k : Nat) : List Arg → Option CR := cle F42_sh fun x => ⟨F42 k x.1.1 x.1.2.1 x.2.1, F42_r⟩
theorem F42_q (k : Nat) : ∀ xs cr, F42_p k xs = some cr → Contract Try.prog 42 xs cr := cle_ok fun x => F42_con k _ _ _
theorem F42_f : FnOk Try.prog 42 := .of (by kernel_rfl)
abbrev F35_E (k : Nat) : Env := env noTab noHint .own [] k
abbrev F35_a (a0 a1 : List (den (.int .u8))) : List Arg := [.one (.l (.s .ro (.int .u8) a0)), .one (.l (.s .ro (.int .u8) a1))]
def F35_r (r : Bool) : A × List (List Leaf) := (.one (.v (.bool r)), [])
def F35 (k : Nat) (a0 a1 : List (den (.int .u8))) : Option (Bool) := some ((strOf a0).toList == (strOf a1).toList)
theorem F35_st {β : Type} (k : Nat) (a0 a1 : List (den (.int .u8))) (K : A × List (List Leaf) → Option β) : evalF (F35_E k) Try.f35 (F35_a a0 a1) K =
    K (.one (.v (.bool ((strOf a0).toList == (strOf a1).toList))), []) := by kernel_rfl
theorem F35_ev {β : Type} (k : Nat) (a0 a1 : List (den (.int .u8))) (K : A × List (List Leaf) → Option β) : evalF (F35_E k) Try.f35 (F35_a a0 a1) K = (F35 k a0 a1).bind fun r => K (F35_r r) := by
  rw [F35_st, F35]
  simp only [F35_r, bind_cond, Option.bind_assoc, Option.bind_some, Option.bind_none, Option.bind_fun_some]
theorem F35_con (k : Nat) (a0 a1 : List (den (.int .u8))) : Contract Try.prog 35 (F35_a a0 a1) ⟨F35 k a0 a1, F35_r⟩ := con_of (envOk .none _ _ _ _) mixed Try.func35 rfl rfl (F35_ev k a0 a1 some)
def F35_sh : List AK := [.one (.l (.sl .ro (.int .u8))), .one (.l (.sl .ro (.int .u8)))]
def F35_p (k : Nat) : List Arg → Option CR := cle F35_sh fun x => ⟨F35 k x.1 x.2.1, F35_r⟩
theorem F35_q (k : Nat) : ∀ xs cr, F35_p k xs = some cr → Contract Try.prog 35 xs cr := cle_ok fun x => F35_con k _ _
theorem F35_f : FnOk Try.prog 35 := .of (by kernel_rfl)
def F58_t (k : Nat) : Tab := entT 45 (F45_p k) <| entT 91 (F91_p k) <| noTab
abbrev F58_E (k : Nat) : Env := env (F58_t k) noHint .own [] k
abbrev F58_a (a0 a1 : Int) : List Arg := [.one (.l (.v (.int .i64 a0))), .one (.l (.v (.int .i64 a1)))]
def F58_r (r : List (den (.int .u8))) : A × List (List Leaf) := (.one (.s .own (.int .u8) r), [])
def F58_T {β : Type} (k : Nat) (a0 a1 : Int) (RET : List (den (.int .u8)) → Option β) : Option β := (F45 k a1 1 4).bind fun b1 => cond (!b1) (RET []) (cond (decide ((IntKind.i64.wrap (8 * a1)) < 0)) none ((F45 k a0 0 (IntKind.i64.wrap ((IntKind.i64.wrap (1 * 2 ^ (min (IntKind.i64.wrap (8 * a1)).toNat 64))) - 1))).bind fun b2 => cond (!b2) (RET []) ((F91 k a0 a1).bind fun b3 => RET b3)))
def F58 (k : Nat) (a0 a1 : Int) : Option (List (den (.int .u8))) := F58_T k a0 a1 some
theorem F58_st {β : Type} (k : Nat) (a0 a1 : Int) (K : A × List (List Leaf) → Option β) : evalF (F58_E k) Try.f58 (F58_a a0 a1) K =
    F58_T k a0 a1 (fun r => K (F58_r r)) := by kernel_rfl
theorem F58_ev {β : Type} (k : Nat) (a0 a1 : Int) (K : A × List (List Leaf) → Option β) : evalF (F58_E k) Try.f58 (F58_a a0 a1) K = (F58 k a0 a1).bind fun r => K (F58_r r) := by
  rw [F58_st, F58]
  simp only [F58_T, bind_cond, Option.bind_assoc, Option.bind_some, Option.bind_none, Option.bind_fun_some]
theorem F58_tOk (k : Nat) : TabFn Try.prog (F58_t k) := .ent (F45_q k) F45_f (.ent (F91_q k) F91_f (.none))
theorem F58_con (k : Nat) (a0 a1 : Int) : Contract Try.prog 58 (F58_a a0 a1) ⟨F58 k a0 a1, F58_r⟩ := con_of (envOk (F58_tOk k) _ _ _ _) mixed Try.func58 rfl rfl (F58_ev k a0 a1 some)
def F58_sh : List AK := [.one (.l (.int .i64)), .one (.l (.int .i64))]
def F58_p (k : Nat) : List Arg → Option CR := cle F58_sh fun x => ⟨F58 k x.1 x.2.1, F58_r⟩
theorem F58_q (k : Nat) : ∀ xs cr, F58_p k xs = some cr → Contract Try.prog 58 xs cr := cle_ok fun x => F58_con k _ _
theorem F58_f : FnOk Try.prog 58 := .of (by kernel_rfl)
def F15_t (k : Nat) : Tab := entT 58 (F58_p k) <| noTab
abbrev F15_E (k : Nat) : Env := env (F15_t k) noHint .own [] k
abbrev F15_a : List Arg := []
def F15_r (r : Bool) : A × List (List Leaf) := (.one (.v (.bool r)), [])
def F15_T {β : Type} (k : Nat) (RET : Bool → Option β) : Option β := (F58 k 5 1).bind fun b1 => cond (((b1.length : Nat) : Int) == 1) ((F58 k 256 1).bind fun b2 => RET (((b2.length : Nat) : Int) == 0)) (RET false)
def F15 (k : Nat) : Option (Bool) := F15_T k some
theorem F15_st {β : Type} (k : Nat) (K : A × List (List Leaf) → Option β) : evalF (F15_E k) Try.f15 (F15_a) K =
    F15_T k (fun r => K (F15_r r)) := by kernel_rfl
theorem F15_ev {β : Type} (k : Nat) (K : A × List (List Leaf) → Option β) : evalF (F15_E k) Try.f15 (F15_a) K = (F15 k).bind fun r => K (F15_r r) := by
  rw [F15_st, F15]
  simp only [F15_T, bind_cond, Option.bind_assoc, Option.bind_some, Option.bind_none, Option.bind_fun_some]
theorem F15_tOk (k : Nat) : TabFn Try.prog (F15_t k) := .ent (F58_q k) F58_f (.none)
theorem F15_con (k : Nat) : Contract Try.prog 15 (F15_a) ⟨F15 k, F15_r⟩ := con_of (envOk (F15_tOk k) _ _ _ _) mixed Try.func15 rfl rfl (F15_ev k some)
def F15_sh : List AK := []
def F15_p (k : Nat) : List Arg → Option CR := cle F15_sh fun x => ⟨F15 k, F15_r⟩
theorem F15_q (k : Nat) : ∀ xs cr, F15_p k xs = some cr → Contract Try.prog 15 xs cr := cle_ok fun x => F15_con k
theorem F15_f : FnOk Try.prog 15 := .of (by kernel_rfl)
def F60_h : Nat → Hint
  | 0 => ⟨[(0, .plain), (1, .plain), (5, .plain)], []⟩
  | _ => ⟨[], []⟩
abbrev F60_E (k : Nat) : Env := env noTab F60_h .own [] k
abbrev F60_a (a0 a1 : List (den rng)) : List Arg := [.one (.l (.s .ro rng a0)), .one (.l (.s .ro rng a1))]
def F60_r (r : Bool) : A × List (List Leaf) := (.one (.v (.bool r)), [])
def F60_s0 (a0 a1 : List (den rng)) (x5_0 : Int) : St := ⟨(.one (.s .ro rng a0)) :: (.one (.s .ro rng a1)) :: dz 3 ((.one (.v (.int .i64 x5_0))) :: dz 20 []), []⟩
def F60_l0_T {β : Type} (k : Nat) (a0 a1 : List (den rng)) (NX : Int → Option β) (RET : Bool → Option β) (x5_0 : Int) : Option β := cond (decide (x5_0 < ((a0.length : Nat) : Int))) (cond (decide (0 ≤ x5_0)) (cond (decide (x5_0 < ((a0.length : Nat) : Int))) (cond (decide (0 ≤ x5_0)) (cond (decide (x5_0 < ((a1.length : Nat) : Int))) (cond (!(eqD rng (atI a0 x5_0) (atI a1 x5_0))) (RET false) (NX (IntKind.i64.wrap (x5_0 + 1)))) none) none) none) none) (RET true)
def F60_l0 (k : Nat) (a0 a1 : List (den rng)) : Nat → Int → Option (Bool)
  | 0, _ => none
  | n + 1, x5_0 => F60_l0_T k a0 a1 (fun x5_0 => F60_l0 k a0 a1 n x5_0) some x5_0
theorem F60_l0_rd {β : Type} (k n : Nat) (a0 a1 : List (den rng)) (x5_0 : Int) (K : A × List (List Leaf) → Option β) :
    loopG (F60_E k) Try.f60 [1, 1, 0, 1, 0] 0 (kontAt (F60_E k) [1, 1, 0, 1, 0] (bodyOf Try.f60) 0 (endC (F60_E k) Try.f60 (F60_a a0 a1) K)) (n + 1) (F60_s0 a0 a1 x5_0) =
    F60_l0_T k a0 a1 (fun x5_0 => loopG (F60_E k) Try.f60 [1, 1, 0, 1, 0] 0 (kontAt (F60_E k) [1, 1, 0, 1, 0] (bodyOf Try.f60) 0 (endC (F60_E k) Try.f60 (F60_a a0 a1) K)) n (F60_s0 a0 a1 x5_0)) (fun r => K (F60_r r)) x5_0 := by kernel_rfl
theorem F60_l0_lp {β : Type} (k : Nat) (a0 a1 : List (den rng)) (K : A × List (List Leaf) → Option β) (n : Nat) : ∀ (x5_0 : Int), loopG (F60_E k) Try.f60 [1, 1, 0, 1, 0] 0 (kontAt (F60_E k) [1, 1, 0, 1, 0] (bodyOf Try.f60) 0 (endC (F60_E k) Try.f60 (F60_a a0 a1) K)) n (F60_s0 a0 a1 x5_0) =
    (F60_l0 k a0 a1 n x5_0).bind fun r => K (F60_r r) := by
  induction n with
  | zero => intros; rfl
  | succ n ih =>
    intros
    rw [F60_l0_rd, F60_l0]
    simp only [F60_l0_T, bind_cond, Option.bind_assoc, Option.bind_some, Option.bind_none, Option.bind_fun_some, ih]
def F60_T {β : Type} (k : Nat) (a0 a1 : List (den rng)) (LP0 : Int → Option β) (RET : Bool → Option β) : Option β := cond (((a0.length : Nat) : Int) != ((a1.length : Nat) : Int)) (RET false) (LP0 0)
def F60 (k : Nat) (a0 a1 : List (den rng)) : Option (Bool) := F60_T k a0 a1 (fun x5_0 => F60_l0 k a0 a1 k x5_0) some
theorem F60_st {β : Type} (k : Nat) (a0 a1 : List (den rng)) (K : A × List (List Leaf) → Option β) : evalF (F60_E k) Try.f60 (F60_a a0 a1) K =
    F60_T k a0 a1 (fun x5_0 => loopG (F60_E k) Try.f60 [1, 1, 0, 1, 0] 0 (kontAt (F60_E k) [1, 1, 0, 1, 0] (bodyOf Try.f60) 0 (endC (F60_E k) Try.f60 (F60_a a0 a1) K)) k (F60_s0 a0 a1 x5_0)) (fun r => K (F60_r r)) := by kernel_rfl
theorem F60_ev {β : Type} (k : Nat) (a0 a1 : List (den rng)) (K : A × List (List Leaf) → Option β) : evalF (F60_E k) Try.f60 (F60_a a0 a1) K = (F60 k a0 a1).bind fun r => K (F60_r r) := by
  rw [F60_st, F60]
  simp only [F60_T, bind_cond, Option.bind_assoc, Option.bind_some, Option.bind_none, Option.bind_fun_some, F60_l0_lp]
theorem F60_con (k : Nat) (a0 a1 : List (den rng)) : Contract Try.prog 60 (F60_a a0 a1) ⟨F60 k a0 a1, F60_r⟩ := con_of (envOk .none _ _ _ _) mixed Try.func60 rfl rfl (F60_ev k a0 a1 some)
def F60_sh : List AK := [.one (.l (.sl .ro rng)), .one (.l (.sl .ro rng))]
def F60_p (k : Nat) : List Arg → Option CR := cle F60_sh fun x => ⟨F60 k x.1 x.2.1, F60_r⟩
theorem F60_q (k : Nat) : ∀ xs cr, F60_p k xs = some cr → Contract Try.prog 60 xs cr := cle_ok fun x => F60_con k _ _
theorem F60_f : FnOk Try.prog 60 := .of (by kernel_rfl)
def F18_t (k : Nat) : Tab := entT 60 (F60_p k) <| entT 35 (F35_p k) <| noTab
abbrev F18_E (k : Nat) : Env := env (F18_t k) noHint .own [] k
abbrev F18_a (a0_0 a0_1 a0_2 a0_3 a0_4 : Int) (a0_5 a0_6 a0_7 a0_8 : Bool) (a0_9 : List (den rng)) (a0_10 : List (den (.int .u8))) (a1_0 a1_1 a1_2 a1_3 a1_4 : Int) (a1_5 a1_6 a1_7 a1_8 : Bool) (a1_9 : List (den rng)) (a1_10 : List (den (.int .u8))) : List Arg := [.agg [.l (.v (.int .i64 a0_0)), .l (.v (.int .i64 a0_1)), .l (.v (.int .i64 a0_2)), .l (.v (.int .i64 a0_3)), .l (.v (.int .i64 a0_4)), .l (.v (.bool a0_5)), .l (.v (.bool a0_6)), .l (.v (.bool a0_7)), .l (.v (.bool a0_8)), .l (.s .ro rng a0_9), .l (.s .ro (.int .u8) a0_10)], .agg [.l (.v (.int .i64 a1_0)), .l (.v (.int .i64 a1_1)), .l (.v (.int .i64 a1_2)), .l (.v (.int .i64 a1_3)), .l (.v (.int .i64 a1_4)), .l (.v (.bool a1_5)), .l (.v (.bool a1_6)), .l (.v (.bool a1_7)), .l (.v (.bool a1_8)), .l (.s .ro rng a1_9), .l (.s .ro (.int .u8) a1_10)]]
def F18_r (r : Bool) : A × List (List Leaf) := (.one (.v (.bool r)), [])
def F18_T {β : Type} (k : Nat) (a0_0 a0_1 a0_2 a0_3 a0_4 : Int) (a0_5 a0_6 a0_7 a0_8 : Bool) (a0_9 : List (den rng)) (a0_10 : List (den (.int .u8))) (a1_0 a1_1 a1_2 a1_3 a1_4 : Int) (a1_5 a1_6 a1_7 a1_8 : Bool) (a1_9 : List (den rng)) (a1_10 : List (den (.int .u8))) (RET : Bool → Option β) : Option β := cond (a0_0 == a1_0) (cond (a0_1 == a1_1) (cond (a0_2 == a1_2) (cond (a0_3 == a1_3) (cond (a0_4 == a1_4) (cond (a0_5 == a1_5) (cond (a0_6 == a1_6) (cond (a0_7 == a1_7) (cond (a0_8 == a1_8) ((F60 k a0_9 a1_9).bind fun b1 => cond b1 ((F35 k a0_10 a1_10).bind fun b2 => RET b2) (RET false)) (RET false)) (RET false)) (RET false)) (RET false)) (RET false)) (RET false)) (RET false)) (RET false)) (RET false)
def F18 (k : Nat) (a0_0 a0_1 a0_2 a0_3 a0_4 : Int) (a0_5 a0_6 a0_7 a0_8 : Bool) (a0_9 : List (den rng)) (a0_10 : List (den (.int .u8))) (a1_0 a1_1 a1_2 a1_3 a1_4 : Int) (a1_5 a1_6 a1_7 a1_8 : Bool) (a1_9 : List (den rng)) (a1_10 : List (den (.int .u8))) : Option (Bool) := F18_T k a0_0 a0_1 a0_2 a0_3 a0_4 a0_5 a0_6 a0_7 a0_8 a0_9 a0_10 a1_0 a1_1 a1_2 a1_3 a1_4 a1_5 a1_6 a1_7 a1_8 a1_9 a1_10 some
theorem F18_st {β : Type} (k : Nat) (a0_0 a0_1 a0_2 a0_3 a0_4 : Int) (a0_5 a0_6 a0_7 a0_8 : Bool) (a0_9 : List (den rng)) (a0_10 : List (den (.int .u8))) (a1_0 a1_1 a1_2 a1_3 a1_4 : Int) (a1_5 a1_6 a1_7 a1_8 : Bool) (a1_9 : List (den rng)) (a1_10 : List (den (.int .u8))) (K : A × List (List Leaf) → Option β) : evalF (F18_E k) Try.f18 (F18_a a0_0 a0_1 a0_2 a0_3 a0_4 a0_5 a0_6 a0_7 a0_8 a0_9 a0_10 a1_0 a1_1 a1_2 a1_3 a1_4 a1_5 a1_6 a1_7 a1_8 a1_9 a1_10) K =
    F18_T k a0_0 a0_1 a0_2 a0_3 a0_4 a0_5 a0_6 a0_7 a0_8 a0_9 a0_10 a1_0 a1_1 a1_2 a1_3 a1_4 a1_5 a1_6 a1_7 a1_8 a1_9 a1_10 (fun r => K (F18_r r)) := by kernel_rfl
theorem F18_ev {β : Type} (k : Nat) (a0_0 a0_1 a0_2 a0_3 a0_4 : Int) (a0_5 a0_6 a0_7 a0_8 : Bool) (a0_9 : List (den rng)) (a0_10 : List (den (.int .u8))) (a1_0 a1_1 a1_2 a1_3 a1_4 : Int) (a1_5 a1_6 a1_7 a1_8 : Bool) (a1_9 : List (den rng)) (a1_10 : List (den (.int .u8))) (K : A × List (List Leaf) → Option β) : evalF (F18_E k) Try.f18 (F18_a a0_0 a0_1 a0_2 a0_3 a0_4 a0_5 a0_6 a0_7 a0_8 a0_9 a0_10 a1_0 a1_1 a1_2 a1_3 a1_4 a1_5 a1_6 a1_7 a1_8 a1_9 a1_10) K = (F18 k a0_0 a0_1 a0_2 a0_3 a0_4 a0_5 a0_6 a0_7 a0_8 a0_9 a0_10 a1_0 a1_1 a1_2 a1_3 a1_4 a1_5 a1_6 a1_7 a1_8 a1_9 a1_10).bind fun r => K (F18_r r) := by
  rw [F18_st, F18]
  simp only [F18_T, bind_cond, Option.bind_assoc, Option.bind_some, Option.bind_none, Option.bind_fun_some]
theorem F18_tOk (k : Nat) : TabFn Try.prog (F18_t k) := .ent (F60_q k) F60_f (.ent (F35_q k) F35_f (.none))
theorem F18_con (k : Nat) (a0_0 a0_1 a0_2 a0_3 a0_4 : Int) (a0_5 a0_6 a0_7 a0_8 : Bool) (a0_9 : List (den rng)) (a0_10 : List (den (.int .u8))) (a1_0 a1_1 a1_2 a1_3 a1_4 : Int) (a1_5 a1_6 a1_7 a1_8 : Bool) (a1_9 : List (den rng)) (a1_10 : List (den (.int .u8))) : Contract Try.prog 18 (F18_a a0_0 a0_1 a0_2 a0_3 a0_4 a0_5 a0_6 a0_7 a0_8 a0_9 a0_10 a1_0 a1_1 a1_2 a1_3 a1_4 a1_5 a1_6 a1_7 a1_8 a1_9 a1_10) ⟨F18 k a0_0 a0_1 a0_2 a0_3 a0_4 a0_5 a0_6 a0_7 a0_8 a0_9 a0_10 a1_0 a1_1 a1_2 a1_3 a1_4 a1_5 a1_6 a1_7 a1_8 a1_9 a1_10, F18_r⟩ := con_of (envOk (F18_tOk k) _ _ _ _) mixed Try.func18 rfl rfl (F18_ev k a0_0 a0_1 a0_2 a0_3 a0_4 a0_5 a0_6 a0_7 a0_8 a0_9 a0_10 a1_0 a1_1 a1_2 a1_3 a1_4 a1_5 a1_6 a1_7 a1_8 a1_9 a1_10 some)
def F18_sh : List AK := [.agg [.l (.int .i64), .l (.int .i64), .l (.int .i64), .l (.int .i64), .l (.int .i64), .l (.bool), .l (.bool), .l (.bool), .l (.bool), .l (.sl .ro rng), .l (.sl .ro (.int .u8))], .agg [.l (.int .i64), .l (.int .i64), .l (.int .i64), .l (.int .i64), .l (.int .i64), .l (.bool), .l (.bool), .l (.bool), .l (.bool), .l (.sl .ro rng), .l (.sl .ro (.int .u8))]]
def F18_p (k : Nat) : List Arg → Option CR := cle F18_sh fun x => ⟨F18 k x.1.1 x.1.2.1 x.1.2.2.1 x.1.2.2.2.1 x.1.2.2.2.2.1 x.1.2.2.2.2.2.1 x.1.2.2.2.2.2.2.1 x.1.2.2.2.2.2.2.2.1 x.1.2.2.2.2.2.2.2.2.1 x.1.2.2.2.2.2.2.2.2.2.1 x.1.2.2.2.2.2.2.2.2.2.2.1 x.2.1.1 x.2.1.2.1 x.2.1.2.2.1 x.2.1.2.2.2.1 x.2.1.2.2.2.2.1 x.2.1.2.2.2.2.2.1 x.2.1.2.2.2.2.2.2.1 x.2.1.2.2.2.2.2.2.2.1 x.2.1.2.2.2.2.2.2.2.2.1 x.2.1.2.2.2.2.2.2.2.2.2.1 x.2.1.2.2.2.2.2.2.2.2.2.2.1, F18_r⟩
theorem F18_q (k : Nat) : ∀ xs cr, F18_p k xs = some cr → Contract Try.prog 18 xs cr := cle_ok fun x => F18_con k _ _ _ _ _ _ _ _ _ _ _ _ _ _ _ _ _ _ _ _ _ _
theorem F18_f : FnOk Try.prog 18 := .of (by kernel_rfl)
def F40_t (k : Nat) : Tab := entT 41 (F41_p k) <| entT 43 (F43_p k) <| entT 42 (F42_p k) <| entT 29 (F29_p k) <| noTab
abbrev F40_E (k : Nat) : Env := env (F40_t k) noHint .own [] k
abbrev F40_a (a0 : List (den (.int .u8))) : List Arg := [.one (.l (.s .ro (.int .u8) a0))]
def F40_r (r : List (den (.int .u8)) × Int × Int) : A × List (List Leaf) := (.tup [(false, [.s .own (.int .u8) r.1]), (false, [.v (.int .i64 r.2.1)]), (false, [.v (.int .i64 r.2.2)])], [])
def F40_T {β : Type} (k : Nat) (a0 : List (den (.int .u8))) (RET : (List (den (.int .u8)) × Int × Int) → Option β) : Option β := (F41 k a0).bind fun b1 => (F43 k b1.1 b1.2 5).bind fun b2 => (F43 k b2.2.1 b2.2.2 4).bind fun b3 => (F42 k b3.2.1 b3.2.2 0).bind fun b4 => (F43 k b4.2.2.2.2.2.2.2.2.2.2.2.1 b4.2.2.2.2.2.2.2.2.2.2.2.2 5).bind fun b5 => (F43 k b5.2.1 b5.2.2 4).bind fun b6 => (F29 k b4.1 b4.2.1 b4.2.2.1 b4.2.2.2.1 b4.2.2.2.2.1 b4.2.2.2.2.2.1 b4.2.2.2.2.2.2.1 b4.2.2.2.2.2.2.2.1 b4.2.2.2.2.2.2.2.2.1 b4.2.2.2.2.2.2.2.2.2.1 b4.2.2.2.2.2.2.2.2.2.2.1 b5.1 b2.1 b6.1 b3.1).bind fun b7 => (F43 k b6.2.1 b6.2.2 6).bind fun b8 => cond (b8.1 == 0) ((F43 k b8.2.1 b8.2.2 ((b7.length : Nat) : Int)).bind fun b9 => (F43 k b9.2.1 b9.2.2 256).bind fun b10 => cond (decide (0 ≤ b9.1)) (cond (decide (b9.1 < ((b7.length : Nat) : Int))) (RET (b7.set b9.1.toNat (IntKind.u8.wrap (b10.1)), b2.1, b3.1)) none) none) (cond (b8.1 == 1) ((F43 k b8.2.1 b8.2.2 5).bind fun b11 => RET (b7, b11.1, b3.1)) (cond (b8.1 == 2) ((F43 k b8.2.1 b8.2.2 4).bind fun b12 => RET (b7, b2.1, b12.1)) (cond (b8.1 == 3) ((F43 k b8.2.1 b8.2.2 ((b7.length : Nat) : Int)).bind fun b13 => cond (decide (0 ≤ b13.1) && decide (b13.1 ≤ ((b7.length : Nat) : Int))) (RET ((b7.take b13.1.toNat).drop 0, b2.1, b3.1)) none) (RET (b7, b2.1, b3.1)))))
def F40 (k : Nat) (a0 : List (den (.int .u8))) : Option (List (den (.int .u8)) × Int × Int) := F40_T k a0 some
theorem F40_st {β : Type} (k : Nat) (a0 : List (den (.int .u8))) (K : A × List (List Leaf) → Option β) : evalF (F40_E k) Try.f40 (F40_a a0) K =
    F40_T k a0 (fun r => K (F40_r r)) := by kernel_rfl
theorem F40_ev {β : Type} (k : Nat) (a0 : List (den (.int .u8))) (K : A × List (List Leaf) → Option β) : evalF (F40_E k) Try.f40 (F40_a a0) K = (F40 k a0).bind fun r => K (F40_r r) := by
  rw [F40_st, F40]
  simp only [F40_T, bind_cond, Option.bind_assoc, Option.bind_some, Option.bind_none, Option.bind_fun_some]
theorem F40_tOk (k : Nat) : TabFn Try.prog (F40_t k) := .ent (F41_q k) F41_f (.ent (F43_q k) F43_f (.ent (F42_q k) F42_f (.ent (F29_q k) F29_f (.none))))
theorem F40_con (k : Nat) (a0 : List (den (.int .u8))) : Contract Try.prog 40 (F40_a a0) ⟨F40 k a0, F40_r⟩ := con_of (envOk (F40_tOk k) _ _ _ _) mixed Try.func40 rfl rfl (F40_ev k a0 some)
def F40_sh : List AK := [.one (.l (.sl .ro (.int .u8)))]
def F40_p (k : Nat) : List Arg → Option CR := cle F40_sh fun x => ⟨F40 k x.1, F40_r⟩
theorem F40_q (k : Nat) : ∀ xs cr, F40_p k xs = some cr → Contract Try.prog 40 xs cr := cle_ok fun x => F40_con k _
theorem F40_f : FnOk Try.prog 40 := .of (by kernel_rfl)
def F9_t (k : Nat) : Tab := entT 40 (F40_p k) <| entT 36 (F36_p k) <| entT 37 (F37_p k) <| entT 18 (F18_p k) <| entT 15 (F15_p k) <| entT 14 (F14_p k) <| noTab
abbrev F9_E (k : Nat) : Env := env (F9_t k) noHint .own [] k
abbrev F9_a (a0 : List (den (.int .u8))) : List Arg := [.one (.l (.s .ro (.int .u8) a0))]
def F9_r (r : Bool) : A × List (List Leaf) := (.one (.v (.bool r)), [])
def F9_T {β : Type} (k : Nat) (a0 : List (den (.int .u8))) (RET : Bool → Option β) : Option β := cond (decide (((a0.length : Nat) : Int) > 1048576)) (RET true) ((F40 k a0).bind fun b1 => (F36 k b1.1 b1.2.1 b1.2.2).bind fun b2 => (F37 k b1.1 b1.2.1 b1.2.2).bind fun b3 => cond (!(b2.2.2.2.2.2.2.2.2.2.2.2.2 == b3.2.2.2.2.2.2.2.2.2.2.2.2)) (RET false) (cond (b2.2.2.2.2.2.2.2.2.2.2.2.1 != b3.2.2.2.2.2.2.2.2.2.2.2.1) (RET false) ((F18 k b2.1 b2.2.1 b2.2.2.1 b2.2.2.2.1 b2.2.2.2.2.1 b2.2.2.2.2.2.1 b2.2.2.2.2.2.2.1 b2.2.2.2.2.2.2.2.1 b2.2.2.2.2.2.2.2.2.1 b2.2.2.2.2.2.2.2.2.2.1 b2.2.2.2.2.2.2.2.2.2.2.1 b3.1 b3.2.1 b3.2.2.1 b3.2.2.2.1 b3.2.2.2.2.1 b3.2.2.2.2.2.1 b3.2.2.2.2.2.2.1 b3.2.2.2.2.2.2.2.1 b3.2.2.2.2.2.2.2.2.1 b3.2.2.2.2.2.2.2.2.2.1 b3.2.2.2.2.2.2.2.2.2.2.1).bind fun b4 => cond (!b4) (RET false) (cond (!b2.2.2.2.2.2.2.2.2.2.2.2.2) ((F15 k).bind fun b5 => RET b5) (cond (decide (0 ≤ (IntKind.i64.wrap (((b1.1.length : Nat) : Int) - 1))) && decide ((IntKind.i64.wrap (((b1.1.length : Nat) : Int) - 1)) ≤ ((b1.1.length : Nat) : Int))) (cond (decide ((([] : List (den (.int .u8))).length + ((b1.1.take ((IntKind.i64.wrap (((b1.1.length : Nat) : Int) - 1)).toNat)).drop 0).length) * 1 ≤ 140737488355328)) ((F36 k ([] ++ ((b1.1.take ((IntKind.i64.wrap (((b1.1.length : Nat) : Int) - 1)).toNat)).drop 0)) b1.2.1 b1.2.2).bind fun b6 => (F14 k b2.1 b2.2.1 b2.2.2.1 b2.2.2.2.1 b2.2.2.2.2.1 b2.2.2.2.2.2.1 b2.2.2.2.2.2.2.1 b2.2.2.2.2.2.2.2.1 b2.2.2.2.2.2.2.2.2.1 b2.2.2.2.2.2.2.2.2.2.1 b2.2.2.2.2.2.2.2.2.2.2.1).bind fun b7 => cond b7 (RET (!b6.2.2.2.2.2.2.2.2.2.2.2.2)) (RET false)) none) none)))))
def F9 (k : Nat) (a0 : List (den (.int .u8))) : Option (Bool) := F9_T k a0 some
theorem F9_st {β : Type} (k : Nat) (a0 : List (den (.int .u8))) (K : A × List (List Leaf) → Option β) : evalF (F9_E k) Try.f9 (F9_a a0) K =
    F9_T k a0 (fun r => K (F9_r r)) := by kernel_rfl
theorem F9_ev {β : Type} (k : Nat) (a0 : List (den (.int .u8))) (K : A × List (List Leaf) → Option β) : evalF (F9_E k) Try.f9 (F9_a a0) K = (F9 k a0).bind fun r => K (F9_r r) := by
  rw [F9_st, F9]
  simp only [F9_T, bind_cond, Option.bind_assoc, Option.bind_some, Option.bind_none, Option.bind_fun_some]
theorem F9_tOk (k : Nat) : TabFn Try.prog (F9_t k) := .ent (F40_q k) F40_f (.ent (F36_q k) F36_f (.ent (F37_q k) F37_f (.ent (F18_q k) F18_f (.ent (F15_q k) F15_f (.ent (F14_q k) F14_f (.none))))))
theorem F9_con (k : Nat) (a0 : List (den (.int .u8))) : Contract Try.prog 9 (F9_a a0) ⟨F9 k a0, F9_r⟩ := con_of (envOk (F9_tOk k) _ _ _ _) mixed Try.func9 rfl rfl (F9_ev k a0 some)
end Go.Proofs.Ytnagpaikjikhaaa.Gn
end
