/-
  What the proof of this row needs, part 4: the typed evaluator of the translated code, the functions that the law reaches as plain functions, and what they answer.
-/
import Derived.RangeFuncBox
import Derived.RangeFuncLeaves
import Derived.Shelf.Abstract
import Derived.WalkKit
import Derived.OwnWalkIn
import Derived.TacticsInMore
import Derived.LoopNIn
import Derived.LoopIn
import Derived.Test.YtdmepjjepogddaaGreatChecked
import Derived.KernelRfl
import Derived.RangeFuncNested
import Derived.Shelf.Spec.SlicesInsertGrow
import Derived.Shelf.RegionOpenPlain
import Derived.Deep.LoopGhost
import Derived.Deep.RegionLaw
import Derived.Lib.Walk
import Derived.Lib.SliceRun
import Derived.Lib.SlicesDelete
import Derived.Test.YtdmepjjepogddaaGreatA3
section
namespace Go.Proofs.YtdmepjjepogddaaGreat.It
open Go.RowKit Go.Shelf Go.Rf
attribute [local go_sem] Oper.semAt_some
set_option linter.unusedVariables false
set_option maxRecDepth 100000 in
set_option maxHeartbeats 2000000 in
theorem mk (w : World) (a : Option Addr) (len cap : Nat) (n : Int) (hn : 1 ≤ n) : CallsIn Fence.wide 1 Tryz.prog 164 #[.slice a len cap, .int .i64 n] w fun e w' =>
  e = .returned (.func (.func 229) #[] #[.pointer (some ⟨w.heap.size, 0, none⟩), .pointer (some ⟨w.heap.size + 1, 0, none⟩)]) ∧ w' = (w.alloc (.cells #[.slice a len cap] 23)).alloc (.cells #[.int .i64 n] 3) := by
 have hlt : (decide (n < 1)) = false := decide_eq_false (by omega)
 refine callsIn_of_wp Tryz.func164 rfl trivial ?_ rfl
 simp only [Tryz.ntmps164, List.size_toArray, List.length_cons, List.length_nil, Nat.reduceAdd, Nat.reduceSub, Array.replicate_succ, Array.replicate_zero, List.push_toArray, List.append_toArray, List.nil_append, List.cons_append]
 gi_wp2
 go_ret
 exact ⟨rfl, rfl⟩
set_option maxRecDepth 100000 in
set_option maxHeartbeats 4000000 in
theorem it (lp N : Nat) (a : Option Addr) (len cap b1 b2 : Nat) (J : Nat → World → Prop) (W : World) (hN : 1 ≤ N) (hl : len ≤ 140737488355328) (hN2 : (N : Int) ≤ 9223372036854775807) (hc : len ≤ cap) (ha : a = none → len = 0)
    (hJ : ∀ j W, J j W → W.cell? ⟨b1, 0, none⟩ = some (.slice a len cap) ∧ W.cell? ⟨b2, 0, none⟩ = some (.int .i64 (N : Int))) (hd : ∀ j W, J j W → J j { W with drawn := W.drawn + 1 })
    (hY : ∀ j W, j * N < len → J j W → YieldAt Fence.wide 0 Tryz.prog lp #[.slice (a.map (·.add (j * N * 1))) (min N (len - j * N)) (min N (len - j * N))] W fun e W' => e = .returned (.bool true) ∧ J (j + 1) W') (h0 : J 0 W) :
    CallsIn Fence.wide 1 Tryz.prog 229 #[.func (.yield lp) #[] #[], .pointer (some ⟨b1, 0, none⟩), .pointer (some ⟨b2, 0, none⟩)] W fun e W' => (∃ v, e = .returned v) ∧ J ((len + N - 1) / N) W' := by
  refine callsIn_of_wp Tryz.func229 rfl trivial ?_ rfl
  simp only [Tryz.ntmps229, List.size_toArray, List.length_cons, List.length_nil, Nat.reduceAdd, Nat.reduceSub, Array.replicate_succ, Array.replicate_zero, List.push_toArray, List.append_toArray, List.nil_append, List.cons_append]
  gi_wp2
  gi_loopw [4] (fun i wr => ∃ k : Nat, i = .int .i64 ((k * N : Nat) : Int) ∧ (k = 0 ∨ (k - 1) * N < len) ∧ J k wr) (fun i _ => len + N - (intOf i).toNat)
  case atStart => exact ⟨0, by simp, .inl rfl, h0⟩
  case round =>
    obtain ⟨k, rfl, hk, hJs⟩ := hrel
    obtain ⟨hc1, hc2⟩ := hJ k wr hJs
    by_cases hlt : k * N < len
    · obtain ⟨⟨ab, ao, asp⟩, rfl⟩ : ∃ ad, a = some ad := by
        cases a with
        | none => exact absurd (ha rfl) (by omega)
        | some ad => exact ⟨ad, rfl⟩
      have hkn : ((k : Int) * (N : Int)) < (len : Int) := by exact_mod_cast hlt
      have hkc : ((k : Int) * (N : Int)) ≤ (cap : Int) := by omega
      have hk0 : (0 : Int) ≤ (k : Int) * (N : Int) := by exact_mod_cast Nat.zero_le (k * N)
      gi_wp2
      gi_region
      have hm : (if len - k * N < N then ((len - k * N : Nat) : Int) else ((N : Nat) : Int)) = ((min N (len - k * N) : Nat) : Int) := by split <;> omega
      first | rw [hm] | rw [show min (N : Int) ((len - k * N : Nat) : Int) = ((min N (len - k * N) : Nat) : Int) by omega]
      obtain ⟨hc3, hc4⟩ := hJ k wr.drew (hd k wr hJs)
      obtain ⟨fn, tmps, assign, body, hy, hR⟩ := hY k wr.drew hlt (hd k wr hJs)
      simp only [Option.map_some, Nat.mul_one] at hy
      have he1 : 1 ≤ min N (len - k * N) := by omega
      have he2 : k * N + min N (len - k * N) ≤ len := by omega
      have he3 : min N (len - k * N) ≤ N := by omega
      generalize min N (len - k * N) = e at *
      have he4 : ((k : Int) * (N : Int)) + (e : Int) ≤ (cap : Int) := by have : ((k * N + e : Nat) : Int) ≤ (len : Int) := by exact_mod_cast he2
                                                                         push_cast at this; omega
      gi_wp2
      refine hR.mono ?_
      rintro e' W3 ⟨rfl, hJ3⟩
      obtain ⟨hc5, hc6⟩ := hJ (k + 1) W3 hJ3
      have hk2 : k = 0 ∨ ((k : Int) * (N : Int)) + (N : Int) ≤ 9223372036854775807 := by
        rcases Nat.eq_zero_or_pos k with h | h
        · exact .inl h
        · right
          have : N ≤ k * N := Nat.le_mul_of_pos_left N h
          have : ((k * N : Nat) : Int) + (N : Int) ≤ 9223372036854775807 := by omega
          push_cast at this
          exact this
      have hk3 : ((k : Int) * (N : Int)) + (N : Int) ≤ 9223372036854775807 := by
        rcases hk2 with rfl | h
        · simpa using hN2
        · exact h
      gi_wp2
      go_roundw
      case rel =>
        refine ⟨k + 1, ?_, .inr (by simpa using hlt), hJ3⟩
        congr 1
        rw [Nat.add_mul]
        push_cast
        omega
      case measure =>
        simp [RowKit.intOf]
        have e1 : ((k : Int) * (N : Int)) = ((k * N : Nat) : Int) := by push_cast; rfl
        rw [e1]
        generalize k * N = q at *
        omega
    · have hkn : ¬ ((k : Int) * (N : Int)) < (len : Int) := by exact_mod_cast hlt
      gi_wp2
      go_end0
      refine ⟨⟨_, rfl⟩, ?_⟩
      have : (len + N - 1) / N = k := by
        rcases hk with rfl | hk
        · have : len = 0 := by omega
          subst this
          rw [Nat.zero_add]
          exact Nat.div_eq_of_lt (by omega)
        · have h1 : 1 ≤ k := by
            rcases Nat.eq_zero_or_pos k with rfl | h
            · simp at hk hlt; omega
            · exact h
          obtain ⟨m, rfl⟩ : ∃ m, k = m + 1 := ⟨k - 1, by omega⟩
          rw [Nat.add_sub_cancel] at hk
          have h2 : (m + 1) * N = m * N + N := Nat.succ_mul m N
          rw [h2] at hlt
          refine Nat.div_eq_of_lt_le ?_ ?_
          · rw [h2]; omega
          · rw [Nat.succ_mul, h2]; omega
      rw [this]
      exact hJs
theorem mkOk : ItMk Tryz.prog 164 229 := ⟨FnOk.of (by kernel_rfl), fun w a len cap n hn => Calls.mono (callsIn_wide.1 (mk w a len cap n hn)) fun e w' ⟨h1, h2⟩ => by
 subst h2
 have hs : ((w.alloc (.cells #[.slice a len cap] 23)).alloc (.cells #[.int .i64 n] 3)).heap.size = w.heap.size + 2 := by simp
 have c1 : (w.alloc (.cells #[.slice a len cap] 23)).heap[w.heap.size]? = some (.cells #[.slice a len cap] 23) := World.alloc_heap_new w _
 have c2 : ((w.alloc (.cells #[.slice a len cap] 23)).alloc (.cells #[.int .i64 n] 3)).heap[w.heap.size + 1]? = some (.cells #[.int .i64 n] 3) := by
  have := World.alloc_heap_new (w.alloc (.cells #[.slice a len cap] 23)) (.cells #[.int .i64 n] 3); rwa [World.size_alloc] at this
 have c3 : ((w.alloc (.cells #[.slice a len cap] 23)).alloc (.cells #[.int .i64 n] 3)).heap[w.heap.size]? = some (.cells #[.slice a len cap] 23) := (Below.heap_alloc _ _ _ (by simp)).trans c1
 refine ⟨w.heap.size, w.heap.size + 1, h1, ⟨by omega, by omega⟩, ⟨by omega, by omega⟩, by simp only [cellAt, World.cell?]; rw [c3]; rfl, by simp only [cellAt, World.cell?]; rw [c2]; rfl, fun q hq => (Below.heap_alloc _ _ _ (by simp; omega)).trans (Below.heap_alloc _ _ _ hq), by omega, ⟨rfl, rfl, rfl⟩⟩⟩
theorem itOk : ItOk Tryz.prog 229 (.int .u8) := ⟨FnOk.of (by kernel_rfl), fun lp n a len cap b1 b2 J W hn hl hc ha hJ hd hY h0 => by
 obtain ⟨N, rfl⟩ := Int.eq_ofNat_of_zero_le (show 0 ≤ n by have := hn.1; omega)
 exact it lp N a len cap b1 b2 J W (by have := hn.1; omega) hl hn.2 hc ha hJ hd hY h0⟩
end Go.Proofs.YtdmepjjepogddaaGreat.It
end

section
set_option linter.unusedVariables false
set_option linter.unusedSimpArgs false
namespace Go.Proofs.YtdmepjjepogddaaGreat.Gr
open Go.Rf IntKind
noncomputable section
abbrev Ce : Ty := (.pair (.int .i64) (.pair (.int .i64) (.pair (.int .i64) (.int .i64))))
abbrev Qj : MT := .pair mI (.pair mI (.pair mI mI))
abbrev Gl {β : Type} (e : (den Ce)) (f : Int → Int → Int → Int → β) : β := f e.1 e.2.1 e.2.2.1 e.2.2.2
def tyT : List (Nat × TyI) := [(3, ⟨(.int .i64), false, 0⟩), (4, ⟨.bool, false, 0⟩), (114, ⟨Ce, true, 0⟩)]
def Xf2 : Xpb := [(114, [(0, 1, false), (1, 1, false), (2, 1, false), (3, 1, false)])]
def eqT : List Nat := []
def A6 (tab : Tab) (hint : Nat → Hint) (rm : Rf.Mode) (pins : List (Bool × Nat)) (k : Nat) : Env :=
 { tab := tab, lend := (fun _ => []), lent := (fun _ => []), pins := pins, ty := asc tyT, fld := Ot Xf2, pw := fun _ => none, cw := fun _ => [], hint := hint, eqt := Cg eqT, rm := rm, fuel := k }
theorem tyOk : AllT (TyOk Tryz.prog) tyT :=
 ⟨.ofInt (b := 8) (by kernel_rfl) (by kernel_rfl), .ofBool (b := 1) (by kernel_rfl) (by kernel_rfl), .ofAgg (b := 32) (by kernel_rfl) (by kernel_rfl), trivial⟩
theorem fldOk : AllF Tryz.prog Xf2 :=
 ⟨⟨⟨by kernel_rfl, by kernel_rfl⟩, ⟨by kernel_rfl, by kernel_rfl⟩, ⟨by kernel_rfl, by kernel_rfl⟩, ⟨by kernel_rfl, by kernel_rfl⟩, trivial⟩, trivial⟩
theorem Ah : Tryz.prog.follows .mixedOrders = true := by kernel_rfl
theorem bldOk : AllT (fun t i => i.agg = true → BldOk Tryz.prog t (Ot Xf2 t)) tyT :=
 ⟨nofun, nofun, fun _ => C3 (row := [(0, 1, false), (1, 1, false), (2, 1, false), (3, 1, false)]) rfl (by kernel_rfl) (by kernel_rfl), trivial⟩
theorem eqOkT : AllT (fun t i => Cg eqT t = true → EqOk Tryz.prog t i.ty) tyT :=
 ⟨fun h => absurd h (by decide), fun h => absurd h (by decide), fun h => absurd h (by decide), trivial⟩
theorem Xsg (tab : Tab) (hint : Nat → Hint) (rm : Rf.Mode) (pins : List (Bool × Nat)) (k : Nat) : TysOk Tryz.prog (A6 tab hint rm pins k) :=
 ⟨fun t i h => tyOk.get h, fun s f z h => fldOk.get h, fun t i h => bldOk.get h, fun t i h h2 => eqOkT.get h2 h, fun _ h => by cases h⟩
theorem Ai {tab : Tab} (h : TabFn Tryz.prog tab) (hint : Nat → Hint) (rm : Rf.Mode) (pins : List (Bool × Nat)) (k : Nat) : EnvOk Tryz.prog (A6 tab hint rm pins k) := EnvOk.of (Xsg tab hint rm pins k) h
def Bn : Tab := fun _ _ => none
def Ap : Nat → Hint := fun _ => ⟨[], []⟩
abbrev Ygc (k : Nat) : Env := A6 Bn Ap .own [] k
abbrev Xpf : List PA := [.agg Qj, .one mI]
abbrev F146_O : RO := ⟨[.v], [mB]⟩
def Zk {β : Type} (RET : Bool → Option β) (k : Nat) (v : (den Ce)) (w : Int) : Option β := Gl v fun v0 v1 _ _ => cond (decide ((i64.wrap (16 - v1)) < 0)) none (cond (decide ((i64.wrap (16 - v1)) < 0)) none (RET ((w.fdiv (2 ^ (min (i64.wrap (16 - v1)).toNat 64))) == (v0.fdiv (2 ^ (min (i64.wrap (16 - v1)).toNat 64))))))
def Xoh := Zk (β := Bool) some
theorem Xzb {β : Type} (k : Nat) (v : (den Ce)) (w : Int) (K : KT β) : Ag (Ygc k) Tryz.f146 (PsT.put Xpf (v, w, ())) K = (Xoh k v w).bind fun r => K (F146_O.put r) :=
 Eq.trans (b := Zk (fun r => K (F146_O.put r)) k v w) (by kernel_rfl) (by simp only [Xoh, Zk, z1, z2, z3, z4, z5, z6, z7, z8, Gl])
def X66 (k : Nat) : FD := ⟨146, Xpf, F146_O, Xoh k⟩
theorem X7o (k : Nat) : (X66 k).Ok Tryz.prog := ⟨fun x => Aa (Ai .none _ _ _ _) Ah Tryz.func146 rfl rfl (Xzb k _ _ some), .of (by kernel_rfl)⟩
end
end Go.Proofs.YtdmepjjepogddaaGreat.Gr
end

section
namespace Go.Proofs.YtdmepjjepogddaaGreat.Rt
open Go.RowKit Go.Shelf Go.Rf
attribute [local go_sem] Oper.semAt_some
set_option linter.unusedVariables false
abbrev E : Ty := .pair (.int .i64) (.pair (.int .i64) (.pair (.int .i64) (.int .i64)))
def okB (r : den E) : Bool := decide (0 ≤ (r.2.1 : Int)) && decide ((r.2.1 : Int) ≤ 16)
def V0 (w : Int) (r : den E) : Bool := w.fdiv (2 ^ (16 - r.2.1 : Int).toNat) == (r.1 : Int).fdiv (2 ^ (16 - r.2.1 : Int).toNat)
def Cf (w p : Int) : List (den E) → den E × Bool
 | [] => ((0, 0, 0, 0), false)
 | r :: l => cond (decide ((r.2.1 : Int) < p) && V0 w r) (r, true) (Cf w p l)
def to (v : List (den E)) (w p : Int) : Option (den E × Bool) := cond (v.all okB && decide (v.length ≤ 1000000)) (some (Cf w p v.reverse)) none
set_option maxRecDepth 100000 in
set_option maxHeartbeats 1000000 in
theorem mk (F : Fence) (n : Nat) (hF : F.fn 145) (hro : F.round = none) (w : World) (a : Option Addr) (len cap : Nat) : CallsIn F n Tryz.prog 145 #[.slice a len cap] w fun e w' =>
  e = .returned (.func (.func 223) #[] #[.pointer (some ⟨w.heap.size, 0, none⟩)]) ∧ w' = w.alloc (.cells #[.slice a len cap] 50) := by
 refine callsIn_of_wp Tryz.func145 rfl hF ?_ hro
 simp only [Tryz.ntmps145, List.size_toArray, List.length_cons, List.length_nil, Nat.reduceAdd, Nat.reduceSub, Array.replicate_succ, Array.replicate_zero, List.push_toArray, List.append_toArray, List.nil_append, List.cons_append]
 gi_wp2
 go_ret
 exact ⟨rfl, rfl⟩
def rv (r : den E) : Value := .agg #[.int .i64 r.1, .int .i64 r.2.1, .int .i64 r.2.2.1, .int .i64 r.2.2.2]
def zr : den E := (0, 0, 0, 0)
def Oj {α : Type} (f : Nat → α) (k : Nat) : List α := (List.range k).map f
theorem Wb {α : Type} (f : Nat → α) (k : Nat) : Oj f (k + 1) = Oj f k ++ [f k] := by simp [Oj, List.range_succ]
theorem Xcc {α : Type} (f : Nat → α) (k : Nat) : (Oj f k).length = k := by simp [Oj]
def bk (zs : List (den E)) (j : Nat) : Nat × den E := (zs.length - 1 - j, zs[zs.length - 1 - j]?.getD zr)
abbrev RT : Type := { x : Nat × den E // okB x.2 = true }
theorem Yhm {zs : List (den E)} (h : zs.all okB = true) (j : Nat) : okB (bk zs j).2 = true := by
 unfold bk
 by_cases hj : zs.length - 1 - j < zs.length
 ·rw [List.getElem?_eq_getElem hj, Option.getD_some]
  exact List.all_eq_true.1 h _ (List.getElem_mem hj)
 ·rw [List.getElem?_eq_none (by omega)]; rfl
def bks (zs : List (den E)) (h : zs.all okB = true) (j : Nat) : RT := ⟨bk zs j, Yhm h j⟩
set_option maxRecDepth 100000 in
set_option maxHeartbeats 2000000 in
theorem Yit (F : Fence) (n : Nat) (hF : F.fn 223) (hro : F.round = none) (hn : 1 ≤ n) (l Bs n₀ b off cap : Nat) (zs : List (den E)) (hz : zs.all okB = true) (hreach : zs.length ≤ 1000000) (hcap : zs.length ≤ cap) (hb : b < n₀) (J Jx : List RT → World → Prop)
  (hY : ∀ pre x W, J pre W → pre.length < zs.length → YieldAt F (n - 1) Tryz.prog l #[.int .i64 (x.1.1 : Int), rv x.1.2] W fun e W' =>
   (e = .returned (.bool true) ∧ J (pre ++ [x]) W' ∧ (Below n₀ W W' ∧ W'.cell? ⟨Bs, 0, none⟩ = W.cell? ⟨Bs, 0, none⟩)) ∨ (e = .returned (.bool false) ∧ Jx (pre ++ [x]) W'))
  (W : World) (hBs : W.cell? ⟨Bs, 0, none⟩ = some (.slice (some ⟨b, off, none⟩) zs.length cap))
  (hc : ∀ i, i < zs.length → W.cell? ⟨b, off + i * 4, none⟩ = some (.int .i64 (zs[i]?.getD zr).1) ∧ W.cell? ⟨b, off + i * 4 + 1, none⟩ = some (.int .i64 (zs[i]?.getD zr).2.1) ∧ W.cell? ⟨b, off + i * 4 + 2, none⟩ = some (.int .i64 (zs[i]?.getD zr).2.2.1) ∧ W.cell? ⟨b, off + i * 4 + 3, none⟩ = some (.int .i64 (zs[i]?.getD zr).2.2.2)) (h0 : J [] W) :
  CallsIn F n Tryz.prog 223 #[.func (.yield l) #[] #[], .pointer (some ⟨Bs, 0, none⟩)] W fun e W' => (∃ v, e = .returned v) ∧
   ((∃ ys, ys = Oj (bks zs hz) zs.length ∧ J ys W') ∨ (∃ pre, (∃ k, k ≤ zs.length ∧ pre = Oj (bks zs hz) k) ∧ Jx pre W')) := by
 refine callsIn_of_wp Tryz.func223 rfl hF ?_ hro
 simp only [Tryz.ntmps223, List.size_toArray, List.length_cons, List.length_nil, Nat.reduceAdd, Nat.reduceSub, Array.replicate_succ, Array.replicate_zero, List.push_toArray, List.append_toArray, List.nil_append, List.cons_append]
 gi_wp2
 gi_loopw [3] (fun i wr => ∃ k : Nat, k ≤ zs.length ∧ i = .int .i64 ((zs.length : Int) - 1 - k) ∧ J (Oj (bks zs hz) k) wr ∧ (Below n₀ W wr ∧ wr.cell? ⟨Bs, 0, none⟩ = W.cell? ⟨Bs, 0, none⟩))
  (fun i _ => (RowKit.intOf i + 1).toNat)
 case atStart => exact ⟨0, Nat.zero_le _, by simp, h0, Below.refl _ _, rfl⟩
 case round =>
  obtain ⟨k, hk, rfl, hJs, hnx, hbs⟩ := hrel
  rw [hBs] at hbs
  by_cases hlt : k < zs.length
  ·obtain ⟨fn, tmps, assign, body, hy, hR⟩ := hY _ (bks zs hz k) wr hJs (by rw [Xcc]; exact hlt)
   obtain ⟨c0, c1, c2, c3⟩ := hc (zs.length - 1 - k) (by omega)
   have d0 := (hnx.cell (p := ⟨b, off + (zs.length - 1 - k) * 4, none⟩) hb).trans c0
   have d1 := (hnx.cell (p := ⟨b, off + (zs.length - 1 - k) * 4 + 1, none⟩) hb).trans c1
   have d2 := (hnx.cell (p := ⟨b, off + (zs.length - 1 - k) * 4 + 2, none⟩) hb).trans c2
   have d3 := (hnx.cell (p := ⟨b, off + (zs.length - 1 - k) * 4 + 3, none⟩) hb).trans c3
   have e1 : ((zs.length : Int) - 1 - (k : Int)) = ((zs.length - 1 - k : Nat) : Int) := by omega
   rw [e1]
   simp only [bks, bk] at hy
   have hj : zs.length - 1 - k < zs.length := by omega
   generalize hjj : zs.length - 1 - k = j at *
   simp only [rv, List.getElem?_eq_getElem hj, Option.getD_some] at hy
   gi_wp2
   refine hR.mono ?_
   rintro e W3 (⟨rfl, hJ3, hk3, hk4⟩ | ⟨rfl, hJx3⟩)
   ·gi_wp2
    go_roundw
    case rel => exact ⟨k + 1, by omega, by congr 1; omega, by rw [Wb]; exact hJ3, hnx.trans hk3, by rw [hk4, hbs, hBs]⟩
    case measure => simp [RowKit.intOf]
   ·gi_wp2
    refine bodyPost_ret (results_none rfl _ _ _) rfl ?_
    exact ⟨⟨_, rfl⟩, .inr ⟨_, ⟨k + 1, by omega, (Wb _ _).symm⟩, hJx3⟩⟩
  ·obtain rfl : k = zs.length := by omega
   gi_wp2
   go_end0
   exact ⟨⟨_, rfl⟩, .inl ⟨_, rfl, hJs⟩⟩
set_option maxRecDepth 100000 in
set_option maxHeartbeats 1000000 in
theorem Yki (F : Fence) (n : Nat) (hF : F.fn 223) (hro : F.round = none) (l Bs cap : Nat) (ad : Option Addr) (J : List RT → World → Prop) (W : World) (hBs : W.cell? ⟨Bs, 0, none⟩ = some (.slice ad 0 cap)) (h0 : J [] W) :
  CallsIn F n Tryz.prog 223 #[.func (.yield l) #[] #[], .pointer (some ⟨Bs, 0, none⟩)] W fun e W' => (∃ v, e = .returned v) ∧ J [] W' := by
 refine callsIn_of_wp Tryz.func223 rfl hF ?_ hro
 simp only [Tryz.ntmps223, List.size_toArray, List.length_cons, List.length_nil, Nat.reduceAdd, Nat.reduceSub, Array.replicate_succ, Array.replicate_zero, List.push_toArray, List.append_toArray, List.nil_append, List.cons_append]
 gi_wp2
 gi_loopw [3] (fun i wr => i = .int .i64 (-1) ∧ J [] wr) (fun _ _ => 0)
 case atStart => exact ⟨rfl, h0⟩
 case round =>
  obtain ⟨rfl, hJs⟩ := hrel
  gi_wp2
  go_end0
  exact ⟨⟨_, rfl⟩, hJs⟩
def Rts (n₀ : Nat) (W : World) (sv : Value) (zs : List (den E)) : Prop :=
 (∃ ad c, sv = .slice ad 0 c ∧ zs = []) ∨ ∃ b off cap, sv = .slice (some ⟨b, off, none⟩) zs.length cap ∧ zs.length ≤ cap ∧ b < n₀ ∧
  ∀ i, i < zs.length → W.cell? ⟨b, off + i * 4, none⟩ = some (.int .i64 (zs[i]?.getD zr).1) ∧ W.cell? ⟨b, off + i * 4 + 1, none⟩ = some (.int .i64 (zs[i]?.getD zr).2.1) ∧ W.cell? ⟨b, off + i * 4 + 2, none⟩ = some (.int .i64 (zs[i]?.getD zr).2.2.1) ∧ W.cell? ⟨b, off + i * 4 + 3, none⟩ = some (.int .i64 (zs[i]?.getD zr).2.2.2)
theorem Rts.below {n₀ : Nat} {A B : World} (h : Below n₀ A B) {sv : Value} {zs : List (den E)} : Rts n₀ A sv zs → Rts n₀ B sv zs
 | .inl e => .inl e
 | .inr ⟨b, off, cap, e, hl, hb, hc⟩ => .inr ⟨b, off, cap, e, hl, hb, fun i hi => by
  obtain ⟨c0, c1, c2, c3⟩ := hc i hi
  exact ⟨(h.cell (p := ⟨b, _, none⟩) hb).trans c0, (h.cell (p := ⟨b, _, none⟩) hb).trans c1, (h.cell (p := ⟨b, _, none⟩) hb).trans c2, (h.cell (p := ⟨b, _, none⟩) hb).trans c3⟩⟩
def KP (n₀ Bs : Nat) (A B : World) : Prop := Below n₀ A B ∧ B.cell? ⟨Bs, 0, none⟩ = A.cell? ⟨Bs, 0, none⟩
theorem KP.t {n₀ Bs : Nat} {A B C : World} (h : KP n₀ Bs A B) (k : KP n₀ Bs B C) : KP n₀ Bs A C := ⟨h.1.trans k.1, k.2.trans h.2⟩
theorem Xyf {W : World} {l q : Nat} {o' : Obj} (h : q ≠ l) : (W.putObj l o').cell? ⟨q, 0, none⟩ = W.cell? ⟨q, 0, none⟩ := by
 simp only [World.cell?, World.putObj_heap_other h]
theorem KP.b {n₀ Bs : Nat} {w : World} (hn : n₀ ≤ w.heap.size) (hB : Bs < w.heap.size) (W : World) (l : Nat) (o o' : Obj) (hl : w.heap.size ≤ l) (h : W.heap[l]? = some o) (h1 : o.isCells = false) (h2 : o.isWalk = false) : KP n₀ Bs W (W.putObj l o') :=
 ⟨belowK_b hn W l o o' hl h h1 h2, Xyf (by omega)⟩
theorem stops (F : Fence) (n : Nat) (hF : F.fn 223) (hro : F.round = none) (hn : 1 ≤ n) (Bs n₀ : Nat) (sv : Value) (zs : List (den E)) (hz : zs.all okB = true) (hreach : zs.length ≤ 1000000) (w : World) (hBs : Bs < w.heap.size) (hn₀ : n₀ ≤ w.heap.size)
  (hc : w.cell? ⟨Bs, 0, none⟩ = some sv) (hI : Rts n₀ w sv zs) :
  SeqStopsK F n Tryz.prog 223 #[.pointer (some ⟨Bs, 0, none⟩)] (fun x : RT => #[Value.int .i64 (x.1.1 : Int), rv x.1.2]) (KP n₀ Bs) (fun ys => ys = Oj (bks zs hz) zs.length)
   (fun pre => ∃ k, k ≤ zs.length ∧ pre = Oj (bks zs hz) k) zs.length w := fun l J Jx W hW _ _ hY h0 => by
 have hc' := (hW.cell (p := ⟨Bs, 0, none⟩) hBs).trans hc
 rcases hI.below (hW.mono hn₀) with ⟨ad, c, rfl, rfl⟩ | ⟨b, off, cap, rfl, hl, hb, hcs⟩
 ·exact (Yki F n hF hro l Bs c ad J W hc' h0).mono fun e W' ⟨he, hj⟩ => ⟨he, .inl ⟨_, rfl, hj⟩⟩
 ·exact Yit F n hF hro hn l Bs n₀ b off cap zs hz hreach hl hb J Jx hY W hc' hcs h0
theorem c146 (r : den E) (w : Int) : Contract Tryz.prog 146 [.agg [.l (.v (.int .i64 r.1)), .l (.v (.int .i64 r.2.1)), .l (.v (.int .i64 r.2.2.1)), .l (.v (.int .i64 r.2.2.2))], .one (.l (.v (.int .i64 w)))] ⟨Gr.Xoh 0 r w, fun b => (.one (.v (.bool b)), [])⟩ := (Gr.X7o 0).con (r, w, ())
theorem Nd (F : Fence) (hF : Fw F) (n : Nat) (r : den E) (w : Int) (hr : okB r = true) (W : World) : CallsIn F n Tryz.prog 146 #[rv r, .int .i64 w] W fun e W' => e = .returned (.bool (V0 w r)) ∧ Below W.heap.size W W' := by
 obtain ⟨r0, r1, r2, r3⟩ := r
 simp only [okB, Bool.and_eq_true, decide_eq_true_eq] at hr
 obtain ⟨q0, q1⟩ := hr
 have q0 : @LE.le Int _ 0 r1 := q0
 have q1 : @LE.le Int _ r1 16 := q1
 have hF146 : Gr.Xoh 0 (r0, r1, r2, r3) w = some (V0 w (r0, r1, r2, r3)) := by
  unfold Gr.Xoh Gr.Zk V0
  dsimp only [Gr.Gl]
  have e : IntKind.i64.wrap (16 - r1) = 16 - r1 := by rw [IntKind.wrap_i64]; omega
  rw [e, decide_eq_false (by omega), cond_false, cond_false, Nat.min_eq_left (by omega)]
 have c := c146 (r0, r1, r2, r3) w W (fun _ => False) [rv (r0, r1, r2, r3), .int .i64 w] [[], []]
  ⟨⟨[.int .i64 r0, .int .i64 r1, .int .i64 r2, .int .i64 r3], [[], [], [], []], rfl, ⟨⟨rfl, rfl⟩, ⟨rfl, rfl⟩, ⟨rfl, rfl⟩, ⟨rfl, rfl⟩, trivial⟩, rfl⟩, ⟨rfl, rfl⟩, trivial⟩
  (by simp) (by simp) (fun _ h => h.elim) (List.nodup_nil (α := Nat × Nat)) (fun a ha => by cases ha) (V0 w (r0, r1, r2, r3)) hF146
 have c2 : Calls Tryz.prog 146 #[rv (r0, r1, r2, r3), .int .i64 w] W fun e W' => e = .returned (.bool (V0 w (r0, r1, r2, r3))) ∧ Below W.heap.size W W' := by
  refine Calls.mono c ?_
  rintro e W' ⟨v, rfl, hP⟩
  obtain ⟨S', bs, bbs, h1, _⟩ := hP.ex
  obtain ⟨rfl, _⟩ := (h1 : v = .bool (V0 w (r0, r1, r2, r3)) ∧ bs = [])
  refine ⟨rfl, hP.io.os, hP.io.tape, hP.io.output, hP.sz, fun q hq => ?_⟩
  exact (hP.frm q hq (by simp)).eq fun o ho => by cases ho
 exact hF.calls c2
def Row4 (W : World) (B : Nat) (r : den E) : Prop := W.heap[B]? = some (.cells #[.int .i64 r.1, .int .i64 r.2.1, .int .i64 r.2.2.1, .int .i64 r.2.2.2] 114 (0, 0))
theorem Row4.lt {W : World} {B : Nat} {r : den E} (h : Row4 W B r) : B < W.heap.size := (Array.getElem?_eq_some_iff.1 h).1
theorem Row4.c {W : World} {B : Nat} {r : den E} (h : Row4 W B r) : W.cell? ⟨B, 0, none⟩ = some (.int .i64 r.1) ∧ W.cell? ⟨B, 1, none⟩ = some (.int .i64 r.2.1) ∧ W.cell? ⟨B, 2, none⟩ = some (.int .i64 r.2.2.1) ∧ W.cell? ⟨B, 3, none⟩ = some (.int .i64 r.2.2.2) := by
 unfold Row4 at h
 simp [World.cell?, h]
theorem Row4.f {W : World} {B : Nat} {r : den E} (h : Row4 W B r) : W.frozen? ⟨B, 0, none⟩ = false ∧ W.frozen? ⟨B, 1, none⟩ = false ∧ W.frozen? ⟨B, 2, none⟩ = false ∧ W.frozen? ⟨B, 3, none⟩ = false := by
 unfold Row4 at h
 simp [World.frozen?, h]
theorem Wu (w p : Int) : ∀ (l : List (den E)), (∀ r ∈ l, (decide ((r.2.1 : Int) < p) && V0 w r) = false) → Cf w p l = ((0, 0, 0, 0), false)
 | [], _ => rfl
 | r :: l, h => by
  rw [Cf, h r List.mem_cons_self, cond_false]
  exact Wu w p l fun x hx => h x (List.mem_cons_of_mem _ hx)
theorem W0 (w p : Int) (r : den E) (b : List (den E)) (hr : (decide ((r.2.1 : Int) < p) && V0 w r) = true) : ∀ (a : List (den E)), (∀ r ∈ a, (decide ((r.2.1 : Int) < p) && V0 w r) = false) → Cf w p (a ++ r :: b) = (r, true)
 | [], _ => by rw [List.nil_append, Cf, hr]; rfl
 | x :: a, h => by
  rw [List.cons_append, Cf, h x List.mem_cons_self, cond_false]
  exact W0 w p r b hr a fun y hy => h y (List.mem_cons_of_mem _ hy)
theorem Xbr (v : List (den E)) (hz : v.all okB = true) (k : Nat) (hk : k ≤ v.length) : (Oj (bks v hz) k).map (fun x => x.1.2) = v.reverse.take k := by
 apply List.ext_getElem
 ·simp [Oj]; omega
 ·intro i h1 h2
  have hi : i < k := by simpa [Oj] using h1
  simp only [Oj, List.map_map, List.getElem_map, List.getElem_range, Function.comp_apply, bks, bk, List.getElem_take, List.getElem_reverse]
  rw [List.getElem?_eq_getElem (by omega), Option.getD_some]
theorem Lb {W : World} {B : Nat} {cs : Array Value} {te : TypeId} {fr : Nat × Nat} (h : W.heap[B]? = some (.cells cs te fr)) (o : Nat) (v : Value) : (W.setCell ⟨B, o, none⟩ v).heap[B]? = some (.cells (cs.setIfInBounds o v) te fr) := by
 show (W.heap.modify B _)[B]? = _
 rw [Array.getElem?_modify, if_pos rfl, h]
 rfl
theorem Row4.set {W : World} {B : Nat} {r : den E} (h : Row4 W B r) (r' : den E) : Row4 ((((W.setCell ⟨B, 0, none⟩ (.int .i64 r'.1)).setCell ⟨B, 1, none⟩ (.int .i64 r'.2.1)).setCell ⟨B, 2, none⟩ (.int .i64 r'.2.2.1)).setCell ⟨B, 3, none⟩ (.int .i64 r'.2.2.2)) B r' := by
 have := Lb (Lb (Lb (Lb h 0 (.int .i64 r'.1)) 1 (.int .i64 r'.2.1)) 2 (.int .i64 r'.2.2.1)) 3 (.int .i64 r'.2.2.2)
 simpa [Row4] using this
structure Inv (A : Nat) (w p : Int) (W : World) (sv : Value) (X : World) : Prop where
 b0 : Boxed X A 3 (.int .i64 w)
 b1 : Boxed X (A + 1) 3 (.int .i64 p)
 b2 : ∃ r, Row4 X (A + 1 + 1) r
 b3 : ∃ c, Boxed X (A + 1 + 1 + 1) 4 (.bool c)
 b4 : Boxed X (A + 1 + 1 + 1 + 1) 50 sv
 bel : Below A W X
theorem Inv.heap {A : Nat} {w p : Int} {W : World} {sv : Value} {X Y : World} (h : Inv A w p W sv X) (hs : ∀ k, A ≤ k → k < A + 5 → Y.heap[k]? = X.heap[k]?) (hb : Below A W Y) : Inv A w p W sv Y :=
 ⟨(hs _ (by omega) (by omega)).trans h.b0, (hs _ (by omega) (by omega)).trans h.b1, h.b2.imp fun _ h => (hs _ (by omega) (by omega)).trans h, h.b3.imp fun _ h => (hs _ (by omega) (by omega)).trans h, (hs _ (by omega) (by omega)).trans h.b4, hb⟩
theorem Inv.lt {A : Nat} {w p : Int} {W : World} {sv : Value} {X : World} (h : Inv A w p W sv X) : A + 5 ≤ X.heap.size := by have := h.b4.lt; omega
theorem Inv.own {A : Nat} {w p : Int} {W : World} {sv : Value} (hA : A ≤ W.heap.size) {β : Type} (B : Nat) (hB : A + 5 ≤ B) : OwnFrom B (fun (_ : β) X => Inv A w p W sv X) := fun s X Y row hs hg hr =>
 hs.heap (fun k _ hk => hg.block k (by have := hs.lt; omega) (fun e => by have := (hr k e.symm).1; omega)) (hs.bel.grown hg (by have := hs.lt; omega) (fun k e => by have := (hr k e).1; omega))
theorem Inv.alloc {A : Nat} {w p : Int} {W : World} {sv : Value} {X : World} (h : Inv A w p W sv X) (o : Obj) : Inv A w p W sv (X.alloc o) :=
 h.heap (fun k _ hk => Below.heap_alloc _ _ _ (by have := h.lt; omega)) (h.bel.trans ((Below.refl A X).alloc (by have := h.lt; omega) o))
theorem Inv.call {A : Nat} {w p : Int} {W : World} {sv : Value} {X Y : World} (h : Inv A w p W sv X) (hB : Below X.heap.size X Y) : Inv A w p W sv Y :=
 h.heap (fun k _ hk => hB.block k (by have := h.lt; omega)) (h.bel.trans (hB.mono (by have := h.lt; omega)))
set_option maxRecDepth 100000 in
set_option maxHeartbeats 4000000 in
theorem Yij (v : List (den E)) (hv : v.length ≤ 1000000) (hok : v.all okB = true) (sv : Value) (w p : Int) (ad : Option Addr) (cap : Nat) (hsv : sv = .slice ad v.length cap) (W : World) (hI : Rts W.heap.size W sv v) :
  CallsIn Fence.wide 3 Tryz.prog 74 #[sv, .int .i64 w, .int .i64 p] W fun e W' => e = .returned (.tuple #[rv (Cf w p v.reverse).1, .bool (Cf w p v.reverse).2]) ∧ Below W.heap.size W W' := by
 subst hsv
 have h1 : 1 ≤ 3 := by omega
 refine callsIn_of_wp_marks Tryz.func74 rfl trivial ?_ rfl
 simp only [Tryz.ntmps74, List.size_toArray, List.length_cons, List.length_nil, Nat.reduceAdd, Nat.reduceSub, Array.replicate_succ, Array.replicate_zero, List.push_toArray, List.append_toArray, List.nil_append, List.cons_append]
 gi_wp2
 refine ⟨trivial, (mk Fence.wide 2 trivial rfl _ _ _ _).mono ?_⟩
 rintro e w' ⟨rfl, rfl⟩
 dsimp only
 gi_wp2
 have hIw := hI
 obtain ⟨w1, hw1⟩ : ∃ w1, (((((W.alloc (Obj.cells #[Value.int IntKind.i64 w] 3)).alloc (Obj.cells #[Value.int IntKind.i64 p] 3)).alloc (Obj.cells #[Value.int IntKind.i64 0, Value.int IntKind.i64 0, Value.int IntKind.i64 0, Value.int IntKind.i64 0] 114)).alloc (Obj.cells #[Value.bool false] 4)).alloc (Obj.cells #[Value.slice ad v.length cap] 50)) = w1 := ⟨_, rfl⟩
 have b0 := Boxed.new W 3 (.int .i64 w)
 have b1 := Boxed.new (W.alloc (Obj.cells #[Value.int IntKind.i64 w] 3)) 3 (.int .i64 p)
 have b2 : Row4 (((W.alloc (Obj.cells #[Value.int IntKind.i64 w] 3)).alloc (Obj.cells #[Value.int IntKind.i64 p] 3)).alloc (Obj.cells #[Value.int IntKind.i64 0, Value.int IntKind.i64 0, Value.int IntKind.i64 0, Value.int IntKind.i64 0] 114)) _ zr := World.alloc_heap_new _ _
 have b3 := Boxed.new (((W.alloc (Obj.cells #[Value.int IntKind.i64 w] 3)).alloc (Obj.cells #[Value.int IntKind.i64 p] 3)).alloc (Obj.cells #[Value.int IntKind.i64 0, Value.int IntKind.i64 0, Value.int IntKind.i64 0, Value.int IntKind.i64 0] 114)) 4 (.bool false)
 have b4 := Boxed.new ((((W.alloc (Obj.cells #[Value.int IntKind.i64 w] 3)).alloc (Obj.cells #[Value.int IntKind.i64 p] 3)).alloc (Obj.cells #[Value.int IntKind.i64 0, Value.int IntKind.i64 0, Value.int IntKind.i64 0, Value.int IntKind.i64 0] 114)).alloc (Obj.cells #[Value.bool false] 4)) 50 (.slice ad v.length cap)
 simp only [World.size_alloc] at b1 b2 b3 b4
 have hB0 : Below W.heap.size W w1 := by
  rw [← hw1]
  exact ((((((Below.refl _ W).alloc (Nat.le_refl _) _).alloc (by simp) _).alloc (by simp; omega) _).alloc (by simp; omega) _).alloc (by simp; omega) _)
 have hs1 : w1.heap.size = W.heap.size + 5 := by rw [← hw1]; simp
 have c0 := (((b0.alloc (Obj.cells #[Value.int IntKind.i64 p] 3)).alloc (Obj.cells #[Value.int IntKind.i64 0, Value.int IntKind.i64 0, Value.int IntKind.i64 0, Value.int IntKind.i64 0] 114)).alloc (Obj.cells #[Value.bool false] 4)).alloc (Obj.cells #[Value.slice ad v.length cap] 50)
 have c1 := ((b1.alloc (Obj.cells #[Value.int IntKind.i64 0, Value.int IntKind.i64 0, Value.int IntKind.i64 0, Value.int IntKind.i64 0] 114)).alloc (Obj.cells #[Value.bool false] 4)).alloc (Obj.cells #[Value.slice ad v.length cap] 50)
 have c3 := b3.alloc (Obj.cells #[Value.slice ad v.length cap] 50)
 have c2 : Row4 w1 (W.heap.size + 1 + 1) zr := by
  rw [← hw1]
  exact (Below.heap_alloc _ _ _ (by simp)).trans ((Below.heap_alloc _ _ _ (by simp)).trans b2)
 rw [hw1] at c0 c1 c3 b4
 rw [hw1]
 simp only [World.size_alloc]
 clear hw1 b0 b1 b2 b3 hI
 generalize hA : W.heap.size = A at *
 have fin : ∀ {r : den E} {c : Bool} {D : Nat} {Y : World} {t8 t9 t12 t13 t14 t15 t16 t17 t18 t19 t20 t21 t22 t23 t24 : Value}, Cf w p v.reverse = (r, c) → A + 5 ≤ D → Row4 Y (A + 1 + 1) r → Boxed Y (A + 1 + 1 + 1) 4 (.bool c) → Y.heap[D]? = some (.deferred (some [])) → Below W.heap.size W Y →
   bodyPostM Fence.wide 3 Tryz.prog Tryz.f74 (fun e W' => e = .returned (.tuple #[rv (Cf w p v.reverse).1, .bool (Cf w p v.reverse).2]) ∧ Below W.heap.size W W') .ret
    { tmps := #[.slice ad v.length cap, .int .i64 w, .int .i64 p, undef, .pointer (some ⟨A, 0, none⟩), .pointer (some ⟨A + 1, 0, none⟩), .pointer (some ⟨A + 1 + 1, 0, none⟩), .pointer (some ⟨A + 1 + 1 + 1, 0, none⟩), t8, t9, .slice ad v.length cap, .func (.func 223) #[] #[.pointer (some ⟨A + 1 + 1 + 1 + 1, 0, none⟩)], t12, t13, t14, t15, t16, t17, t18, t19, t20, t21, t22, t23, t24], defers := [{ target := .collected D, args := #[] }] } Y := by
  intro r c D Y t8 t9 t12 t13 t14 t15 t16 t17 t18 t19 t20 t21 t22 t23 t24 hf hD h4 h3 hK hb
  rw [hf]
  refine ⟨by simp, .inl ⟨_, _, rfl, run_takeDeferred hK, ?_⟩⟩
  have r4 : Row4 (Y.putObj D (.deferred none)) (A + 1 + 1) r := (World.putObj_heap_other (by omega)).trans h4
  have r3 : Boxed (Y.putObj D (.deferred none)) (A + 1 + 1 + 1) 4 (.bool c) := (World.putObj_heap_other (by omega)).trans h3
  obtain ⟨q0, q1, q2, q3⟩ := r4.c
  have q4 := r3.cell
  refine ⟨.tuple #[rv r, .bool c], ?_, rfl, hb.trans (belowK_b (w := W) (Nat.le_refl _) Y D _ _ (by omega) hK rfl rfl)⟩
  simp [results, Tryz.f74, go_sem, q0, q1, q2, q3, q4, rv]
 refine wpIn_rangeFunc_ownH rfl h1 (gf := 223) (lb := #[.pointer (some ⟨A + 1 + 1 + 1 + 1, 0, none⟩)]) rfl trivial (enters_of Tryz.func223 (by kernel_rfl) rfl)
  (stops Fence.wide 2 trivial rfl (by omega) (A + 1 + 1 + 1 + 1) A (.slice ad v.length cap) v hok hv w1 (by omega) (by omega) b4.cell (hIw.below hB0)) KP.t (KP.b (by omega) (by omega)) (Below.refl _ _) (fun _ => rfl)
  (fun pre X => (∀ x ∈ pre, (decide ((x.1.2.2.1 : Int) < p) && V0 w x.1.2) = false) ∧ Inv A w p W (.slice ad v.length cap) X)
  (fun c pre X => c = .ret ∧ ∃ ini last, pre = ini ++ [last] ∧ (∀ x ∈ ini, (decide ((x.1.2.2.1 : Int) < p) && V0 w x.1.2) = false) ∧ (decide ((last.1.2.2.1 : Int) < p) && V0 w last.1.2) = true ∧ Row4 X (A + 1 + 1) last.1.2 ∧ Boxed X (A + 1 + 1 + 1) 4 (.bool true) ∧ Below A W X)
  ?ownI ?ownX ?h0
  (fun x a' X => ∃ R, A + 5 ≤ R ∧ Row4 X R x.1.2 ∧ a' = { tmps := #[.slice ad v.length cap, .int .i64 w, .int .i64 p, undef, .pointer (some ⟨A, 0, none⟩), .pointer (some ⟨A + 1, 0, none⟩), .pointer (some ⟨A + 1 + 1, 0, none⟩), .pointer (some ⟨A + 1 + 1 + 1, 0, none⟩), undef, .pointer (some ⟨R, 0, none⟩), .slice ad v.length cap, .func (.func 223) #[] #[.pointer (some ⟨A + 1 + 1 + 1 + 1, 0, none⟩)], .int .i64 (x.1.1 : Int), rv x.1.2, undef, undef, undef, undef, undef, undef, undef, undef, undef, undef, undef], defers := [] }) ?ownA ?assign ?body ?done ?stop
 case ownI => exact OwnFrom.and (ownFrom_pure _ _) (Inv.own (by omega) _ (by omega))
 case ownX =>
  intro c s X Y row ⟨h0, ini, last, h1, h2, h3, h4, h5, h6⟩ hg hr
  have l4 := h4.lt
  have l5 := h5.lt
  exact ⟨h0, ini, last, h1, h2, h3, (hg.block _ l4 (fun e => by have := (hr _ e.symm).1; omega)).trans h4, (hg.block _ l5 (fun e => by have := (hr _ e.symm).1; omega)).trans h5, h6.grown hg (by omega) (fun k e => by have := (hr k e).1; omega)⟩
 case h0 => exact ⟨by simp, c0, c1, ⟨_, c2⟩, ⟨_, c3⟩, b4, hB0⟩
 case ownA =>
  intro x a' s X Y row ⟨R, h1, h2, h3⟩ hg hr
  have l2 := h2.lt
  refine ⟨R, h1, (hg.block _ l2 (fun e => ?_)).trans h2, h3⟩
  obtain ⟨_, o, h4, h5⟩ := hr _ e.symm
  rw [show X.heap[R]? = _ from h2] at h4
  cases h4; cases h5
 case assign =>
  intro l pre x X K ⟨hX0, hX⟩ hK
  simp only [rv]
  gi_wp2
  have hl := hX.lt
  refine hK _ _ (KeepsFrom.of_grownBy (World.grownBy_alloc X _ none) (fun j e => by cases e)) ⟨(Below.refl A X).alloc (by omega) _, ?_⟩ ⟨hX0, hX.alloc _⟩ ⟨X.heap.size, hl, World.alloc_heap_new X _, rfl⟩
  rw [(hX.alloc _).b4.cell, hX.b4.cell]
 case body =>
  rintro l pre x a' X hl hr ⟨i0, hX⟩ ⟨R, hR, hRr, rfl⟩ hlen
  obtain ⟨d0, d1, d2, d3⟩ := hRr.c
  have k1 := hX.b0.cell
  have k2 := hX.b1.cell
  have hlX := hX.lt
  have hRX := hRr.lt
  have stay : ∀ {Y : World} (a' : Act), Below X.heap.size X Y → (decide ((x.1.2.2.1 : Int) < p) && V0 w x.1.2) = false → ownPostG w1.heap.size (KP A (A + 1 + 1 + 1 + 1)) (fun pre X => (∀ x ∈ pre, (decide ((x.1.2.2.1 : Int) < p) && V0 w x.1.2) = false) ∧ Inv A w p W (.slice ad v.length cap) X) (fun c pre X => c = .ret ∧ ∃ ini last, pre = ini ++ [last] ∧ (∀ x ∈ ini, (decide ((x.1.2.2.1 : Int) < p) && V0 w x.1.2) = false) ∧ (decide ((last.1.2.2.1 : Int) < p) && V0 w last.1.2) = true ∧ Row4 X (A + 1 + 1) last.1.2 ∧ Boxed X (A + 1 + 1 + 1) 4 (.bool true) ∧ Below A W X) (pre ++ [x]) X .normal a' Y := fun {Y} a' hB hc =>
   ⟨⟨hB.size, fun k o _ h0 _ => (hB.block k (Array.getElem?_eq_some_iff.1 h0).1).trans h0⟩, ⟨hB.mono (by omega), by rw [(hX.call hB).b4.cell, hX.b4.cell]⟩, fun y hy => (List.mem_append.1 hy).elim (i0 y) (fun e => by rw [List.mem_singleton.1 e]; exact hc), hX.call hB⟩
  simp only [rv]
  gi_wp2
  ·refine ⟨trivial, (Nd _ (.inr ⟨l, rfl⟩) 0 x.1.2 w x.2 X).mono ?_⟩
   rintro e w' ⟨rfl, hB⟩
   dsimp only
   have hRr' : Row4 w' R x.1.2 := (hB.block _ hRX).trans hRr
   obtain ⟨e0, e1, e2, e3⟩ := hRr'.c
   have hX' := hX.call hB
   obtain ⟨r0, hr0⟩ := hX'.b2
   obtain ⟨f0, f1, f2, f3⟩ := hr0.c
   obtain ⟨g0, g1, g2, g3⟩ := hr0.f
   obtain ⟨cb, hcb⟩ := hX'.b3
   have m0 := hcb.cell
   have m1 := hcb.frozen
   cases hf : V0 w x.1.2 with
   | false =>
    gi_wp2
    exact stay _ hB (by rw [hf, Bool.and_false])
   | true =>
    gi_wp2
    rename_i hlt
    have h5 := hr0.set x.1.2
    have nb : ∀ (q : Nat), q ≠ A + 1 + 1 → ((((w'.setCell ⟨A + 1 + 1, 0, none⟩ (.int .i64 x.1.2.1)).setCell ⟨A + 1 + 1, 1, none⟩ (.int .i64 x.1.2.2.1)).setCell ⟨A + 1 + 1, 2, none⟩ (.int .i64 x.1.2.2.2.1)).setCell ⟨A + 1 + 1, 3, none⟩ (.int .i64 x.1.2.2.2.2)).heap[q]? = w'.heap[q]? := fun q hq => by
     rw [Ar hq, Ar hq, Ar hq, Ar hq]
    have h6 : Boxed ((((w'.setCell ⟨A + 1 + 1, 0, none⟩ (.int .i64 x.1.2.1)).setCell ⟨A + 1 + 1, 1, none⟩ (.int .i64 x.1.2.2.1)).setCell ⟨A + 1 + 1, 2, none⟩ (.int .i64 x.1.2.2.2.1)).setCell ⟨A + 1 + 1, 3, none⟩ (.int .i64 x.1.2.2.2.2)) (A + 1 + 1 + 1) 4 (.bool cb) := (nb _ (by omega)).trans hcb
    refine ⟨(KeepsFrom.mk hB.size fun k o _ h0 _ => (hB.block k (Array.getElem?_eq_some_iff.1 h0).1).trans h0).trans ((((((KeepsOthers.setCell _ _ _).from _).trans ((KeepsOthers.setCell _ _ _).from _)).trans ((KeepsOthers.setCell _ _ _).from _)).trans ((KeepsOthers.setCell _ _ _).from _)).trans ((KeepsOthers.setCell _ _ _).from _)), rfl, pre, x, rfl, i0, by rw [hf, Bool.and_true]; exact decide_eq_true hlt, ?_, h6.set _, ?_⟩
    ·exact (Ar (by omega)).trans h5
    ·exact ((((hX'.bel.setCell (p := ⟨A + 1 + 1, 0, none⟩) (by show A ≤ A + 1 + 1; omega) _).setCell (p := ⟨A + 1 + 1, 1, none⟩) (by show A ≤ A + 1 + 1; omega) _).setCell (p := ⟨A + 1 + 1, 2, none⟩) (by show A ≤ A + 1 + 1; omega) _).setCell (p := ⟨A + 1 + 1, 3, none⟩) (by show A ≤ A + 1 + 1; omega) _).setCell (p := ⟨A + 1 + 1 + 1, 0, none⟩) (by show A ≤ A + 1 + 1 + 1; omega) _
  ·refine ⟨trivial, ?_⟩
   gi_wp2
   rename_i hge
   exact stay _ (Below.refl _ _) (by rw [decide_eq_false (Int.not_lt.2 hge), Bool.false_and])
 case done =>
  rintro D xs X hD rfl ⟨hne, hX⟩ hK
  obtain ⟨r0, hr0⟩ := hX.b2
  obtain ⟨f0, f1, f2, f3⟩ := hr0.c
  obtain ⟨g0, g1, g2, g3⟩ := hr0.f
  obtain ⟨cb, hcb⟩ := hX.b3
  have m0 := hcb.cell
  have m1 := hcb.frozen
  have hfd : Cf w p v.reverse = ((0, 0, 0, 0), false) := Wu w p _ fun r hr => by
   rw [← List.take_length (l := v.reverse), List.length_reverse, ← Xbr v hok _ (Nat.le_refl _)] at hr
   obtain ⟨x, hx, rfl⟩ := List.mem_map.1 hr
   exact hne x hx
  gi_wp2
  have nb : ∀ (q : Nat), q ≠ A + 1 + 1 → ((((X.setCell ⟨A + 1 + 1, 0, none⟩ (.int .i64 0)).setCell ⟨A + 1 + 1, 1, none⟩ (.int .i64 0)).setCell ⟨A + 1 + 1, 2, none⟩ (.int .i64 0)).setCell ⟨A + 1 + 1, 3, none⟩ (.int .i64 0)).heap[q]? = X.heap[q]? := fun q hq => by
   rw [Ar hq, Ar hq, Ar hq, Ar hq]
  have h6 : Boxed ((((X.setCell ⟨A + 1 + 1, 0, none⟩ (.int .i64 0)).setCell ⟨A + 1 + 1, 1, none⟩ (.int .i64 0)).setCell ⟨A + 1 + 1, 2, none⟩ (.int .i64 0)).setCell ⟨A + 1 + 1, 3, none⟩ (.int .i64 0)) (A + 1 + 1 + 1) 4 (.bool cb) := (nb _ (by omega)).trans hcb
  have h5 := hr0.set zr
  have hbel := ((((hX.bel.setCell (p := ⟨A + 1 + 1, 0, none⟩) (by show A ≤ A + 1 + 1; omega) (.int .i64 0)).setCell (p := ⟨A + 1 + 1, 1, none⟩) (by show A ≤ A + 1 + 1; omega) (.int .i64 0)).setCell (p := ⟨A + 1 + 1, 2, none⟩) (by show A ≤ A + 1 + 1; omega) (.int .i64 0)).setCell (p := ⟨A + 1 + 1, 3, none⟩) (by show A ≤ A + 1 + 1; omega) (.int .i64 0)).setCell (p := ⟨A + 1 + 1 + 1, 0, none⟩) (by show A ≤ A + 1 + 1 + 1; omega) (.bool false)
  exact fin hfd (by omega) ((Ar (by omega)).trans h5) (h6.set _) ((Ar (by omega)).trans ((nb D (by omega)).trans hK)) (by rw [hA]; exact hbel)
 case stop =>
  rintro D c pre X hD ⟨k, hk, rfl⟩ ⟨rfl, ini, last, e1, e2, e3, hr4, hb3, hbel⟩ hK
  have hfd : Cf w p v.reverse = (last.1.2, true) := by
   have h2 := Xbr v hok k hk
   rw [e1, List.map_append, List.map_singleton] at h2
   have h3 : v.reverse = ini.map (fun x => x.1.2) ++ last.1.2 :: v.reverse.drop k := by
    conv => lhs; rw [← List.take_append_drop k v.reverse, ← h2]
    simp
   rw [h3]
   refine W0 w p _ _ e3 _ fun r hr => ?_
   obtain ⟨x, hx, rfl⟩ := List.mem_map.1 hr
   exact e2 x hx
  gi_wp2
  exact fin hfd (by omega) hr4 hb3 hK (by rw [hA]; exact hbel)
theorem Xud {w : World} {S : Nat → Prop} {a b c : Arg} {vals : List Value} {bss : List (List Nat)} (h : ArgsV w S [a, b, c] vals bss) :
  ∃ y iv z bl bi bv, vals = [y, iv, z] ∧ bss = [bl, bi, bv] ∧ ArgV w S a y bl ∧ ArgV w S b iv bi ∧ ArgV w S c z bv := by
 rcases vals with _ | ⟨y, _ | ⟨iv, _ | ⟨z, _ | _⟩⟩⟩ <;> rcases bss with _ | ⟨bl, _ | ⟨bi, _ | ⟨bv, _ | _⟩⟩⟩ <;> simp only [ArgsV, and_false] at h
 exact ⟨_, _, _, _, _, _, rfl, rfl, h.1, h.2.1, h.2.2.1⟩
theorem Ykj {w : World} {S : Nat → Prop} {m : Rf.Mode} {x : den E} {u : List Value} {b : List Nat} (h : Rd w S E m x u b) : u = [.int .i64 x.1, .int .i64 x.2.1, .int .i64 x.2.2.1, .int .i64 x.2.2.2] := by
 obtain ⟨_, _, _, _, rfl, rfl, ⟨rfl, rfl⟩, _, _, _, _, rfl, rfl, ⟨rfl, rfl⟩, _, _, _, _, rfl, rfl, ⟨rfl, rfl⟩, ⟨rfl, rfl⟩⟩ := h
 rfl
theorem Yfg {w : World} {S : Nat → Prop} {v : List (den E)} {y : Value} {bs : List Nat} (h : Rd w S (.sl E) .ro v [y] bs) (hS : ∀ b, S b → b < w.heap.size) :
  (∃ ad cap, y = .slice ad v.length cap) ∧ Rts w.heap.size w y v ∧ bs = [] := by
 obtain ⟨y', hy, ad, c, rfl, hc, _, hr⟩ := h
 simp only [List.cons.injEq, and_true] at hy
 subst hy
 refine ⟨⟨_, _, rfl⟩, ?_, ?_⟩
 ·cases v with
  | nil => exact .inl ⟨_, _, rfl, rfl⟩
  | cons r0 v =>
   rcases hr with ⟨_, h, _⟩ | ⟨b, o, bss, rfl, hl, _, h2, _, hel⟩
   ·cases h
   ·obtain ⟨_, _, h3⟩ := h2 rfl
    refine .inr ⟨b, o, c, rfl, hc, hS _ (h3 (by simp)), fun i hi => ?_⟩
    obtain ⟨vs, hvl, hcell, hrd⟩ := hel i ((r0 :: v)[i]) (bss[i]'(by omega)) (by simp) (List.getElem?_eq_getElem hi) (List.getElem?_eq_getElem (by omega))
    have he := Ykj hrd
    subst he
    rw [List.getElem?_eq_getElem hi, Option.getD_some]
    exact ⟨hcell 0 (by decide), hcell 1 (by decide), hcell 2 (by decide), hcell 3 (by decide)⟩
 ·rcases hr with ⟨_, _, _, h⟩ | ⟨b, o, bss, rfl, hl, _, h2, _, hel⟩
  ·exact h
  ·exact (h2 rfl).1
set_option maxRecDepth 100000 in
theorem con (v : List (den E)) (w p : Int) : Contract Tryz.prog 74 [.one (.l (.s .ro E v)), .one (.l (.v (.int .i64 w))), .one (.l (.v (.int .i64 p)))]
  ⟨to v w p, fun r => (.tup [(true, enc .own E r.1), (false, [.v (.bool r.2)])], [])⟩ := by
 intro W S vals bss hA hnd hown hS _ _ r hr
 obtain ⟨y, iv, z, bl, bi, bv, rfl, rfl, h1, h2, h3⟩ := Xud hA
 obtain ⟨rfl, rfl⟩ : iv = .int .i64 w ∧ bi = [] := h2
 obtain ⟨rfl, rfl⟩ : z = .int .i64 p ∧ bv = [] := h3
 have hr : to v w p = some r := hr
 unfold to at hr
 cases hk : (v.all okB && decide (v.length ≤ 1000000)) with
 | false => rw [hk] at hr; cases hr
 | true =>
  rw [hk, cond_true, Option.some.injEq] at hr
  simp only [Bool.and_eq_true, decide_eq_true_eq] at hk
  obtain ⟨⟨ad, cap, hy⟩, hI, rfl⟩ := Yfg (show Rd W S (.sl E) .ro v [y] bl from h1) hS
  have c := callsIn_wide.1 (Yij v hk.2 hk.1 y w p ad cap hy W hI)
  rw [hr] at c
  refine c.mono ?_
  rintro e W' ⟨rfl, hB⟩
  refine ⟨_, rfl, ⟨S, [], [], ⟨[rv r.1, .bool r.2], [[], []], rfl, ⟨⟨_, [[], [], [], []], rfl, ⟨⟨rfl, rfl⟩, ⟨rfl, rfl⟩, ⟨rfl, rfl⟩, ⟨rfl, rfl⟩, trivial⟩, rfl⟩, ⟨rfl, rfl⟩, trivial⟩, rfl⟩, trivial, by simp, by simp, fun _ h => h, fun q h => Nat.lt_of_lt_of_le (hS q h) hB.size, fun q h => .inl h, by simp, by simp [resBk, U1]⟩, hB.size, ⟨hB.os, hB.tape, hB.output⟩, fun q h1 h2 => .inl (hB.block q h1).symm⟩
#print axioms con
end Go.Proofs.YtdmepjjepogddaaGreat.Rt
end

section
namespace Go.Proofs.YtdmepjjepogddaaGreat.De
open Go.RowKit Go.Shelf Go.Lib Go.Proofs
set_option linter.unusedVariables false
set_option linter.unusedSimpArgs false
theorem u100 : Tryz.prog.underlying 100 = some (.slice 196) := by kernel_rfl
theorem u3 : Tryz.prog.underlying 3 = some (.int .i64) := by kernel_rfl
abbrev Z : Value := .agg #[.slice none 0 0, .int .i64 0]
theorem Xl0 : ∃ i, Tryz.prog.info? 196 = some i ∧ i.zero = some Z ∧ i.size = 2 ∧ i.bytes = 32 := info_parts (by kernel_rfl)
theorem Yg9 (w : World) : (zeroValue 196).run Tryz.prog w = .ok Z w := by
 obtain ⟨i, h1, h2, _⟩ := Xl0
 simp [zeroValue, typeInfo, h1, h2]
abbrev zz : List Value := [.slice none 0 0, .int .i64 0]
theorem X7a (w : World) (ty : TypeId) (b o c : Nat) (hc : ∀ j, j < 2 → (w.cell? ⟨b, o + j, none⟩).isSome = true) (hf : ∀ j, j < 2 → w.frozen? ⟨b, o + j, none⟩ = false) :
  (Builtin.clear_ #[100] ty #[.slice (some ⟨b, o, none⟩) 1 c]).run Tryz.prog w = .ok (.tuple #[]) (w.setCells b o zz) := by
 have hst := run_storeCells_cells (P := Tryz.prog) b o zz 0 w (by simpa using hc) (by simpa using hf) (by intro v hv; simp at hv; rcases hv with rfl | rfl <;> rfl)
 simp only [Nat.add_zero] at hst
 have hzc : (Builtin.zeroCells Z.cells 1).toList = zz := by
  simp [Builtin.zeroCells, Value.cells]
  rfl
 simp [Builtin.clear_, run_underlying u100, Yg9, hzc, hst]
set_option maxHeartbeats 4000000 in
set_option maxRecDepth 1000000 in
theorem del1 (b o c : Nat) (w : World) (hc1 : 1 ≤ c) (hc : ∀ j, j < 2 → (w.cell? ⟨b, o + j, none⟩).isSome = true) (hf : ∀ j, j < 2 → w.frozen? ⟨b, o + j, none⟩ = false) :
  Calls Tryz.prog 219 #[.slice (some ⟨b, o, none⟩) 1 c, .int .i64 0, .int .i64 1] w fun e w' => e = .returned (.slice (some ⟨b, o, none⟩) 0 c) ∧ w' = w.drew.setCells b o zz := by
 have Ah : Tryz.prog.follows .mixedOrders = true := by kernel_rfl
 obtain ⟨i0, hi0, hz0, hz1, hz2⟩ := Xl0
 have hcl := fun ty cc => X7a w.drew ty b o cc hc hf
 obtain ⟨A, hA⟩ : ∃ A : Addr, (if c = 1 then some (⟨b, o, none⟩ : Addr) else some ⟨b, o + 2, none⟩) = some A := by
  by_cases h : c = 1
  ·exact ⟨_, by rw [if_pos h]⟩
  ·exact ⟨_, by rw [if_neg h]⟩
 go_enter Tryz.func219, Tryz.ntmps219
 go_wp2_with fail
 go_region_law_o (refine step_append_room rfl (.tmp 22) (.tmp 25) 100 rfl 196 i0 2 u100 hi0 hz1 b o 0 c (by simp [Act.eval, Act.put]) A 0 (c - 1) [] (by simp [Act.eval, Act.put]; try exact hA) rfl (by intro j u h; simp at h) (by intro u h; cases h) (by omega) (by intro j h; simp at h) ?_)
 rw [show w.drew.setCells b o [] = w.drew from rfl]
 go_wp2
 go_ret
 exact ⟨rfl, rfl⟩
open Go.Rf
abbrev E : Ty := .pair (.sl (.pair (.int .i64) (.pair (.int .i64) (.pair (.int .i64) (.pair (.int .i64) (.pair (.int .i64) (.pair (.int .i64) (.pair .bool (.pair .bool (.sl (.int .u8))))))))))) (.int .i64)
def del (l : List (den E)) (i j : Int) : Option (List (den E)) := cond (decide (i = 0) && decide (j = 1) && decide (l.length = 1)) (some []) none
theorem L4 {b : Nat} : ∀ {vs : List Value} {o : Nat} {w : World}, BlkOk w b (o + vs.length) →
  (∀ q, q ≠ b → (w.setCells b o vs).heap[q]? = w.heap[q]?) ∧ (∀ n, BlkOk w b n → BlkOk (w.setCells b o vs) b n) ∧
   (∀ p, cellAt (w.setCells b o vs) b p = if o ≤ p ∧ p < o + vs.length then vs[p - o]? else cellAt w b p) ∧ (w.setCells b o vs).heap.size = w.heap.size ∧ Io w (w.setCells b o vs)
 | [], o, w, hb => ⟨fun _ _ => rfl, fun _ h => h, fun p => by rw [if_neg (by simp only [List.length_nil]; omega)]; rfl, rfl, Io.refl _⟩
 | v :: vs, o, w, hb => by
  have hb1 : BlkOk w b (o + 1) := by obtain ⟨cs, te, h2, h3⟩ := hb; exact ⟨cs, te, h2, by simp at h3; omega⟩
  obtain ⟨hq, hblk, hcell, hsz, hio⟩ := L4 (b := b) (vs := vs) (o := o + 1) (w := w.setCell ⟨b, o, none⟩ v)
   (Cm (by obtain ⟨cs, te, h2, h3⟩ := hb; exact ⟨cs, te, h2, by simp at h3; omega⟩))
  refine ⟨fun q hne => (hq q hne).trans (Ar hne), fun n hn => hblk n (Cm hn), fun p => ?_, hsz.trans (B8 _ _ _), (show Io w (w.setCell ⟨b, o, none⟩ v) from ⟨rfl, rfl, rfl⟩).trans hio⟩
  rw [World.setCells, hcell p]
  by_cases h2 : o + 1 ≤ p ∧ p < o + 1 + vs.length
  ·rw [if_pos h2, if_pos (by simp; omega)]
   rw [show p - o = (p - (o + 1)) + 1 by omega, List.getElem?_cons_succ]
  ·rw [if_neg h2, Dg hb1 (by omega)]
   by_cases h3 : p = o
   ·subst h3
    simp
   ·rw [if_neg (by simp [h3]), if_neg (by simp; omega)]
theorem Xud {w : World} {S : Nat → Prop} {a b c : Arg} {vals : List Value} {bss : List (List Nat)} (h : ArgsV w S [a, b, c] vals bss) :
  ∃ y iv z bl bi bv, vals = [y, iv, z] ∧ bss = [bl, bi, bv] ∧ ArgV w S a y bl ∧ ArgV w S b iv bi ∧ ArgV w S c z bv := by
 rcases vals with _ | ⟨y, _ | ⟨iv, _ | ⟨z, _ | _⟩⟩⟩ <;> rcases bss with _ | ⟨bl, _ | ⟨bi, _ | ⟨bv, _ | _⟩⟩⟩ <;> simp only [ArgsV, and_false] at h
 exact ⟨_, _, _, _, _, _, rfl, rfl, h.1, h.2.1, h.2.2.1⟩
theorem Xwa {w : World} {b n p : Nat} (h : BlkOk w b n) (hp : p < n) : (w.cell? ⟨b, p, none⟩).isSome = true ∧ w.frozen? ⟨b, p, none⟩ = false := by
 obtain ⟨cs, te, h1, h2⟩ := h
 unfold World.cell? World.frozen?
 simp only [h1, Option.isSome_none, Bool.false_eq_true, if_false]
 rw [Array.getElem?_eq_getElem (by omega)]
 exact ⟨rfl, by simp⟩
theorem fin {w w' : World} {S : Nat → Prop} {l : List (den E)} {y : Value} {b : Nat} {own : List Nat} (hR : Rd w' S (.sl E) .own l [y] [b]) (hb : b ∈ own ∨ w.heap.size ≤ b) (hown : ∀ q ∈ own, ¬ S q) (hS : ∀ q, S q → q < w.heap.size)
  (hsz : w.heap.size ≤ w'.heap.size) (hio : Io w w') (hfr : ∀ q, q < w.heap.size → q ∉ own → w'.heap[q]? = w.heap[q]?) : Post w S [] own w' (.one (.s .own E l), []) y := by
 refine ⟨⟨S, [b], [], hR, trivial, by simp, ?_, fun _ h => h, fun q h => Nat.lt_of_lt_of_le (hS q h) hsz, fun q h => .inl h, ?_, ?_⟩, hsz, hio, fun q h1 h2 => .inl (hfr q h1 h2).symm⟩
 ·intro q hq
  simp only [List.flatten_nil, List.append_nil, List.mem_singleton] at hq
  subst hq
  rcases hb with hb | hb
  ·exact hown _ hb
  ·intro h; have := hS _ h; omega
 ·intro q hq
  simp only [List.flatten_nil, List.append_nil, List.mem_singleton] at hq
  subst hq
  exact hb
 ·intro a ha; simp [resBk, U1] at ha
theorem con (l : List (den E)) (i j : Int) : Contract Tryz.prog 219 [.one (.l (.s .sown E l)), .one (.l (.v (.int .i64 i))), .one (.l (.v (.int .i64 j)))] ⟨del l i j, fun r => (.one (.s .own E r), [])⟩ := by
 intro w S vals bss hA hnd hown hS _ _ r hr
 obtain ⟨y, iv, jv, bl, bi, bj, rfl, rfl, h1, h2, h3⟩ := Xud hA
 obtain ⟨rfl, rfl⟩ : iv = .int .i64 i ∧ bi = [] := h2
 obtain ⟨rfl, rfl⟩ : jv = .int .i64 j ∧ bj = [] := h3
 have hr : del l i j = some r := hr
 unfold del at hr
 cases hk : (decide (i = 0) && decide (j = 1) && decide (l.length = 1)) with
 | false => rw [hk] at hr; cases hr
 | true =>
  rw [hk, cond_true, Option.some.injEq] at hr
  simp only [Bool.and_eq_true, decide_eq_true_eq] at hk
  obtain ⟨⟨rfl, rfl⟩, hl⟩ := hk
  subst hr
  obtain ⟨y', hy, ad, c, rfl, hlc, _, hh⟩ := (h1 : Rd w S (.sl E) .sown l [y] bl)
  obtain rfl : y = .slice ad l.length c := by simpa using hy
  rcases hh with ⟨_, e, _⟩ | ⟨b, o, bs', rfl, _, hb, _⟩
  ·rw [e] at hl; cases hl
  ·obtain ⟨rfl, hblk⟩ := hb rfl
   have hblk : BlkOk w b (o + c * 2) := hblk
   rw [hl] at hlc ⊢
   have hc : ∀ t, t < 2 → (w.cell? ⟨b, o + t, none⟩).isSome = true ∧ w.frozen? ⟨b, o + t, none⟩ = false := fun t ht => Xwa hblk (by omega)
   have hd0 : BlkOk w.drew b (o + c * 2) := hblk
   obtain ⟨q1, b1, c1, s1, io1⟩ := L4 (vs := zz) (o := o) (w := w.drew) (b := b) (by obtain ⟨p1, p2, p3, p4⟩ := hd0; exact ⟨p1, p2, p3, by show o + 2 ≤ _; omega⟩)
   refine (del1 b o c w hlc (fun t ht => (hc t ht).1) (fun t ht => (hc t ht).2)).mono ?_
   rintro e w' ⟨rfl, rfl⟩
   refine ⟨_, rfl, ?_⟩
   have hin : b ∈ [b :: bs'.flatten, [], []].flatten := by simp
   have hR : Rd (w.drew.setCells b o zz) S (.sl E) .own [] [.slice (some ⟨b, o, none⟩) 0 c] [b] :=
    ⟨_, rfl, some ⟨b, o, none⟩, c, rfl, Nat.zero_le _, (by intro h; cases h), .inr ⟨b, o, [], rfl, rfl, fun _ => ⟨rfl, b1 _ hd0⟩, (by intro h; cases h), (by intro i h; cases h), (by intro i x b' _ hx; simp at hx)⟩⟩
   exact fin hR (.inl hin) hown hS (by rw [s1]; exact Nat.le_refl _) ((show Io w w.drew from ⟨rfl, rfl, rfl⟩).trans io1) (fun q h1 h2 => q1 q (fun e => h2 (by rw [e]; exact hin)))
#print axioms con
end Go.Proofs.YtdmepjjepogddaaGreat.De
end

section
set_option linter.unusedVariables false
set_option linter.unusedSimpArgs false
namespace Go.Proofs.YtdmepjjepogddaaGreat.Gn
open Go.Rf IntKind
noncomputable section
abbrev Ce : Ty := (.pair (.int .i64) (.pair (.int .i64) (.pair (.int .i64) (.int .i64))))
abbrev A5 : Ty := (.pair (.int .i64) (.pair (.int .i64) (.pair (.int .i64) (.sl (.int .u8)))))
abbrev sta : Ty := (.pair (.int .i64) (.sl Ce))
abbrev A2 : Ty := (.pair (.int .i64) (.sl A5))
abbrev Al : Ty := (.pair (.int .i64) (.pair (.int .i64) (.pair (.int .i64) (.pair (.int .i64) (.pair (.int .i64) (.pair (.int .i64) (.pair .bool (.pair .bool (.sl (.int .u8))))))))))
abbrev A4 : Ty := (.pair (.sl Al) (.int .i64))
abbrev So : Ty := (.pair (.int .i64) (.pair (.int .i64) (.sl Al)))
abbrev Db : Ty := (.pair (.sl Al) A4)
abbrev Aj : Type := List (den (.int .u8))
abbrev Au : Type := List (den A5)
abbrev Ab : Type := List (den A2)
abbrev Aq : Type := List (den Al)
abbrev An : Type := List (den A4)
abbrev Az : Type := List (den Ce)
abbrev Ak : Type := List (den sta)
abbrev Bq : Type := List (den (.int .i64))
abbrev Fq : Type := List (den (.sl (.int .u8)))
abbrev Co : Type := List (den (.pair (.int .i64) Al))
abbrev Qj : MT := .pair mI (.sl .ro (.int .u8))
abbrev m_2 : MT := .pair mI (.sl .own (.int .u8))
abbrev m_3 : MT := .pair mI (.pair mI (.pair mI mI))
abbrev m_4 : MT := .pair mB (.sl .ro (.int .u8))
abbrev m_5 : MT := .pair mI (.pair mI (.pair mB m_4))
abbrev Da : MT := .pair mI (.pair mI (.pair mI m_5))
abbrev m_7 : MT := .pair mB (.sl .own (.int .u8))
abbrev m_8 : MT := .pair mI (.pair mI (.pair mB m_7))
abbrev m_9 : MT := .pair mI (.pair mI (.pair mI m_8))
abbrev Xr4 : MT := .pair mI (.pair mI (.sl .own Al))
abbrev m_11 : MT := .pair (.sl .ro Al) (.pair (.sl .ro Al) mI)
abbrev L3 : MT := .pair (.sl .own Al) (.pair (.sl .own Al) mI)
abbrev Xtf : MT := .pair (.sl .sown Al) (.pair (.sl .sown Al) mI)
abbrev X05 : MT := .pair mI (.pair mI (.sl .sown Al))
abbrev m_15 : MT := .pair mI (.lent .own (.int .u8))
abbrev Gl {β : Type} (e : (den Ce)) (f : Int → Int → Int → Int → β) : β := f e.1 e.2.1 e.2.2.1 e.2.2.2
abbrev Ff {β : Type} (e : (den A5)) (f : Int → Int → Int → Aj → β) : β := f e.1 e.2.1 e.2.2.1 e.2.2.2
abbrev A1 {β : Type} (e : (den Al)) (f : Int → Int → Int → Int → Int → Int → Bool → Bool → Aj → β) : β := f e.1 e.2.1 e.2.2.1 e.2.2.2.1 e.2.2.2.2.1 e.2.2.2.2.2.1 e.2.2.2.2.2.2.1 e.2.2.2.2.2.2.2.1 e.2.2.2.2.2.2.2.2
abbrev u_3 {β : Type} (e : (Int × (Int × Aj))) (f : Int → Int → Aj → β) : β := f e.1 e.2.1 e.2.2
abbrev Bo {β : Type} (e : (den A4)) (f : Aq → Int → β) : β := f e.1 e.2
def tyT : List (Nat × TyI) := [(3, ⟨(.int .i64), false, 0⟩), (4, ⟨.bool, false, 0⟩), (5, ⟨(.int .u8), false, 0⟩), (9, ⟨.str, false, 0⟩), (22, ⟨(.sl sta), false, 32⟩), (23, ⟨(.sl (.int .u8)), false, 1⟩), (27, ⟨(.sl sta), false, 32⟩), (40, ⟨(.sl A2), false, 32⟩), (42, ⟨A5, true, 0⟩), (50, ⟨(.sl Ce), false, 32⟩), (52, ⟨sta, true, 0⟩), (56, ⟨Al, true, 0⟩), (57, ⟨(.sl A2), false, 32⟩), (58, ⟨A5, true, 0⟩), (92, ⟨(.sl Ce), false, 32⟩), (94, ⟨sta, true, 0⟩), (96, ⟨(.sl Al), false, 80⟩), (98, ⟨Db, true, 0⟩), (100, ⟨(.sl A4), false, 32⟩), (114, ⟨Ce, true, 0⟩), (121, ⟨(.sl A5), false, 48⟩), (123, ⟨A2, true, 0⟩), (133, ⟨(.sl A5), false, 48⟩), (135, ⟨A2, true, 0⟩), (158, ⟨(.sl (.sl (.int .u8))), false, 24⟩), (190, ⟨(.sl (.int .i64)), false, 8⟩), (192, ⟨So, true, 0⟩), (196, ⟨A4, true, 0⟩), (224, ⟨(.int .u64), false, 0⟩), (266, ⟨Ce, true, 0⟩), (268, ⟨(.pair (.int .i64) Al), true, 0⟩), (269, ⟨(.sl (.pair (.int .i64) Al)), false, 88⟩), (346, ⟨(.pair (.int .i64) (.pair (.int .i64) (.sl (.int .u8)))), true, 0⟩)]
def Xf2 : Xpb := [(42, [(0, 1, false), (1, 1, false), (2, 1, false), (3, 1, false)]), (52, [(0, 1, false), (1, 1, false)]), (56, [(0, 1, false), (1, 1, false), (2, 1, false), (3, 1, false), (4, 1, false), (5, 1, false), (6, 1, false), (7, 1, false), (8, 1, false)]), (58, [(0, 1, false), (1, 1, false), (2, 1, false), (3, 1, false)]), (94, [(0, 1, false), (1, 1, false)]), (98, [(0, 1, false), (1, 1, false), (2, 1, false)]), (114, [(0, 1, false), (1, 1, false), (2, 1, false), (3, 1, false)]), (123, [(0, 1, false), (1, 1, false)]), (135, [(0, 1, false), (1, 1, false)]), (192, [(0, 1, false), (1, 1, false), (2, 1, false)]), (196, [(0, 1, false), (1, 1, false)]), (266, [(0, 1, false), (1, 1, false), (2, 1, false), (3, 1, false)]), (268, [(0, 1, false), (1, 9, true)]), (346, [(0, 1, false), (1, 1, false), (2, 1, false)])]
def eqT : List Nat := []
def A6 (tab : Tab) (hint : Nat → Hint) (rm : Rf.Mode) (pins : List (Bool × Nat)) (k : Nat) : Env :=
 { tab := tab, lend := (fun f => cond (Nat.beq f 151) [true] (cond (Nat.beq f 150) [true] (cond (Nat.beq f 219) [true] (cond (Nat.beq f 276) [true] (cond (Nat.beq f 211) [true] (cond (Nat.beq f 271) [true] (cond (Nat.beq f 163) [true] (cond (Nat.beq f 197) [true] (cond (Nat.beq f 266) [true] ([])))))))))), lent := (fun f => cond (Nat.beq f 100) [true] (cond (Nat.beq f 41) [true] (cond (Nat.beq f 40) [true] (cond (Nat.beq f 215) [true] (cond (Nat.beq f 68) [true] (cond (Nat.beq f 20) [true] (cond (Nat.beq f 19) [true] ([])))))))), pins := pins, ty := asc tyT, fld := Ot Xf2, pw := fun _ => none, cw := fun _ => [], hint := hint, eqt := Cg eqT, rm := rm, fuel := k, itr := [(164, 229, (.int .u8))] }
theorem tyOk : AllT (TyOk Tryz.prog) tyT :=
 ⟨.ofInt (b := 8) (by kernel_rfl) (by kernel_rfl), .ofBool (b := 1) (by kernel_rfl) (by kernel_rfl), .ofInt (b := 1) (by kernel_rfl) (by kernel_rfl), .ofStr (b := 16) (by kernel_rfl) (by kernel_rfl), .ofSl (te := 94) (b := 24) (by kernel_rfl) (by kernel_rfl) (by kernel_rfl) nofun, .ofSl (te := 5) (b := 24) (by kernel_rfl) (by kernel_rfl) (by kernel_rfl) (fun _ h => by cases h; kernel_rfl), .ofSl (te := 52) (b := 24) (by kernel_rfl) (by kernel_rfl) (by kernel_rfl) nofun, .ofSl (te := 123) (b := 24) (by kernel_rfl) (by kernel_rfl) (by kernel_rfl) nofun, .ofAgg (b := 48) (by kernel_rfl) (by kernel_rfl), .ofSl (te := 114) (b := 24) (by kernel_rfl) (by kernel_rfl) (by kernel_rfl) nofun, .ofAgg (b := 32) (by kernel_rfl) (by kernel_rfl), .ofAgg (b := 80) (by kernel_rfl) (by kernel_rfl), .ofSl (te := 135) (b := 24) (by kernel_rfl) (by kernel_rfl) (by kernel_rfl) nofun, .ofAgg (b := 48) (by kernel_rfl) (by kernel_rfl), .ofSl (te := 266) (b := 24) (by kernel_rfl) (by kernel_rfl) (by kernel_rfl) nofun, .ofAgg (b := 32) (by kernel_rfl) (by kernel_rfl), .ofSl (te := 56) (b := 24) (by kernel_rfl) (by kernel_rfl) (by kernel_rfl) nofun, .ofAgg (b := 56) (by kernel_rfl) (by kernel_rfl), .ofSl (te := 196) (b := 24) (by kernel_rfl) (by kernel_rfl) (by kernel_rfl) nofun, .ofAgg (b := 32) (by kernel_rfl) (by kernel_rfl), .ofSl (te := 42) (b := 24) (by kernel_rfl) (by kernel_rfl) (by kernel_rfl) nofun, .ofAgg (b := 32) (by kernel_rfl) (by kernel_rfl), .ofSl (te := 58) (b := 24) (by kernel_rfl) (by kernel_rfl) (by kernel_rfl) nofun, .ofAgg (b := 32) (by kernel_rfl) (by kernel_rfl), .ofSl (te := 23) (b := 24) (by kernel_rfl) (by kernel_rfl) (by kernel_rfl) nofun, .ofSl (te := 3) (b := 24) (by kernel_rfl) (by kernel_rfl) (by kernel_rfl) (fun _ h => by cases h; kernel_rfl), .ofAgg (b := 40) (by kernel_rfl) (by kernel_rfl), .ofAgg (b := 32) (by kernel_rfl) (by kernel_rfl), .ofInt (b := 8) (by kernel_rfl) (by kernel_rfl), .ofAgg (b := 32) (by kernel_rfl) (by kernel_rfl), .ofAgg (b := 88) (by kernel_rfl) (by kernel_rfl), .ofSl (te := 268) (b := 24) (by kernel_rfl) (by kernel_rfl) (by kernel_rfl) nofun, .ofAgg (b := 40) (by kernel_rfl) (by kernel_rfl), trivial⟩
theorem fldOk : AllF Tryz.prog Xf2 :=
 ⟨⟨⟨by kernel_rfl, by kernel_rfl⟩, ⟨by kernel_rfl, by kernel_rfl⟩, ⟨by kernel_rfl, by kernel_rfl⟩, ⟨by kernel_rfl, by kernel_rfl⟩, trivial⟩, ⟨⟨by kernel_rfl, by kernel_rfl⟩, ⟨by kernel_rfl, by kernel_rfl⟩, trivial⟩, ⟨⟨by kernel_rfl, by kernel_rfl⟩, ⟨by kernel_rfl, by kernel_rfl⟩, ⟨by kernel_rfl, by kernel_rfl⟩, ⟨by kernel_rfl, by kernel_rfl⟩, ⟨by kernel_rfl, by kernel_rfl⟩, ⟨by kernel_rfl, by kernel_rfl⟩, ⟨by kernel_rfl, by kernel_rfl⟩, ⟨by kernel_rfl, by kernel_rfl⟩, ⟨by kernel_rfl, by kernel_rfl⟩, trivial⟩, ⟨⟨by kernel_rfl, by kernel_rfl⟩, ⟨by kernel_rfl, by kernel_rfl⟩, ⟨by kernel_rfl, by kernel_rfl⟩, ⟨by kernel_rfl, by kernel_rfl⟩, trivial⟩, ⟨⟨by kernel_rfl, by kernel_rfl⟩, ⟨by kernel_rfl, by kernel_rfl⟩, trivial⟩, ⟨⟨by kernel_rfl, by kernel_rfl⟩, ⟨by kernel_rfl, by kernel_rfl⟩, ⟨by kernel_rfl, by kernel_rfl⟩, trivial⟩, ⟨⟨by kernel_rfl, by kernel_rfl⟩, ⟨by kernel_rfl, by kernel_rfl⟩, ⟨by kernel_rfl, by kernel_rfl⟩, ⟨by kernel_rfl, by kernel_rfl⟩, trivial⟩, ⟨⟨by kernel_rfl, by kernel_rfl⟩, ⟨by kernel_rfl, by kernel_rfl⟩, trivial⟩, ⟨⟨by kernel_rfl, by kernel_rfl⟩, ⟨by kernel_rfl, by kernel_rfl⟩, trivial⟩, ⟨⟨by kernel_rfl, by kernel_rfl⟩, ⟨by kernel_rfl, by kernel_rfl⟩, ⟨by kernel_rfl, by kernel_rfl⟩, trivial⟩, ⟨⟨by kernel_rfl, by kernel_rfl⟩, ⟨by kernel_rfl, by kernel_rfl⟩, trivial⟩, ⟨⟨by kernel_rfl, by kernel_rfl⟩, ⟨by kernel_rfl, by kernel_rfl⟩, ⟨by kernel_rfl, by kernel_rfl⟩, ⟨by kernel_rfl, by kernel_rfl⟩, trivial⟩, ⟨⟨by kernel_rfl, by kernel_rfl⟩, ⟨by kernel_rfl, by kernel_rfl⟩, trivial⟩, ⟨⟨by kernel_rfl, by kernel_rfl⟩, ⟨by kernel_rfl, by kernel_rfl⟩, ⟨by kernel_rfl, by kernel_rfl⟩, trivial⟩, trivial⟩
theorem Ah : Tryz.prog.follows .mixedOrders = true := by kernel_rfl
theorem bldOk : AllT (fun t i => i.agg = true → BldOk Tryz.prog t (Ot Xf2 t)) tyT :=
 ⟨nofun, nofun, nofun, nofun, nofun, nofun, nofun, nofun, fun _ => C3 (row := [(0, 1, false), (1, 1, false), (2, 1, false), (3, 1, false)]) rfl (by kernel_rfl) (by kernel_rfl), nofun, fun _ => C3 (row := [(0, 1, false), (1, 1, false)]) rfl (by kernel_rfl) (by kernel_rfl), fun _ => C3 (row := [(0, 1, false), (1, 1, false), (2, 1, false), (3, 1, false), (4, 1, false), (5, 1, false), (6, 1, false), (7, 1, false), (8, 1, false)]) rfl (by kernel_rfl) (by kernel_rfl), nofun, fun _ => C3 (row := [(0, 1, false), (1, 1, false), (2, 1, false), (3, 1, false)]) rfl (by kernel_rfl) (by kernel_rfl), nofun, fun _ => C3 (row := [(0, 1, false), (1, 1, false)]) rfl (by kernel_rfl) (by kernel_rfl), nofun, fun _ => C3 (row := [(0, 1, false), (1, 1, false), (2, 1, false)]) rfl (by kernel_rfl) (by kernel_rfl), nofun, fun _ => C3 (row := [(0, 1, false), (1, 1, false), (2, 1, false), (3, 1, false)]) rfl (by kernel_rfl) (by kernel_rfl), nofun, fun _ => C3 (row := [(0, 1, false), (1, 1, false)]) rfl (by kernel_rfl) (by kernel_rfl), nofun, fun _ => C3 (row := [(0, 1, false), (1, 1, false)]) rfl (by kernel_rfl) (by kernel_rfl), nofun, nofun, fun _ => C3 (row := [(0, 1, false), (1, 1, false), (2, 1, false)]) rfl (by kernel_rfl) (by kernel_rfl), fun _ => C3 (row := [(0, 1, false), (1, 1, false)]) rfl (by kernel_rfl) (by kernel_rfl), nofun, fun _ => C3 (row := [(0, 1, false), (1, 1, false), (2, 1, false), (3, 1, false)]) rfl (by kernel_rfl) (by kernel_rfl), fun _ => C3 (row := [(0, 1, false), (1, 9, true)]) rfl (by kernel_rfl) (by kernel_rfl), nofun, fun _ => C3 (row := [(0, 1, false), (1, 1, false), (2, 1, false)]) rfl (by kernel_rfl) (by kernel_rfl), trivial⟩
theorem eqOkT : AllT (fun t i => Cg eqT t = true → EqOk Tryz.prog t i.ty) tyT :=
 ⟨fun h => absurd h (by decide), fun h => absurd h (by decide), fun h => absurd h (by decide), fun h => absurd h (by decide), fun h => absurd h (by decide), fun h => absurd h (by decide), fun h => absurd h (by decide), fun h => absurd h (by decide), fun h => absurd h (by decide), fun h => absurd h (by decide), fun h => absurd h (by decide), fun h => absurd h (by decide), fun h => absurd h (by decide), fun h => absurd h (by decide), fun h => absurd h (by decide), fun h => absurd h (by decide), fun h => absurd h (by decide), fun h => absurd h (by decide), fun h => absurd h (by decide), fun h => absurd h (by decide), fun h => absurd h (by decide), fun h => absurd h (by decide), fun h => absurd h (by decide), fun h => absurd h (by decide), fun h => absurd h (by decide), fun h => absurd h (by decide), fun h => absurd h (by decide), fun h => absurd h (by decide), fun h => absurd h (by decide), fun h => absurd h (by decide), fun h => absurd h (by decide), fun h => absurd h (by decide), fun h => absurd h (by decide), trivial⟩
theorem Xsg (tab : Tab) (hint : Nat → Hint) (rm : Rf.Mode) (pins : List (Bool × Nat)) (k : Nat) : TysOk Tryz.prog (A6 tab hint rm pins k) :=
 ⟨fun t i h => tyOk.get h, fun s f z h => fldOk.get h, fun t i h => bldOk.get h, fun t i h h2 => eqOkT.get h2 h, fun z hz => by obtain rfl := List.mem_singleton.1 hz; exact ⟨It.mkOk, It.itOk⟩⟩
theorem Ai {tab : Tab} (h : TabFn Tryz.prog tab) (hint : Nat → Hint) (rm : Rf.Mode) (pins : List (Bool × Nat)) (k : Nat) : EnvOk Tryz.prog (A6 tab hint rm pins k) := EnvOk.of (Xsg tab hint rm pins k) h
theorem Ua (frz : List Nat) {tab : Tab} (h : TabFn Tryz.prog tab) (hint : Nat → Hint) (rm : Rf.Mode) (pins : List (Bool × Nat)) (k : Nat) : EnvOk Tryz.prog { A6 tab hint rm pins k with frz := frz } :=
 have e := Ai h hint rm pins k; ⟨e.ty, e.fld, e.bld, e.eq, e.tab, e.fn, e.itr⟩
def Bn : Tab := fun _ _ => none
def Ap : Nat → Hint := fun _ => ⟨[], []⟩
end
end Go.Proofs.YtdmepjjepogddaaGreat.Gn
end

section
set_option linter.unusedVariables false
set_option linter.unusedSimpArgs false
namespace Go.Proofs.YtdmepjjepogddaaGreat.Gn
open Go.Rf IntKind
noncomputable section
abbrev Yhn (k : Nat) : Env := A6 Bn Ap .own [] k
abbrev X35 : List PA := [.one mI, .one mI, .one mI]
abbrev F60_O : RO := ⟨[.v], [mB]⟩
def Hj (k : Nat) (v w p : Int) : Option (Bool) := cond (decide (v ≥ w)) (some (decide (v ≤ p))) (some false)
theorem Yfe {β : Type} (k : Nat) (v w p : Int) (K : KT β) : Ag (Yhn k) Tryz.f60 (PsT.put X35 (v, w, p, ())) K = (Hj k v w p).bind fun r => K (F60_O.put r) :=
 Eq.trans (b := cond (decide (v ≥ w)) (K (F60_O.put (decide (v ≤ p)))) (K (F60_O.put false))) (by kernel_rfl) (by simp only [Hj, z1, z2, z3, z4, z5, z6, z7, z8])
def Dm (k : Nat) : FD := ⟨60, X35, F60_O, Hj k⟩
theorem Dq (k : Nat) : (Dm k).Ok Tryz.prog := ⟨fun x => Aa (Ai .none _ _ _ _) Ah Tryz.func60 rfl rfl (Yfe k _ _ _ some), .of (by kernel_rfl)⟩
abbrev Ya4 (k : Nat) : Env := A6 (Aw [Dm k]) Ap .own [] k
abbrev Xvn : List PA := [.agg (.pair mI (.pair mI Qj))]
abbrev F152_O : RO := ⟨[.v], [mB]⟩
def Xbk {β : Type} (RET : Bool → Option β) (k : Nat) (v : (den A5)) : Option β := (Hj k v.1 0 65535).bind fun b1 => cond b1 ((Hj k v.2.1 1 255).bind fun b2 => cond b2 ((Hj k v.2.2.1 1 255).bind fun b3 => cond b3 (RET (decide ((v.2.2.2.length : Int) ≤ 40))) (RET false)) (RET false)) (RET false)
def Xdu := Xbk (β := Bool) some
theorem X1n {β : Type} (k : Nat) (v : (den A5)) (K : KT β) : Ag (Ya4 k) Tryz.f152 (PsT.put Xvn (v, ())) K = (Xdu k v).bind fun r => K (F152_O.put r) :=
 Eq.trans (b := Xbk (fun r => K (F152_O.put r)) k v) (by kernel_rfl) (by simp only [Xdu, Xbk, z1, z2, z3, z4, z5, z6, z7, z8])
def Z2 (k : Nat) : FD := ⟨152, Xvn, F152_O, Xdu k⟩
theorem Xe3 (k : Nat) : (Z2 k).Ok Tryz.prog := ⟨fun x => Aa (Ai (Af (.c (Dq k) .n)) _ _ _ _) Ah Tryz.func152 rfl rfl (X1n k _ some), .of (by kernel_rfl)⟩
def Yho : Nat → Hint
 | 0 => ⟨pl 0 1 (pl 3 1 []), []⟩
 | 2 => ⟨pl 0 1 (pl 3 2 []), []⟩
 | _ => ⟨[], []⟩
abbrev B5 (k : Nat) : Env := A6 (Aw [Dm k, Z2 k]) Yho .own [] k
abbrev Xv0 : List PA := [.one (.sl .ro A2)]
abbrev F80_O : RO := ⟨[.v], [mB]⟩
noncomputable def O7 {β : Type} (k : Nat) (v : Ab) (K : KT β) : Ex → St → Option β := Be (B5 k) Tryz.f80 (PsT.put Xv0 (v, ())) K
def Yff (v : Ab) (x3_2 x4_2 : Int) : St := ⟨(.one (.s .ro A2 v)) :: (.one .d) :: (.one .d) :: (.one (vI x3_2)) :: (.one (vI x4_2)) :: dz 80 [], []⟩
noncomputable def Oi {β : Type} (k : Nat) (v : Ab) (KK : Ex → St → Option β) (n : Nat) (x3_2 x4_2 : Int) : Option β := A0 (B5 k) Tryz.f80 [1, 0, 1, 0, 0, 1, 0, 0, 1, 1, 0] 2 KK n (Yff v x3_2 x4_2)
def Nv {β : Type} (NX : Int → Int → Option β) (EX0 : (Int × Int × Bool) → Option β) (EX1 : (Int × Int × Bool) → Option β) (EX2 : (Int × Int) → Option β) (k : Nat) (v : Ab) (x3_2 x4_2 : Int) : Option β := As x3_2 v (cond (decide (x4_2 < ((Ac v x3_2).2.length : Int))) (As x3_2 v (As x4_2 (Ac v x3_2).2 ((Xdu k (Ac (Ac v x3_2).2 x4_2)).bind fun b2 => cond (!b2) (EX0 (x3_2, x4_2, b2)) (As x3_2 v (As x4_2 (Ac v x3_2).2 (As x3_2 v (cond ((Ac (Ac v x3_2).2 x4_2).2.2.1 != (Ac v x3_2).1) (EX1 (x3_2, x4_2, b2)) (NX x3_2 (i64.wrap (x4_2 + 1)))))))))) (EX2 (x3_2, x4_2)))
def Jr (k : Nat) (v : Ab) : Nat → Int → Int → Option ((Sum (Int × Int × Bool) (Sum (Int × Int × Bool) (Int × Int))))
 | 0, _, _ => none
 | n + 1, x3_2, x4_2 => Nv (Jr k v n) (fun y2 => some (.inl y2)) (fun y2 => some (.inr (.inl y2))) (fun y2 => some (.inr (.inr y2))) k v x3_2 x4_2
theorem Xon {β : Type} (k : Nat) (v : Ab) (KK : Ex → St → Option β) (n : Nat) : ∀ (x3_2 x4_2 : Int), Oi k v KK n x3_2 x4_2 =
  (Jr k v n x3_2 x4_2).bind fun z => Ix (fun y2 => KK .ret ⟨(.one (.s .ro A2 v)) :: (.one .d) :: (.one (vB false)) :: (.one (vI y2.1)) :: (.one (vI y2.2.1)) :: dz 40 ((.one (vI y2.2.1)) :: (.one (.s .ro A2 v)) :: (.one (vI y2.1)) :: (.one (.ptr (.elem 48000 y2.1.toNat 0) 2 0)) :: (.one (.ptr (.elem 48000 y2.1.toNat 1) 1 0)) :: (.one (.s .ro A5 (Ac v y2.1).2)) :: (.one (vI ((Ac v y2.1).2.length : Int))) :: (.one (vB true)) :: (.one .d) :: (.one .d) :: (.one (.s .ro A2 v)) :: (.one (vI y2.1)) :: (.one (.ptr (.elem 57000 y2.1.toNat 0) 2 0)) :: (.one (.ptr (.elem 57000 y2.1.toNat 1) 1 0)) :: (.one (.s .ro A5 (Ac v y2.1).2)) :: (.one (vI y2.2.1)) :: (.one (.ptr (.elem 61000 y2.2.1.toNat 0) 4 0)) :: (.agg (Cl (.pair mI (.pair mI Qj)) (Ac (Ac v y2.1).2 y2.2.1))) :: (.one (vB y2.2.2)) :: (.one (vB (!y2.2.2))) :: (.one (vB true)) :: uz 15 ((.one (vB true)) :: dz 3 [])), [eM 48000 (.s .ro A2 v), eM 57000 (.s .ro A2 v), eM 61000 (.s .ro A5 (Ac v y2.1).2)]⟩) (Ix (fun y2 => KK .ret ⟨(.one (.s .ro A2 v)) :: (.one .d) :: (.one (vB false)) :: (.one (vI y2.1)) :: (.one (vI y2.2.1)) :: dz 40 ((.one (vI y2.2.1)) :: (.one (.s .ro A2 v)) :: (.one (vI y2.1)) :: (.one (.ptr (.elem 48000 y2.1.toNat 0) 2 0)) :: (.one (.ptr (.elem 48000 y2.1.toNat 1) 1 0)) :: (.one (.s .ro A5 (Ac v y2.1).2)) :: (.one (vI ((Ac v y2.1).2.length : Int))) :: (.one (vB true)) :: (.one .d) :: (.one .d) :: (.one (.s .ro A2 v)) :: (.one (vI y2.1)) :: (.one (.ptr (.elem 57000 y2.1.toNat 0) 2 0)) :: (.one (.ptr (.elem 57000 y2.1.toNat 1) 1 0)) :: (.one (.s .ro A5 (Ac v y2.1).2)) :: (.one (vI y2.2.1)) :: (.one (.ptr (.elem 61000 y2.2.1.toNat 0) 4 0)) :: (.agg (Cl (.pair mI (.pair mI Qj)) (Ac (Ac v y2.1).2 y2.2.1))) :: (.one (vB y2.2.2)) :: (.one (vB (!y2.2.2))) :: (.one (vB false)) :: (.one (.s .ro A2 v)) :: (.one (vI y2.1)) :: (.one (.ptr (.elem 68000 y2.1.toNat 0) 2 0)) :: (.one (.ptr (.elem 68000 y2.1.toNat 1) 1 0)) :: (.one (.s .ro A5 (Ac v y2.1).2)) :: (.one (vI y2.2.1)) :: (.one (.ptr (.elem 72000 y2.2.1.toNat 0) 4 0)) :: (.one (.ptr (.elem 72000 y2.2.1.toNat 2) 2 0)) :: (.one (vI (Ac (Ac v y2.1).2 y2.2.1).2.2.1)) :: (.one (.s .ro A2 v)) :: (.one (vI y2.1)) :: (.one (.ptr (.elem 77000 y2.1.toNat 0) 2 0)) :: (.one (.ptr (.elem 77000 y2.1.toNat 0) 2 0)) :: (.one (vI (Ac v y2.1).1)) :: (.one (vB ((Ac (Ac v y2.1).2 y2.2.1).2.2.1 != (Ac v y2.1).1))) :: (.one (vB true)) :: dz 3 []), [eM 48000 (.s .ro A2 v), eM 57000 (.s .ro A2 v), eM 61000 (.s .ro A5 (Ac v y2.1).2), eM 68000 (.s .ro A2 v), eM 72000 (.s .ro A5 (Ac v y2.1).2), eM 77000 (.s .ro A2 v)]⟩) (fun y2 => KK (.exit 2) ⟨(.one (.s .ro A2 v)) :: (.one .d) :: (.one .d) :: (.one (vI y2.1)) :: (.one (vI y2.2)) :: dz 40 ((.one (vI y2.2)) :: (.one (.s .ro A2 v)) :: (.one (vI y2.1)) :: (.one (.ptr (.elem 48000 y2.1.toNat 0) 2 0)) :: (.one (.ptr (.elem 48000 y2.1.toNat 1) 1 0)) :: (.one (.s .ro A5 (Ac v y2.1).2)) :: (.one (vI ((Ac v y2.1).2.length : Int))) :: (.one (vB false)) :: dz 32 []), [eM 48000 (.s .ro A2 v)]⟩)) z := by
 induction n with
 | zero => intros; rfl
 | succ n ih =>
  intro x3_2 x4_2
  refine Eq.trans (b := Nv (Oi k v KK n) (fun y2 => KK .ret ⟨(.one (.s .ro A2 v)) :: (.one .d) :: (.one (vB false)) :: (.one (vI y2.1)) :: (.one (vI y2.2.1)) :: dz 40 ((.one (vI y2.2.1)) :: (.one (.s .ro A2 v)) :: (.one (vI y2.1)) :: (.one (.ptr (.elem 48000 y2.1.toNat 0) 2 0)) :: (.one (.ptr (.elem 48000 y2.1.toNat 1) 1 0)) :: (.one (.s .ro A5 (Ac v y2.1).2)) :: (.one (vI ((Ac v y2.1).2.length : Int))) :: (.one (vB true)) :: (.one .d) :: (.one .d) :: (.one (.s .ro A2 v)) :: (.one (vI y2.1)) :: (.one (.ptr (.elem 57000 y2.1.toNat 0) 2 0)) :: (.one (.ptr (.elem 57000 y2.1.toNat 1) 1 0)) :: (.one (.s .ro A5 (Ac v y2.1).2)) :: (.one (vI y2.2.1)) :: (.one (.ptr (.elem 61000 y2.2.1.toNat 0) 4 0)) :: (.agg (Cl (.pair mI (.pair mI Qj)) (Ac (Ac v y2.1).2 y2.2.1))) :: (.one (vB y2.2.2)) :: (.one (vB (!y2.2.2))) :: (.one (vB true)) :: uz 15 ((.one (vB true)) :: dz 3 [])), [eM 48000 (.s .ro A2 v), eM 57000 (.s .ro A2 v), eM 61000 (.s .ro A5 (Ac v y2.1).2)]⟩) (fun y2 => KK .ret ⟨(.one (.s .ro A2 v)) :: (.one .d) :: (.one (vB false)) :: (.one (vI y2.1)) :: (.one (vI y2.2.1)) :: dz 40 ((.one (vI y2.2.1)) :: (.one (.s .ro A2 v)) :: (.one (vI y2.1)) :: (.one (.ptr (.elem 48000 y2.1.toNat 0) 2 0)) :: (.one (.ptr (.elem 48000 y2.1.toNat 1) 1 0)) :: (.one (.s .ro A5 (Ac v y2.1).2)) :: (.one (vI ((Ac v y2.1).2.length : Int))) :: (.one (vB true)) :: (.one .d) :: (.one .d) :: (.one (.s .ro A2 v)) :: (.one (vI y2.1)) :: (.one (.ptr (.elem 57000 y2.1.toNat 0) 2 0)) :: (.one (.ptr (.elem 57000 y2.1.toNat 1) 1 0)) :: (.one (.s .ro A5 (Ac v y2.1).2)) :: (.one (vI y2.2.1)) :: (.one (.ptr (.elem 61000 y2.2.1.toNat 0) 4 0)) :: (.agg (Cl (.pair mI (.pair mI Qj)) (Ac (Ac v y2.1).2 y2.2.1))) :: (.one (vB y2.2.2)) :: (.one (vB (!y2.2.2))) :: (.one (vB false)) :: (.one (.s .ro A2 v)) :: (.one (vI y2.1)) :: (.one (.ptr (.elem 68000 y2.1.toNat 0) 2 0)) :: (.one (.ptr (.elem 68000 y2.1.toNat 1) 1 0)) :: (.one (.s .ro A5 (Ac v y2.1).2)) :: (.one (vI y2.2.1)) :: (.one (.ptr (.elem 72000 y2.2.1.toNat 0) 4 0)) :: (.one (.ptr (.elem 72000 y2.2.1.toNat 2) 2 0)) :: (.one (vI (Ac (Ac v y2.1).2 y2.2.1).2.2.1)) :: (.one (.s .ro A2 v)) :: (.one (vI y2.1)) :: (.one (.ptr (.elem 77000 y2.1.toNat 0) 2 0)) :: (.one (.ptr (.elem 77000 y2.1.toNat 0) 2 0)) :: (.one (vI (Ac v y2.1).1)) :: (.one (vB ((Ac (Ac v y2.1).2 y2.2.1).2.2.1 != (Ac v y2.1).1))) :: (.one (vB true)) :: dz 3 []), [eM 48000 (.s .ro A2 v), eM 57000 (.s .ro A2 v), eM 61000 (.s .ro A5 (Ac v y2.1).2), eM 68000 (.s .ro A2 v), eM 72000 (.s .ro A5 (Ac v y2.1).2), eM 77000 (.s .ro A2 v)]⟩) (fun y2 => KK (.exit 2) ⟨(.one (.s .ro A2 v)) :: (.one .d) :: (.one .d) :: (.one (vI y2.1)) :: (.one (vI y2.2)) :: dz 40 ((.one (vI y2.2)) :: (.one (.s .ro A2 v)) :: (.one (vI y2.1)) :: (.one (.ptr (.elem 48000 y2.1.toNat 0) 2 0)) :: (.one (.ptr (.elem 48000 y2.1.toNat 1) 1 0)) :: (.one (.s .ro A5 (Ac v y2.1).2)) :: (.one (vI ((Ac v y2.1).2.length : Int))) :: (.one (vB false)) :: dz 32 []), [eM 48000 (.s .ro A2 v)]⟩) k v x3_2 x4_2) (by kernel_rfl) ?_
  rw [Jr]
  simp only [Nv, z1, z2, z3, z4, z5, z6, z7, z8, ih]
def X98 (v : Ab) (x3_0 : Int) : St := ⟨(.one (.s .ro A2 v)) :: (.one .d) :: (.one .d) :: (.one (vI x3_0)) :: dz 81 [], []⟩
noncomputable def O4 {β : Type} (k : Nat) (v : Ab) (K : KT β) (n : Nat) (x3_0 : Int) : Option β := A0 (B5 k) Tryz.f80 [1, 0, 1, 0] 0 (Ad (B5 k) [1, 0, 1, 0] (Ae Tryz.f80) 0 (O7 k v K)) n (X98 v x3_0)
def H8 (k : Nat) (v : Ab) : Nat → Int → Option (Bool)
 | 0, _ => none
 | n + 1, x3_0 => cond (decide (x3_0 < (v.length : Int))) (As x3_0 v ((Hj k (Ac v x3_0).1 1 255).bind fun b1 => cond (!b1) (some false) (cond (decide (x3_0 > 0)) (As (i64.wrap (x3_0 - 1)) v (As x3_0 v (cond (decide ((Ac v (i64.wrap (x3_0 - 1))).1 ≥ (Ac v x3_0).1)) (some false) (As x3_0 v (cond (decide (((Ac v x3_0).2.length : Int) > 3)) (some false) ((Jr k v k x3_0 0).bind fun z2 => Ix (fun y2 => some false) (Ix (fun y2 => some false) (fun y2 => H8 k v n (i64.wrap (y2.1 + 1)))) z2)))))) (As x3_0 v (cond (decide (((Ac v x3_0).2.length : Int) > 3)) (some false) ((Jr k v k x3_0 0).bind fun z2 => Ix (fun y2 => some false) (Ix (fun y2 => some false) (fun y2 => H8 k v n (i64.wrap (y2.1 + 1)))) z2)))))) (some (decide ((v.length : Int) ≤ 4)))
theorem Xbq {β : Type} (k n : Nat) (v : Ab) (y2 : Int × Int × Bool) (K : KT β) :
  (Ad (B5 k) [1, 0, 0, 1, 1, 0] (Bf [1, 0, 1, 0, 0] (Ae Tryz.f80)) 0 (B3 (B5 k) Tryz.f80 [1, 0, 1, 0] 0 (Ad (B5 k) [1, 0, 1, 0] (Ae Tryz.f80) 0 (O7 k v K)) n)) .ret ⟨(.one (.s .ro A2 v)) :: (.one .d) :: (.one (vB false)) :: (.one (vI y2.1)) :: (.one (vI y2.2.1)) :: dz 40 ((.one (vI y2.2.1)) :: (.one (.s .ro A2 v)) :: (.one (vI y2.1)) :: (.one (.ptr (.elem 48000 y2.1.toNat 0) 2 0)) :: (.one (.ptr (.elem 48000 y2.1.toNat 1) 1 0)) :: (.one (.s .ro A5 (Ac v y2.1).2)) :: (.one (vI ((Ac v y2.1).2.length : Int))) :: (.one (vB true)) :: (.one .d) :: (.one .d) :: (.one (.s .ro A2 v)) :: (.one (vI y2.1)) :: (.one (.ptr (.elem 57000 y2.1.toNat 0) 2 0)) :: (.one (.ptr (.elem 57000 y2.1.toNat 1) 1 0)) :: (.one (.s .ro A5 (Ac v y2.1).2)) :: (.one (vI y2.2.1)) :: (.one (.ptr (.elem 61000 y2.2.1.toNat 0) 4 0)) :: (.agg (Cl (.pair mI (.pair mI Qj)) (Ac (Ac v y2.1).2 y2.2.1))) :: (.one (vB y2.2.2)) :: (.one (vB (!y2.2.2))) :: (.one (vB true)) :: uz 15 ((.one (vB true)) :: dz 3 [])), [eM 48000 (.s .ro A2 v), eM 57000 (.s .ro A2 v), eM 61000 (.s .ro A5 (Ac v y2.1).2)]⟩ =
  K (F80_O.put false) := by kernel_rfl
theorem Xci {β : Type} (k n : Nat) (v : Ab) (y2 : Int × Int × Bool) (K : KT β) :
  (Ad (B5 k) [1, 0, 0, 1, 1, 0] (Bf [1, 0, 1, 0, 0] (Ae Tryz.f80)) 0 (B3 (B5 k) Tryz.f80 [1, 0, 1, 0] 0 (Ad (B5 k) [1, 0, 1, 0] (Ae Tryz.f80) 0 (O7 k v K)) n)) .ret ⟨(.one (.s .ro A2 v)) :: (.one .d) :: (.one (vB false)) :: (.one (vI y2.1)) :: (.one (vI y2.2.1)) :: dz 40 ((.one (vI y2.2.1)) :: (.one (.s .ro A2 v)) :: (.one (vI y2.1)) :: (.one (.ptr (.elem 48000 y2.1.toNat 0) 2 0)) :: (.one (.ptr (.elem 48000 y2.1.toNat 1) 1 0)) :: (.one (.s .ro A5 (Ac v y2.1).2)) :: (.one (vI ((Ac v y2.1).2.length : Int))) :: (.one (vB true)) :: (.one .d) :: (.one .d) :: (.one (.s .ro A2 v)) :: (.one (vI y2.1)) :: (.one (.ptr (.elem 57000 y2.1.toNat 0) 2 0)) :: (.one (.ptr (.elem 57000 y2.1.toNat 1) 1 0)) :: (.one (.s .ro A5 (Ac v y2.1).2)) :: (.one (vI y2.2.1)) :: (.one (.ptr (.elem 61000 y2.2.1.toNat 0) 4 0)) :: (.agg (Cl (.pair mI (.pair mI Qj)) (Ac (Ac v y2.1).2 y2.2.1))) :: (.one (vB y2.2.2)) :: (.one (vB (!y2.2.2))) :: (.one (vB false)) :: (.one (.s .ro A2 v)) :: (.one (vI y2.1)) :: (.one (.ptr (.elem 68000 y2.1.toNat 0) 2 0)) :: (.one (.ptr (.elem 68000 y2.1.toNat 1) 1 0)) :: (.one (.s .ro A5 (Ac v y2.1).2)) :: (.one (vI y2.2.1)) :: (.one (.ptr (.elem 72000 y2.2.1.toNat 0) 4 0)) :: (.one (.ptr (.elem 72000 y2.2.1.toNat 2) 2 0)) :: (.one (vI (Ac (Ac v y2.1).2 y2.2.1).2.2.1)) :: (.one (.s .ro A2 v)) :: (.one (vI y2.1)) :: (.one (.ptr (.elem 77000 y2.1.toNat 0) 2 0)) :: (.one (.ptr (.elem 77000 y2.1.toNat 0) 2 0)) :: (.one (vI (Ac v y2.1).1)) :: (.one (vB ((Ac (Ac v y2.1).2 y2.2.1).2.2.1 != (Ac v y2.1).1))) :: (.one (vB true)) :: dz 3 []), [eM 48000 (.s .ro A2 v), eM 57000 (.s .ro A2 v), eM 61000 (.s .ro A5 (Ac v y2.1).2), eM 68000 (.s .ro A2 v), eM 72000 (.s .ro A5 (Ac v y2.1).2), eM 77000 (.s .ro A2 v)]⟩ =
  K (F80_O.put false) := by kernel_rfl
theorem Xcq {β : Type} (k n : Nat) (v : Ab) (y2 : Int × Int) (K : KT β) :
  (Ad (B5 k) [1, 0, 0, 1, 1, 0] (Bf [1, 0, 1, 0, 0] (Ae Tryz.f80)) 0 (B3 (B5 k) Tryz.f80 [1, 0, 1, 0] 0 (Ad (B5 k) [1, 0, 1, 0] (Ae Tryz.f80) 0 (O7 k v K)) n)) (.exit 2) ⟨(.one (.s .ro A2 v)) :: (.one .d) :: (.one .d) :: (.one (vI y2.1)) :: (.one (vI y2.2)) :: dz 40 ((.one (vI y2.2)) :: (.one (.s .ro A2 v)) :: (.one (vI y2.1)) :: (.one (.ptr (.elem 48000 y2.1.toNat 0) 2 0)) :: (.one (.ptr (.elem 48000 y2.1.toNat 1) 1 0)) :: (.one (.s .ro A5 (Ac v y2.1).2)) :: (.one (vI ((Ac v y2.1).2.length : Int))) :: (.one (vB false)) :: dz 32 []), [eM 48000 (.s .ro A2 v)]⟩ =
  O4 k v K n (i64.wrap (y2.1 + 1)) := by kernel_rfl
theorem Xcp {β : Type} (k n : Nat) (v : Ab) (y2 : Int × Int × Bool) (K : KT β) :
  (Ad (B5 k) [1, 0, 0, 1, 1, 0] (Bf [1, 0, 1, 0, 0] (Ae Tryz.f80)) 0 (B3 (B5 k) Tryz.f80 [1, 0, 1, 0] 0 (Ad (B5 k) [1, 0, 1, 0] (Ae Tryz.f80) 0 (O7 k v K)) n)) .ret ⟨(.one (.s .ro A2 v)) :: (.one .d) :: (.one (vB false)) :: (.one (vI y2.1)) :: (.one (vI y2.2.1)) :: dz 40 ((.one (vI y2.2.1)) :: (.one (.s .ro A2 v)) :: (.one (vI y2.1)) :: (.one (.ptr (.elem 48000 y2.1.toNat 0) 2 0)) :: (.one (.ptr (.elem 48000 y2.1.toNat 1) 1 0)) :: (.one (.s .ro A5 (Ac v y2.1).2)) :: (.one (vI ((Ac v y2.1).2.length : Int))) :: (.one (vB true)) :: (.one .d) :: (.one .d) :: (.one (.s .ro A2 v)) :: (.one (vI y2.1)) :: (.one (.ptr (.elem 57000 y2.1.toNat 0) 2 0)) :: (.one (.ptr (.elem 57000 y2.1.toNat 1) 1 0)) :: (.one (.s .ro A5 (Ac v y2.1).2)) :: (.one (vI y2.2.1)) :: (.one (.ptr (.elem 61000 y2.2.1.toNat 0) 4 0)) :: (.agg (Cl (.pair mI (.pair mI Qj)) (Ac (Ac v y2.1).2 y2.2.1))) :: (.one (vB y2.2.2)) :: (.one (vB (!y2.2.2))) :: (.one (vB true)) :: uz 15 ((.one (vB true)) :: dz 3 [])), [eM 48000 (.s .ro A2 v), eM 57000 (.s .ro A2 v), eM 61000 (.s .ro A5 (Ac v y2.1).2)]⟩ =
  K (F80_O.put false) := by kernel_rfl
theorem Xco {β : Type} (k n : Nat) (v : Ab) (y2 : Int × Int × Bool) (K : KT β) :
  (Ad (B5 k) [1, 0, 0, 1, 1, 0] (Bf [1, 0, 1, 0, 0] (Ae Tryz.f80)) 0 (B3 (B5 k) Tryz.f80 [1, 0, 1, 0] 0 (Ad (B5 k) [1, 0, 1, 0] (Ae Tryz.f80) 0 (O7 k v K)) n)) .ret ⟨(.one (.s .ro A2 v)) :: (.one .d) :: (.one (vB false)) :: (.one (vI y2.1)) :: (.one (vI y2.2.1)) :: dz 40 ((.one (vI y2.2.1)) :: (.one (.s .ro A2 v)) :: (.one (vI y2.1)) :: (.one (.ptr (.elem 48000 y2.1.toNat 0) 2 0)) :: (.one (.ptr (.elem 48000 y2.1.toNat 1) 1 0)) :: (.one (.s .ro A5 (Ac v y2.1).2)) :: (.one (vI ((Ac v y2.1).2.length : Int))) :: (.one (vB true)) :: (.one .d) :: (.one .d) :: (.one (.s .ro A2 v)) :: (.one (vI y2.1)) :: (.one (.ptr (.elem 57000 y2.1.toNat 0) 2 0)) :: (.one (.ptr (.elem 57000 y2.1.toNat 1) 1 0)) :: (.one (.s .ro A5 (Ac v y2.1).2)) :: (.one (vI y2.2.1)) :: (.one (.ptr (.elem 61000 y2.2.1.toNat 0) 4 0)) :: (.agg (Cl (.pair mI (.pair mI Qj)) (Ac (Ac v y2.1).2 y2.2.1))) :: (.one (vB y2.2.2)) :: (.one (vB (!y2.2.2))) :: (.one (vB false)) :: (.one (.s .ro A2 v)) :: (.one (vI y2.1)) :: (.one (.ptr (.elem 68000 y2.1.toNat 0) 2 0)) :: (.one (.ptr (.elem 68000 y2.1.toNat 1) 1 0)) :: (.one (.s .ro A5 (Ac v y2.1).2)) :: (.one (vI y2.2.1)) :: (.one (.ptr (.elem 72000 y2.2.1.toNat 0) 4 0)) :: (.one (.ptr (.elem 72000 y2.2.1.toNat 2) 2 0)) :: (.one (vI (Ac (Ac v y2.1).2 y2.2.1).2.2.1)) :: (.one (.s .ro A2 v)) :: (.one (vI y2.1)) :: (.one (.ptr (.elem 77000 y2.1.toNat 0) 2 0)) :: (.one (.ptr (.elem 77000 y2.1.toNat 0) 2 0)) :: (.one (vI (Ac v y2.1).1)) :: (.one (vB ((Ac (Ac v y2.1).2 y2.2.1).2.2.1 != (Ac v y2.1).1))) :: (.one (vB true)) :: dz 3 []), [eM 48000 (.s .ro A2 v), eM 57000 (.s .ro A2 v), eM 61000 (.s .ro A5 (Ac v y2.1).2), eM 68000 (.s .ro A2 v), eM 72000 (.s .ro A5 (Ac v y2.1).2), eM 77000 (.s .ro A2 v)]⟩ =
  K (F80_O.put false) := by kernel_rfl
theorem Xdt {β : Type} (k n : Nat) (v : Ab) (y2 : Int × Int) (K : KT β) :
  (Ad (B5 k) [1, 0, 0, 1, 1, 0] (Bf [1, 0, 1, 0, 0] (Ae Tryz.f80)) 0 (B3 (B5 k) Tryz.f80 [1, 0, 1, 0] 0 (Ad (B5 k) [1, 0, 1, 0] (Ae Tryz.f80) 0 (O7 k v K)) n)) (.exit 2) ⟨(.one (.s .ro A2 v)) :: (.one .d) :: (.one .d) :: (.one (vI y2.1)) :: (.one (vI y2.2)) :: dz 40 ((.one (vI y2.2)) :: (.one (.s .ro A2 v)) :: (.one (vI y2.1)) :: (.one (.ptr (.elem 48000 y2.1.toNat 0) 2 0)) :: (.one (.ptr (.elem 48000 y2.1.toNat 1) 1 0)) :: (.one (.s .ro A5 (Ac v y2.1).2)) :: (.one (vI ((Ac v y2.1).2.length : Int))) :: (.one (vB false)) :: dz 32 []), [eM 48000 (.s .ro A2 v)]⟩ =
  O4 k v K n (i64.wrap (y2.1 + 1)) := by kernel_rfl
theorem Xmk {β : Type} (k : Nat) (v : Ab) (K : KT β) (n : Nat) : ∀ (x3_0 : Int), O4 k v K n x3_0 =
  (H8 k v n x3_0).bind fun r => K (F80_O.put r) := by
 induction n with
 | zero => intros; rfl
 | succ n ih =>
  intro x3_0
  refine Eq.trans (b := cond (decide (x3_0 < (v.length : Int))) (As x3_0 v ((Hj k (Ac v x3_0).1 1 255).bind fun b1 => cond (!b1) (K (F80_O.put false)) (cond (decide (x3_0 > 0)) (As (i64.wrap (x3_0 - 1)) v (As x3_0 v (cond (decide ((Ac v (i64.wrap (x3_0 - 1))).1 ≥ (Ac v x3_0).1)) (K (F80_O.put false)) (As x3_0 v (cond (decide (((Ac v x3_0).2.length : Int) > 3)) (K (F80_O.put false)) (Oi k v (Ad (B5 k) [1, 0, 0, 1, 1, 0] (Bf [1, 0, 1, 0, 0] (Ae Tryz.f80)) 0 (B3 (B5 k) Tryz.f80 [1, 0, 1, 0] 0 (Ad (B5 k) [1, 0, 1, 0] (Ae Tryz.f80) 0 (O7 k v K)) n)) k x3_0 0)))))) (As x3_0 v (cond (decide (((Ac v x3_0).2.length : Int) > 3)) (K (F80_O.put false)) (Oi k v (Ad (B5 k) [1, 0, 0, 1, 1, 0] (Bf [1, 0, 1, 0, 0] (Ae Tryz.f80)) 0 (B3 (B5 k) Tryz.f80 [1, 0, 1, 0] 0 (Ad (B5 k) [1, 0, 1, 0] (Ae Tryz.f80) 0 (O7 k v K)) n)) k x3_0 0)))))) (K (F80_O.put (decide ((v.length : Int) ≤ 4))))) (by kernel_rfl) ?_
  rw [H8]
  simp only [z1, z2, z3, z4, z5, z6, z7, z8, Xon, Xbq k n v _ K, Xci k n v _ K, Xcq k n v _ K, Xcp k n v _ K, Xco k n v _ K, Xdt k n v _ K, ih, As, Bt]
def Xqs {β : Type} (LP0 : Int → Option β) (k : Nat) (v : Ab) : Option β := LP0 0
def F80 (k : Nat) (v : Ab) : Option (Bool) := Xqs (H8 k v k) k v
theorem Yaq {β : Type} (k : Nat) (v : Ab) (K : KT β) : Ag (B5 k) Tryz.f80 (PsT.put Xv0 (v, ())) K = (F80 k v).bind fun r => K (F80_O.put r) :=
 Eq.trans (b := Xqs (O4 k v K k) k v) (by kernel_rfl) (by simp only [F80, Xqs, z1, z2, z3, z4, z5, z6, z7, z8, Xmk])
def Xu0 (k : Nat) : FD := ⟨80, Xv0, F80_O, F80 k⟩
theorem X5j (k : Nat) : (Xu0 k).Ok Tryz.prog := ⟨fun x => Aa (Ai (Af (.c (Dq k) (.c (Xe3 k) .n))) _ _ _ _) Ah Tryz.func80 rfl rfl (Yaq k _ some), .of (by kernel_rfl)⟩
abbrev Yf4 (k : Nat) : Env := A6 Bn Ap .own [] k
abbrev Xvh : List PA := [.one mI]
abbrev F278_O : RO := ⟨[.v], [mI]⟩
def Zy {β : Type} (RET : Int → Option β) (k : Nat) (v : Int) : Option β := cond (decide ((i64.wrap (16 - v)) < 0)) none (RET (i64.wrap (1 * 2 ^ (min (i64.wrap (16 - v)).toNat 64))))
def Xdi := Zy (β := Int) some
theorem Xzw {β : Type} (k : Nat) (v : Int) (K : KT β) : Ag (Yf4 k) Tryz.f278 (PsT.put Xvh (v, ())) K = (Xdi k v).bind fun r => K (F278_O.put r) :=
 Eq.trans (b := Zy (fun r => K (F278_O.put r)) k v) (by kernel_rfl) (by simp only [Xdi, Zy, z1, z2, z3, z4, z5, z6, z7, z8])
def Xex (k : Nat) : FD := ⟨278, Xvh, F278_O, Xdi k⟩
theorem Xv7 (k : Nat) : (Xex k).Ok Tryz.prog := ⟨fun x => Aa (Ai .none _ _ _ _) Ah Tryz.func278 rfl rfl (Xzw k _ some), .of (by kernel_rfl)⟩
abbrev Ybx (k : Nat) : Env := A6 (Aw [Dm k, Xex k]) Ap .own [] k
abbrev Xpo : List PA := [.agg m_3]
abbrev F222_O : RO := ⟨[.v], [mB]⟩
def Zx {β : Type} (RET : Bool → Option β) (k : Nat) (v : (den Ce)) : Option β := Gl v fun v0 v1 v2 v3 => (Hj k v1 0 16).bind fun b1 => cond b1 ((Hj k v0 0 65535).bind fun b2 => cond b2 ((Xdi k v1).bind fun b3 => cond (decide (b3 = 0)) none (cond ((v0.tmod b3) == 0) ((Hj k v2 0 65535).bind fun b4 => cond b4 ((Hj k v3 1 48).bind fun b5 => RET b5) (RET false)) (RET false))) (RET false)) (RET false)
def Xfv := Zx (β := Bool) some
theorem X3c {β : Type} (k : Nat) (v : (den Ce)) (K : KT β) : Ag (Ybx k) Tryz.f222 (PsT.put Xpo (v, ())) K = (Xfv k v).bind fun r => K (F222_O.put r) :=
 Eq.trans (b := Zx (fun r => K (F222_O.put r)) k v) (by kernel_rfl) (by simp only [Xfv, Zx, z1, z2, z3, z4, z5, z6, z7, z8, Gl])
def Xiq (k : Nat) : FD := ⟨222, Xpo, F222_O, Xfv k⟩
theorem Xs2 (k : Nat) : (Xiq k).Ok Tryz.prog := ⟨fun x => Aa (Ai (Af (.c (Dq k) (.c (Xv7 k) .n))) _ _ _ _) Ah Tryz.func222 rfl rfl (X3c k _ some), .of (by kernel_rfl)⟩
def Yfb : Nat → Hint
 | 0 => ⟨pl 0 1 (pl 3 1 []), []⟩
 | _ => ⟨[], []⟩
abbrev Y5 (k : Nat) : Env := A6 (Aw [Xiq k]) Yfb .own [] k
abbrev Xhq : List PA := [.one (.sl .ro Ce)]
abbrev F202_O : RO := ⟨[.v], [mB]⟩
noncomputable def X6w {β : Type} (k : Nat) (v : Az) (K : KT β) : Ex → St → Option β := Be (Y5 k) Tryz.f202 (PsT.put Xhq (v, ())) K
def Xzm (v : Az) (x3_0 : Int) : St := ⟨(.one (.s .ro Ce v)) :: (.one .d) :: (.one .d) :: (.one (vI x3_0)) :: dz 59 [], []⟩
noncomputable def Pt {β : Type} (k : Nat) (v : Az) (K : KT β) (n : Nat) (x3_0 : Int) : Option β := A0 (Y5 k) Tryz.f202 [1, 0, 1, 0] 0 (Ad (Y5 k) [1, 0, 1, 0] (Ae Tryz.f202) 0 (X6w k v K)) n (Xzm v x3_0)
def K4 {β : Type} (NX : Int → Option β) (RET : Bool → Option β) (k : Nat) (v : Az) (x3_0 : Int) : Option β := cond (decide (x3_0 < (v.length : Int))) (As x3_0 v ((Xfv k (Ac v x3_0)).bind fun b1 => cond (!b1) (RET false) (cond (decide (x3_0 > 0)) (As (i64.wrap (x3_0 - 1)) v (As x3_0 v (cond (decide ((Ac v (i64.wrap (x3_0 - 1))).2.1 > (Ac v x3_0).2.1)) (RET false) (As (i64.wrap (x3_0 - 1)) v (As x3_0 v (cond ((Ac v (i64.wrap (x3_0 - 1))).2.1 == (Ac v x3_0).2.1) (As (i64.wrap (x3_0 - 1)) v (As x3_0 v (cond (decide ((Ac v (i64.wrap (x3_0 - 1))).1 ≥ (Ac v x3_0).1)) (RET false) (NX (i64.wrap (x3_0 + 1)))))) (NX (i64.wrap (x3_0 + 1))))))))) (NX (i64.wrap (x3_0 + 1)))))) (RET (decide ((v.length : Int) ≤ 8)))
def Le (k : Nat) (v : Az) : Nat → Int → Option (Bool)
 | 0, _ => none
 | n + 1, x3_0 => K4 (Le k v n) some k v x3_0
theorem Xfw {β : Type} (k : Nat) (v : Az) (K : KT β) (n : Nat) : ∀ (x3_0 : Int), Pt k v K n x3_0 =
  (Le k v n x3_0).bind fun r => K (F202_O.put r) := by
 induction n with
 | zero => intros; rfl
 | succ n ih =>
  intro x3_0
  refine Eq.trans (b := K4 (Pt k v K n) (fun r => K (F202_O.put r)) k v x3_0) (by kernel_rfl) ?_
  rw [Le]
  simp only [K4, z1, z2, z3, z4, z5, z6, z7, z8, ih]
def Xht {β : Type} (LP0 : Int → Option β) (k : Nat) (v : Az) : Option β := LP0 0
def F202 (k : Nat) (v : Az) : Option (Bool) := Xht (Le k v k) k v
theorem X24 {β : Type} (k : Nat) (v : Az) (K : KT β) : Ag (Y5 k) Tryz.f202 (PsT.put Xhq (v, ())) K = (F202 k v).bind fun r => K (F202_O.put r) :=
 Eq.trans (b := Xht (Pt k v K k) k v) (by kernel_rfl) (by simp only [F202, Xht, z1, z2, z3, z4, z5, z6, z7, z8, Xfw])
def Xg7 (k : Nat) : FD := ⟨202, Xhq, F202_O, F202 k⟩
theorem Xqq (k : Nat) : (Xg7 k).Ok Tryz.prog := ⟨fun x => Aa (Ai (Af (.c (Xs2 k) .n)) _ _ _ _) Ah Tryz.func202 rfl rfl (X24 k _ some), .of (by kernel_rfl)⟩
abbrev Yez (k : Nat) : Env := A6 (Aw [Dm k, Xg7 k]) Ap .own [] k
abbrev Xwj : List PA := [.agg (.pair mI (.sl .ro Ce))]
abbrev F129_O : RO := ⟨[.v], [mB]⟩
def F129 (k : Nat) (v : (den sta)) : Option (Bool) := (Hj k v.1 0 65535).bind fun b1 => cond b1 ((F202 k v.2).bind fun b2 => some b2) (some false)
theorem X1u {β : Type} (k : Nat) (v : (den sta)) (K : KT β) : Ag (Yez k) Tryz.f129 (PsT.put Xwj (v, ())) K = (F129 k v).bind fun r => K (F129_O.put r) :=
 Eq.trans (b := (Hj k v.1 0 65535).bind fun b1 => cond b1 ((F202 k v.2).bind fun b2 => K (F129_O.put b2)) (K (F129_O.put false))) (by kernel_rfl) (by simp only [F129, z1, z2, z3, z4, z5, z6, z7, z8])
def Xis (k : Nat) : FD := ⟨129, Xwj, F129_O, F129 k⟩
theorem Xrp (k : Nat) : (Xis k).Ok Tryz.prog := ⟨fun x => Aa (Ai (Af (.c (Dq k) (.c (Xqq k) .n))) _ _ _ _) Ah Tryz.func129 rfl rfl (X1u k _ some), .of (by kernel_rfl)⟩
end
end Go.Proofs.YtdmepjjepogddaaGreat.Gn
end

section
set_option linter.unusedVariables false
set_option linter.unusedSimpArgs false
namespace Go.Proofs.YtdmepjjepogddaaGreat.Gn
open Go.Rf IntKind
noncomputable section
def Yjb : Nat → Hint
 | 0 => ⟨pl 0 1 (pl 3 1 []), []⟩
 | 2 => ⟨pl 0 1 (pl 3 2 []), []⟩
 | _ => ⟨[], []⟩
abbrev Fz (k : Nat) : Env := A6 (Aw [Xis k]) Yjb .own [] k
abbrev Xt1 : List PA := [.one (.sl .ro sta)]
abbrev F59_O : RO := ⟨[.v], [mB]⟩
noncomputable def Xk2 {β : Type} (k : Nat) (v : Ak) (K : KT β) : Ex → St → Option β := Be (Fz k) Tryz.f59 (PsT.put Xt1 (v, ())) K
def X9c (v : Ak) (x3_2 x4_2 : Int) : St := ⟨(.one (.s .ro sta v)) :: (.one .d) :: (.one .d) :: (.one (vI x3_2)) :: (.one (vI x4_2)) :: dz 31 [], []⟩
noncomputable def Tk {β : Type} (k : Nat) (v : Ak) (KK : Ex → St → Option β) (n : Nat) (x3_2 x4_2 : Int) : Option β := A0 (Fz k) Tryz.f59 [1, 0, 1, 0, 0, 1, 0, 0, 1, 1, 0] 2 KK n (X9c v x3_2 x4_2)
def Oy {β : Type} (NX : Int → Int → Option β) (EX0 : (Int × Int) → Option β) (EX1 : (Int × Int) → Option β) (k : Nat) (v : Ak) (x3_2 x4_2 : Int) : Option β := cond (decide (x4_2 < x3_2)) (As x4_2 v (As x3_2 v (cond ((Ac v x4_2).1 == (Ac v x3_2).1) (EX0 (x3_2, x4_2)) (NX x3_2 (i64.wrap (x4_2 + 1)))))) (EX1 (x3_2, x4_2))
def M8 (k : Nat) (v : Ak) : Nat → Int → Int → Option ((Sum (Int × Int) (Int × Int)))
 | 0, _, _ => none
 | n + 1, x3_2, x4_2 => Oy (M8 k v n) (fun y2 => some (.inl y2)) (fun y2 => some (.inr y2)) k v x3_2 x4_2
theorem Xoq {β : Type} (k : Nat) (v : Ak) (KK : Ex → St → Option β) (n : Nat) : ∀ (x3_2 x4_2 : Int), Tk k v KK n x3_2 x4_2 =
  (M8 k v n x3_2 x4_2).bind fun z => Ix (fun y2 => KK .ret ⟨(.one (.s .ro sta v)) :: (.one .d) :: (.one (vB false)) :: (.one (vI y2.1)) :: (.one (vI y2.2)) :: dz 12 ((.one (vI y2.2)) :: (.one (vI y2.1)) :: (.one (vB true)) :: (.one .d) :: (.one .d) :: (.one (.s .ro sta v)) :: (.one (vI y2.2)) :: (.one (.ptr (.elem 24000 y2.2.toNat 0) 2 0)) :: (.one (.ptr (.elem 24000 y2.2.toNat 0) 2 0)) :: (.one (vI (Ac v y2.2).1)) :: (.one (.s .ro sta v)) :: (.one (vI y2.1)) :: (.one (.ptr (.elem 29000 y2.1.toNat 0) 2 0)) :: (.one (.ptr (.elem 29000 y2.1.toNat 0) 2 0)) :: (.one (vI (Ac v y2.1).1)) :: (.one (vB true)) :: dz 3 []), [eM 24000 (.s .ro sta v), eM 29000 (.s .ro sta v)]⟩) (fun y2 => KK (.exit 2) ⟨(.one (.s .ro sta v)) :: (.one .d) :: (.one .d) :: (.one (vI y2.1)) :: (.one (vI y2.2)) :: dz 12 ((.one (vI y2.2)) :: (.one (vI y2.1)) :: (.one (vB false)) :: dz 16 []), []⟩) z := by
 induction n with
 | zero => intros; rfl
 | succ n ih =>
  intro x3_2 x4_2
  refine Eq.trans (b := Oy (Tk k v KK n) (fun y2 => KK .ret ⟨(.one (.s .ro sta v)) :: (.one .d) :: (.one (vB false)) :: (.one (vI y2.1)) :: (.one (vI y2.2)) :: dz 12 ((.one (vI y2.2)) :: (.one (vI y2.1)) :: (.one (vB true)) :: (.one .d) :: (.one .d) :: (.one (.s .ro sta v)) :: (.one (vI y2.2)) :: (.one (.ptr (.elem 24000 y2.2.toNat 0) 2 0)) :: (.one (.ptr (.elem 24000 y2.2.toNat 0) 2 0)) :: (.one (vI (Ac v y2.2).1)) :: (.one (.s .ro sta v)) :: (.one (vI y2.1)) :: (.one (.ptr (.elem 29000 y2.1.toNat 0) 2 0)) :: (.one (.ptr (.elem 29000 y2.1.toNat 0) 2 0)) :: (.one (vI (Ac v y2.1).1)) :: (.one (vB true)) :: dz 3 []), [eM 24000 (.s .ro sta v), eM 29000 (.s .ro sta v)]⟩) (fun y2 => KK (.exit 2) ⟨(.one (.s .ro sta v)) :: (.one .d) :: (.one .d) :: (.one (vI y2.1)) :: (.one (vI y2.2)) :: dz 12 ((.one (vI y2.2)) :: (.one (vI y2.1)) :: (.one (vB false)) :: dz 16 []), []⟩) k v x3_2 x4_2) (by kernel_rfl) ?_
  rw [M8]
  simp only [Oy, z1, z2, z3, z4, z5, z6, z7, z8, ih]
def Ycs (v : Ak) (x3_0 : Int) : St := ⟨(.one (.s .ro sta v)) :: (.one .d) :: (.one .d) :: (.one (vI x3_0)) :: dz 32 [], []⟩
noncomputable def Vw {β : Type} (k : Nat) (v : Ak) (K : KT β) (n : Nat) (x3_0 : Int) : Option β := A0 (Fz k) Tryz.f59 [1, 0, 1, 0] 0 (Ad (Fz k) [1, 0, 1, 0] (Ae Tryz.f59) 0 (Xk2 k v K)) n (Ycs v x3_0)
def Mg (k : Nat) (v : Ak) : Nat → Int → Option (Bool)
 | 0, _ => none
 | n + 1, x3_0 => cond (decide (x3_0 < (v.length : Int))) (As x3_0 v ((F129 k (Ac v x3_0)).bind fun b1 => cond (!b1) (some false) ((M8 k v k x3_0 0).bind fun z2 => Ix (fun y2 => some false) (fun y2 => Mg k v n (i64.wrap (y2.1 + 1))) z2))) (some (decide ((v.length : Int) ≤ 5)))
theorem Xb4 {β : Type} (k n : Nat) (v : Ak) (y2 : Int × Int) (K : KT β) :
  (Ad (Fz k) [1, 0, 0, 1, 1, 0] (Bf [1, 0, 1, 0, 0] (Ae Tryz.f59)) 0 (B3 (Fz k) Tryz.f59 [1, 0, 1, 0] 0 (Ad (Fz k) [1, 0, 1, 0] (Ae Tryz.f59) 0 (Xk2 k v K)) n)) .ret ⟨(.one (.s .ro sta v)) :: (.one .d) :: (.one (vB false)) :: (.one (vI y2.1)) :: (.one (vI y2.2)) :: dz 12 ((.one (vI y2.2)) :: (.one (vI y2.1)) :: (.one (vB true)) :: (.one .d) :: (.one .d) :: (.one (.s .ro sta v)) :: (.one (vI y2.2)) :: (.one (.ptr (.elem 24000 y2.2.toNat 0) 2 0)) :: (.one (.ptr (.elem 24000 y2.2.toNat 0) 2 0)) :: (.one (vI (Ac v y2.2).1)) :: (.one (.s .ro sta v)) :: (.one (vI y2.1)) :: (.one (.ptr (.elem 29000 y2.1.toNat 0) 2 0)) :: (.one (.ptr (.elem 29000 y2.1.toNat 0) 2 0)) :: (.one (vI (Ac v y2.1).1)) :: (.one (vB true)) :: dz 3 []), [eM 24000 (.s .ro sta v), eM 29000 (.s .ro sta v)]⟩ =
  K (F59_O.put false) := by kernel_rfl
theorem Xcb {β : Type} (k n : Nat) (v : Ak) (y2 : Int × Int) (K : KT β) :
  (Ad (Fz k) [1, 0, 0, 1, 1, 0] (Bf [1, 0, 1, 0, 0] (Ae Tryz.f59)) 0 (B3 (Fz k) Tryz.f59 [1, 0, 1, 0] 0 (Ad (Fz k) [1, 0, 1, 0] (Ae Tryz.f59) 0 (Xk2 k v K)) n)) (.exit 2) ⟨(.one (.s .ro sta v)) :: (.one .d) :: (.one .d) :: (.one (vI y2.1)) :: (.one (vI y2.2)) :: dz 12 ((.one (vI y2.2)) :: (.one (vI y2.1)) :: (.one (vB false)) :: dz 16 []), []⟩ =
  Vw k v K n (i64.wrap (y2.1 + 1)) := by kernel_rfl
theorem Xof {β : Type} (k : Nat) (v : Ak) (K : KT β) (n : Nat) : ∀ (x3_0 : Int), Vw k v K n x3_0 =
  (Mg k v n x3_0).bind fun r => K (F59_O.put r) := by
 induction n with
 | zero => intros; rfl
 | succ n ih =>
  intro x3_0
  refine Eq.trans (b := cond (decide (x3_0 < (v.length : Int))) (As x3_0 v ((F129 k (Ac v x3_0)).bind fun b1 => cond (!b1) (K (F59_O.put false)) (Tk k v (Ad (Fz k) [1, 0, 0, 1, 1, 0] (Bf [1, 0, 1, 0, 0] (Ae Tryz.f59)) 0 (B3 (Fz k) Tryz.f59 [1, 0, 1, 0] 0 (Ad (Fz k) [1, 0, 1, 0] (Ae Tryz.f59) 0 (Xk2 k v K)) n)) k x3_0 0))) (K (F59_O.put (decide ((v.length : Int) ≤ 5))))) (by kernel_rfl) ?_
  rw [Mg]
  simp only [z1, z2, z3, z4, z5, z6, z7, z8, Xoq, Xb4 k n v _ K, Xcb k n v _ K, ih, As, Bt]
def Xxi {β : Type} (LP0 : Int → Option β) (k : Nat) (v : Ak) : Option β := LP0 0
def F59 (k : Nat) (v : Ak) : Option (Bool) := Xxi (Mg k v k) k v
theorem Yd7 {β : Type} (k : Nat) (v : Ak) (K : KT β) : Ag (Fz k) Tryz.f59 (PsT.put Xt1 (v, ())) K = (F59 k v).bind fun r => K (F59_O.put r) :=
 Eq.trans (b := Xxi (Vw k v K k) k v) (by kernel_rfl) (by simp only [F59, Xxi, z1, z2, z3, z4, z5, z6, z7, z8, Xof])
def Xls (k : Nat) : FD := ⟨59, Xt1, F59_O, F59 k⟩
theorem Xtj (k : Nat) : (Xls k).Ok Tryz.prog := ⟨fun x => Aa (Ai (Af (.c (Xrp k) .n)) _ _ _ _) Ah Tryz.func59 rfl rfl (Yd7 k _ some), .of (by kernel_rfl)⟩
def Ykh : Nat → Hint
 | 0 => ⟨pl 0 1 ((3, .own .own A2 []) :: (pl 4 1 [])), []⟩
 | 2 => ⟨pl 0 1 (pl 3 4 []), pl 3900 1 (pl 5000 1 ((5001, .own .own A5 []) :: []))⟩
 | _ => ⟨[], []⟩
abbrev Kf (k : Nat) : Env := A6 Bn Ykh .own [] k
abbrev Xv2 : List PA := [.one (.sl .ro A2)]
abbrev F81_O : RO := ⟨[.v], [.sl .own A2]⟩
noncomputable def Xsb {β : Type} (k : Nat) (v : Ab) (K : KT β) : Ex → St → Option β := Be (Kf k) Tryz.f81 (PsT.put Xv2 (v, ())) K
def Ye9 (v : Ab) (x4_2 x6_2 : Int) (m3900_2 : Ab) (m5000_2 : (den A2)) : St := ⟨(.one (.s .ro A2 v)) :: (.one .d) :: (.one .d) :: (.one (.a (.cell 3900) 0 0 none)) :: (.one (vI x4_2)) :: (.one (.ptr (.cell 5000) 2 0)) :: (.one (vI x6_2)) :: dz 48 [], (eM 3900 (.s .own A2 m3900_2)) :: (Bg 5000 (Cl (.pair mI (.sl .own A5)) m5000_2) [])⟩
noncomputable def Vd {β : Type} (k : Nat) (v : Ab) (KK : Ex → St → Option β) (n : Nat) (x4_2 x6_2 : Int) (m3900_2 : Ab) (m5000_2 : (den A2)) : Option β := A0 (Kf k) Tryz.f81 [1, 1, 0, 1, 0, 0, 1, 0, 0, 1, 0, 1, 0] 2 KK n (Ye9 v x4_2 x6_2 m3900_2 m5000_2)
def N4 {β : Type} (NX : Int → Int → Ab → (den A2) → Option β) (EX0 : (Int × Int × Ab × (den A2)) → Option β) (k : Nat) (v : Ab) (x4_2 x6_2 : Int) (m3900_2 : Ab) (m5000_2 : (den A2)) : Option β := As x4_2 v (cond (decide (x6_2 < ((Ac v x4_2).2.length : Int))) (As x4_2 v (As x6_2 (Ac v x4_2).2 (Bt (([] : Aj).length) ((Ac (Ac v x4_2).2 x6_2).2.2.2.length) 1 (Bt (m5000_2.2.length) ([((Ac (Ac v x4_2).2 x6_2).1, (Ac (Ac v x4_2).2 x6_2).2.1, (Ac (Ac v x4_2).2 x6_2).2.2.1, [] ++ (Ac (Ac v x4_2).2 x6_2).2.2.2)].length) 48 (NX x4_2 (i64.wrap (x6_2 + 1)) m3900_2 (m5000_2.1, m5000_2.2 ++ [((Ac (Ac v x4_2).2 x6_2).1, (Ac (Ac v x4_2).2 x6_2).2.1, (Ac (Ac v x4_2).2 x6_2).2.2.1, [] ++ (Ac (Ac v x4_2).2 x6_2).2.2.2)])))))) (EX0 (x4_2, x6_2, m3900_2, m5000_2)))
def Ps (k : Nat) (v : Ab) : Nat → Int → Int → Ab → (den A2) → Option ((Int × Int × Ab × (den A2)))
 | 0, _, _, _, _ => none
 | n + 1, x4_2, x6_2, m3900_2, m5000_2 => N4 (Ps k v n) (fun y2 => some y2) k v x4_2 x6_2 m3900_2 m5000_2
theorem Xnp {β : Type} (k : Nat) (v : Ab) (KK : Ex → St → Option β) (n : Nat) : ∀ (x4_2 x6_2 : Int) (m3900_2 : Ab) (m5000_2 : (den A2)), Vd k v KK n x4_2 x6_2 m3900_2 m5000_2 =
  (Ps k v n x4_2 x6_2 m3900_2 m5000_2).bind fun y2 => KK (.exit 2) ⟨(.one (.s .ro A2 v)) :: (.one .d) :: (.one .d) :: (.one (.a (.cell 3900) 0 0 none)) :: (.one (vI y2.1)) :: (.one (.ptr (.cell 5000) 2 0)) :: (.one (vI y2.2.1)) :: dz 14 ((.one (vI y2.2.1)) :: (.one (.s .ro A2 v)) :: (.one (vI y2.1)) :: (.one (.ptr (.elem 24000 y2.1.toNat 0) 2 0)) :: (.one (.ptr (.elem 24000 y2.1.toNat 1) 1 0)) :: (.one (.s .ro A5 (Ac v y2.1).2)) :: (.one (vI ((Ac v y2.1).2.length : Int))) :: (.one (vB false)) :: dz 26 []), (eM 3900 (.s .own A2 y2.2.2.1)) :: (Bg 5000 (Cl (.pair mI (.sl .own A5)) y2.2.2.2) [eM 24000 (.s .ro A2 v)])⟩ := by
 induction n with
 | zero => intros; rfl
 | succ n ih =>
  intro x4_2 x6_2 m3900_2 m5000_2
  refine Eq.trans (b := N4 (Vd k v KK n) (fun y2 => KK (.exit 2) ⟨(.one (.s .ro A2 v)) :: (.one .d) :: (.one .d) :: (.one (.a (.cell 3900) 0 0 none)) :: (.one (vI y2.1)) :: (.one (.ptr (.cell 5000) 2 0)) :: (.one (vI y2.2.1)) :: dz 14 ((.one (vI y2.2.1)) :: (.one (.s .ro A2 v)) :: (.one (vI y2.1)) :: (.one (.ptr (.elem 24000 y2.1.toNat 0) 2 0)) :: (.one (.ptr (.elem 24000 y2.1.toNat 1) 1 0)) :: (.one (.s .ro A5 (Ac v y2.1).2)) :: (.one (vI ((Ac v y2.1).2.length : Int))) :: (.one (vB false)) :: dz 26 []), (eM 3900 (.s .own A2 y2.2.2.1)) :: (Bg 5000 (Cl (.pair mI (.sl .own A5)) y2.2.2.2) [eM 24000 (.s .ro A2 v)])⟩) k v x4_2 x6_2 m3900_2 m5000_2) (by kernel_rfl) ?_
  rw [Ps]
  simp only [N4, z1, z2, z3, z4, z5, z6, z7, z8, ih]
def Yd9 (v : Ab) (x4_0 : Int) (m3900_0 : Ab) : St := ⟨(.one (.s .ro A2 v)) :: (.one .d) :: (.one .d) :: (.one (.a (.cell 3900) 0 0 none)) :: (.one (vI x4_0)) :: dz 50 [], [eM 3900 (.s .own A2 m3900_0)]⟩
noncomputable def Ve {β : Type} (k : Nat) (v : Ab) (K : KT β) (n : Nat) (x4_0 : Int) (m3900_0 : Ab) : Option β := A0 (Kf k) Tryz.f81 [1, 1, 0, 1, 0] 0 (Ad (Kf k) [1, 1, 0, 1, 0] (Ae Tryz.f81) 0 (Xsb k v K)) n (Yd9 v x4_0 m3900_0)
def P7 (k : Nat) (v : Ab) : Nat → Int → Ab → Option (Ab)
 | 0, _, _ => none
 | n + 1, x4_0, m3900_0 => cond (decide (x4_0 < (v.length : Int))) (As x4_0 v ((Ps k v k x4_0 0 m3900_0 ((Ac v x4_0).1, [])).bind fun y2 => Bt (y2.2.2.1.length) ([y2.2.2.2].length) 32 (P7 k v n (i64.wrap (y2.1 + 1)) (y2.2.2.1 ++ [y2.2.2.2])))) (some m3900_0)
theorem Xdn {β : Type} (k n : Nat) (v : Ab) (y2 : Int × Int × Ab × (den A2)) (K : KT β) :
  (Ad (Kf k) [1, 0, 0, 1, 0, 1, 0] (Bf [1, 1, 0, 1, 0, 0] (Ae Tryz.f81)) 0 (B3 (Kf k) Tryz.f81 [1, 1, 0, 1, 0] 0 (Ad (Kf k) [1, 1, 0, 1, 0] (Ae Tryz.f81) 0 (Xsb k v K)) n)) (.exit 2) ⟨(.one (.s .ro A2 v)) :: (.one .d) :: (.one .d) :: (.one (.a (.cell 3900) 0 0 none)) :: (.one (vI y2.1)) :: (.one (.ptr (.cell 5000) 2 0)) :: (.one (vI y2.2.1)) :: dz 14 ((.one (vI y2.2.1)) :: (.one (.s .ro A2 v)) :: (.one (vI y2.1)) :: (.one (.ptr (.elem 24000 y2.1.toNat 0) 2 0)) :: (.one (.ptr (.elem 24000 y2.1.toNat 1) 1 0)) :: (.one (.s .ro A5 (Ac v y2.1).2)) :: (.one (vI ((Ac v y2.1).2.length : Int))) :: (.one (vB false)) :: dz 26 []), (eM 3900 (.s .own A2 y2.2.2.1)) :: (Bg 5000 (Cl (.pair mI (.sl .own A5)) y2.2.2.2) [eM 24000 (.s .ro A2 v)])⟩ =
  Bt (y2.2.2.1.length) ([y2.2.2.2].length) 32 (Ve k v K n (i64.wrap (y2.1 + 1)) (y2.2.2.1 ++ [y2.2.2.2])) := by kernel_rfl
theorem Xoj {β : Type} (k : Nat) (v : Ab) (K : KT β) (n : Nat) : ∀ (x4_0 : Int) (m3900_0 : Ab), Ve k v K n x4_0 m3900_0 =
  (P7 k v n x4_0 m3900_0).bind fun r => K (F81_O.put r) := by
 induction n with
 | zero => intros; rfl
 | succ n ih =>
  intro x4_0 m3900_0
  refine Eq.trans (b := cond (decide (x4_0 < (v.length : Int))) (As x4_0 v (Vd k v (Ad (Kf k) [1, 0, 0, 1, 0, 1, 0] (Bf [1, 1, 0, 1, 0, 0] (Ae Tryz.f81)) 0 (B3 (Kf k) Tryz.f81 [1, 1, 0, 1, 0] 0 (Ad (Kf k) [1, 1, 0, 1, 0] (Ae Tryz.f81) 0 (Xsb k v K)) n)) k x4_0 0 m3900_0 ((Ac v x4_0).1, []))) (K (F81_O.put m3900_0))) (by kernel_rfl) ?_
  rw [P7]
  simp only [z1, z2, z3, z4, z5, z6, z7, z8, Xnp, Xdn k n v _ K, ih, As, Bt]
def Xt4 {β : Type} (LP0 : Int → Ab → Option β) (k : Nat) (v : Ab) : Option β := LP0 0 []
def F81 (k : Nat) (v : Ab) : Option (Ab) := Xt4 (P7 k v k) k v
theorem Yb7 {β : Type} (k : Nat) (v : Ab) (K : KT β) : Ag (Kf k) Tryz.f81 (PsT.put Xv2 (v, ())) K = (F81 k v).bind fun r => K (F81_O.put r) :=
 Eq.trans (b := Xt4 (Ve k v K k) k v) (by kernel_rfl) (by simp only [F81, Xt4, z1, z2, z3, z4, z5, z6, z7, z8, Xoj])
def Xuu (k : Nat) : FD := ⟨81, Xv2, F81_O, F81 k⟩
theorem X5r (k : Nat) : (Xuu k).Ok Tryz.prog := ⟨fun x => Aa (Ai .none _ _ _ _) Ah Tryz.func81 rfl rfl (Yb7 k _ some), .of (by kernel_rfl)⟩
def Yb9 : Nat → Hint
 | 0 => ⟨pl 0 1 ((5, .own .own (.int .u8) []) :: (pl 6 1 [])), []⟩
 | _ => ⟨[], []⟩
abbrev Xbc (k : Nat) : Env := A6 (Aw [Dm k]) Yb9 .own [] k
abbrev Xgl : List PA := [.one mI, .one mI]
abbrev F153_O : RO := ⟨[.v], [.sl .own (.int .u8)]⟩
noncomputable def Yec {β : Type} (k : Nat) (v w : Int) (K : KT β) : Ex → St → Option β := Be (Xbc k) Tryz.f153 (PsT.put Xgl (v, w, ())) K
def X3p (v w : Int) (x6_0 : Int) (m5900_0 : Aj) : St := ⟨(.one (vI v)) :: dz 4 ((.one (.a (.cell 5900) 0 0 none)) :: (.one (vI x6_0)) :: dz 30 []), [eM 5900 (.s .own (.int .u8) m5900_0)]⟩
noncomputable def Q0 {β : Type} (k : Nat) (v w : Int) (K : KT β) (n : Nat) (x6_0 : Int) (m5900_0 : Aj) : Option β := A0 (Xbc k) Tryz.f153 [1, 1, 1, 0, 1, 0] 0 (Ad (Xbc k) [1, 1, 1, 0, 1, 0] (Ae Tryz.f153) 0 (Yec k v w K)) n (X3p v w x6_0 m5900_0)
def E0 {β : Type} (NX : Int → Aj → Option β) (RET : Aj → Option β) (k : Nat) (v w : Int) (x6_0 : Int) (m5900_0 : Aj) : Option β := cond (decide (x6_0 ≥ 0)) (cond (decide ((i64.wrap (8 * x6_0)) < 0)) none (Bt (m5900_0.length) ([u8.wrap ((v.fdiv (2 ^ (min (i64.wrap (8 * x6_0)).toNat 64))).tmod 256)].length) 1 (NX (i64.wrap (x6_0 - 1)) (m5900_0 ++ [u8.wrap ((v.fdiv (2 ^ (min (i64.wrap (8 * x6_0)).toNat 64))).tmod 256)])))) (RET m5900_0)
def F0 (k : Nat) (v w : Int) : Nat → Int → Aj → Option (Aj)
 | 0, _, _ => none
 | n + 1, x6_0, m5900_0 => E0 (F0 k v w n) some k v w x6_0 m5900_0
theorem Xgi {β : Type} (k : Nat) (v w : Int) (K : KT β) (n : Nat) : ∀ (x6_0 : Int) (m5900_0 : Aj), Q0 k v w K n x6_0 m5900_0 =
  (F0 k v w n x6_0 m5900_0).bind fun r => K (F153_O.put r) := by
 induction n with
 | zero => intros; rfl
 | succ n ih =>
  intro x6_0 m5900_0
  refine Eq.trans (b := E0 (Q0 k v w K n) (fun r => K (F153_O.put r)) k v w x6_0 m5900_0) (by kernel_rfl) ?_
  rw [F0]
  simp only [E0, z1, z2, z3, z4, z5, z6, z7, z8, ih]
def Xr {β : Type} (LP0 : Int → Aj → Option β) (RET : Aj → Option β) (k : Nat) (v w : Int) : Option β := (Hj k w 1 4).bind fun b1 => cond (!b1) (RET []) (cond (decide ((i64.wrap (8 * w)) < 0)) none ((Hj k v 0 (i64.wrap ((i64.wrap (1 * 2 ^ (min (i64.wrap (8 * w)).toNat 64))) - 1))).bind fun b2 => cond (!b2) (RET []) (LP0 (i64.wrap (w - 1)) [])))
def Sk (k : Nat) (v w : Int) : Option (Aj) := Xr (F0 k v w k) some k v w
theorem X1k {β : Type} (k : Nat) (v w : Int) (K : KT β) : Ag (Xbc k) Tryz.f153 (PsT.put Xgl (v, w, ())) K = (Sk k v w).bind fun r => K (F153_O.put r) :=
 Eq.trans (b := Xr (Q0 k v w K k) (fun r => K (F153_O.put r)) k v w) (by kernel_rfl) (by simp only [Sk, Xr, z1, z2, z3, z4, z5, z6, z7, z8, Xgi])
def Qz (k : Nat) : FD := ⟨153, Xgl, F153_O, Sk k⟩
theorem Uc (k : Nat) : (Qz k).Ok Tryz.prog := ⟨fun x => Aa (Ai (Af (.c (Dq k) .n)) _ _ _ _) Ah Tryz.func153 rfl rfl (X1k k _ _ some), .of (by kernel_rfl)⟩
def X77 : Nat → Hint
 | 0 => ⟨pl 0 1 (pl 3 2 []), []⟩
 | _ => ⟨[], []⟩
abbrev Xap (k : Nat) : Env := A6 Bn X77 .own [] k
abbrev Xii : List PA := [.one (.sl .ro (.int .u8))]
abbrev F279_O : RO := ⟨[.v], [mI]⟩
noncomputable def Yb2 {β : Type} (k : Nat) (v : Aj) (K : KT β) : Ex → St → Option β := Be (Xap k) Tryz.f279 (PsT.put Xii (v, ())) K
def X2b (v : Aj) (x3_0 x4_0 : Int) : St := ⟨(.one (.s .ro (.int .u8) v)) :: (.one .d) :: (.one .d) :: (.one (vI x3_0)) :: (.one (vI x4_0)) :: dz 29 [], []⟩
noncomputable def Rg {β : Type} (k : Nat) (v : Aj) (K : KT β) (n : Nat) (x3_0 x4_0 : Int) : Option β := A0 (Xap k) Tryz.f279 [1, 1, 0, 1, 0] 0 (Ad (Xap k) [1, 1, 0, 1, 0] (Ae Tryz.f279) 0 (Yb2 k v K)) n (X2b v x3_0 x4_0)
def E4 {β : Type} (NX : Int → Int → Option β) (RET : Int → Option β) (k : Nat) (v : Aj) (x3_0 x4_0 : Int) : Option β := cond (decide (x4_0 < (v.length : Int))) (cond ((x4_0.tmod 2) == 0) (As x4_0 v (cond (decide ((i64.wrap (x3_0 + (i64.wrap ((i64.wrap (Ac v x4_0)) * 256)))) > 65535)) (NX (i64.wrap ((i64.wrap (x3_0 + (i64.wrap ((i64.wrap (Ac v x4_0)) * 256)))) - 65535)) (i64.wrap (x4_0 + 1))) (NX (i64.wrap (x3_0 + (i64.wrap ((i64.wrap (Ac v x4_0)) * 256)))) (i64.wrap (x4_0 + 1))))) (As x4_0 v (cond (decide ((i64.wrap (x3_0 + (i64.wrap (Ac v x4_0)))) > 65535)) (NX (i64.wrap ((i64.wrap (x3_0 + (i64.wrap (Ac v x4_0)))) - 65535)) (i64.wrap (x4_0 + 1))) (NX (i64.wrap (x3_0 + (i64.wrap (Ac v x4_0)))) (i64.wrap (x4_0 + 1)))))) (RET x3_0)
def Em (k : Nat) (v : Aj) : Nat → Int → Int → Option (Int)
 | 0, _, _ => none
 | n + 1, x3_0, x4_0 => E4 (Em k v n) some k v x3_0 x4_0
theorem Xid {β : Type} (k : Nat) (v : Aj) (K : KT β) (n : Nat) : ∀ (x3_0 x4_0 : Int), Rg k v K n x3_0 x4_0 =
  (Em k v n x3_0 x4_0).bind fun r => K (F279_O.put r) := by
 induction n with
 | zero => intros; rfl
 | succ n ih =>
  intro x3_0 x4_0
  refine Eq.trans (b := E4 (Rg k v K n) (fun r => K (F279_O.put r)) k v x3_0 x4_0) (by kernel_rfl) ?_
  rw [Em]
  simp only [E4, z1, z2, z3, z4, z5, z6, z7, z8, ih]
def Xac {β : Type} (LP0 : Int → Int → Option β) (k : Nat) (v : Aj) : Option β := LP0 0 0
def Xod (k : Nat) (v : Aj) : Option (Int) := Xac (Em k v k) k v
theorem X1v {β : Type} (k : Nat) (v : Aj) (K : KT β) : Ag (Xap k) Tryz.f279 (PsT.put Xii (v, ())) K = (Xod k v).bind fun r => K (F279_O.put r) :=
 Eq.trans (b := Xac (Rg k v K k) k v) (by kernel_rfl) (by simp only [Xod, Xac, z1, z2, z3, z4, z5, z6, z7, z8, Xid])
def Xwb (k : Nat) : FD := ⟨279, Xii, F279_O, Xod k⟩
theorem X6x (k : Nat) : (Xwb k).Ok Tryz.prog := ⟨fun x => Aa (Ai .none _ _ _ _) Ah Tryz.func279 rfl rfl (X1v k _ some), .of (by kernel_rfl)⟩
abbrev Yb8 (k : Nat) : Env := A6 (Aw [Xwb k]) Ap .own [] k
abbrev Xuk : List PA := [.one (.sl .ro (.int .u8))]
abbrev F224_O : RO := ⟨[.v], [mI]⟩
def Xgu (k : Nat) (v : Aj) : Option (Int) := (Xod k v).bind fun b1 => some (i64.wrap (65535 - b1))
theorem Xzj {β : Type} (k : Nat) (v : Aj) (K : KT β) : Ag (Yb8 k) Tryz.f224 (PsT.put Xuk (v, ())) K = (Xgu k v).bind fun r => K (F224_O.put r) :=
 Eq.trans (b := (Xod k v).bind fun b1 => K (F224_O.put (i64.wrap (65535 - b1)))) (by kernel_rfl) (by simp only [Xgu, z1, z2, z3, z4, z5, z6, z7, z8])
def Xio (k : Nat) : FD := ⟨224, Xuk, F224_O, Xgu k⟩
theorem Xsz (k : Nat) : (Xio k).Ok Tryz.prog := ⟨fun x => Aa (Ai (Af (.c (X6x k) .n)) _ _ _ _) Ah Tryz.func224 rfl rfl (Xzj k _ some), .of (by kernel_rfl)⟩
abbrev Ya8 (k : Nat) : Env := A6 (Aw [Qz k, Xio k]) Ap .own [] k
abbrev Xpr : List PA := [.one mI, .one mI, .one (.sl .ro (.int .u8))]
abbrev F154_O : RO := ⟨[.v], [mI]⟩
def Xa2 {β : Type} (RET : Int → Option β) (k : Nat) (v w : Int) (p : Aj) : Option β := (Sk k v 2).bind fun b1 => (Sk k w 2).bind fun b2 => Bt (b1.length) (b2.length) 1 (Bt ((b1 ++ b2).length) (p.length) 1 ((Xgu k ((b1 ++ b2) ++ p)).bind fun b3 => RET b3))
def Xey := Xa2 (β := Int) some
theorem Xzl {β : Type} (k : Nat) (v w : Int) (p : Aj) (K : KT β) : Ag (Ya8 k) Tryz.f154 (PsT.put Xpr (v, w, p, ())) K = (Xey k v w p).bind fun r => K (F154_O.put r) :=
 Eq.trans (b := Xa2 (fun r => K (F154_O.put r)) k v w p) (by kernel_rfl) (by simp only [Xey, Xa2, z1, z2, z3, z4, z5, z6, z7, z8])
def Xhu (k : Nat) : FD := ⟨154, Xpr, F154_O, Xey k⟩
theorem Xya (k : Nat) : (Xhu k).Ok Tryz.prog := ⟨fun x => Aa (Ai (Af (.c (Uc k) (.c (Xsz k) .n))) _ _ _ _) Ah Tryz.func154 rfl rfl (Xzl k _ _ _ some), .of (by kernel_rfl)⟩
abbrev Yji (k : Nat) : Env := A6 (Aw [Z2 k, Dm k, Xhu k, Qz k]) Ap .own [] k
abbrev X37 : List PA := [.agg (.pair mI (.pair mI Qj)), .one mI]
abbrev F82_O : RO := ⟨[.v], [.sl .own (.int .u8)]⟩
def Xlc {β : Type} (RET : Aj → Option β) (k : Nat) (v : (den A5)) (w : Int) : Option β := Ff v fun v0 v1 v2 v3 => (Xdu k v).bind fun b1 => cond (!b1) (RET []) ((Hj k w 0 65535).bind fun b2 => cond (!b2) (RET []) (Bt ([u8.wrap v1, u8.wrap v2, u8.wrap (v3.length : Int)].length) (v3.length) 1 ((Xey k v0 w ([u8.wrap v1, u8.wrap v2, u8.wrap (v3.length : Int)] ++ v3)).bind fun b3 => (Sk k b3 2).bind fun b4 => Bt (([u8.wrap v1, u8.wrap v2, u8.wrap (v3.length : Int)] ++ v3).length) (b4.length) 1 (RET (([u8.wrap v1, u8.wrap v2, u8.wrap (v3.length : Int)] ++ v3) ++ b4)))))
def F82 := Xlc (β := Aj) some
theorem Ycn {β : Type} (k : Nat) (v : (den A5)) (w : Int) (K : KT β) : Ag (Yji k) Tryz.f82 (PsT.put X37 (v, w, ())) K = (F82 k v w).bind fun r => K (F82_O.put r) :=
 Eq.trans (b := Xlc (fun r => K (F82_O.put r)) k v w) (by kernel_rfl) (by simp only [F82, Xlc, z1, z2, z3, z4, z5, z6, z7, z8, Ff])
def X51 (k : Nat) : FD := ⟨82, X37, F82_O, F82 k⟩
theorem Yju (k : Nat) : (X51 k).Ok Tryz.prog := ⟨fun x => Aa (Ai (Af (.c (Xe3 k) (.c (Dq k) (.c (Xya k) (.c (Uc k) .n))))) _ _ _ _) Ah Tryz.func82 rfl rfl (Ycn k _ _ some), .of (by kernel_rfl)⟩
abbrev X91 (k : Nat) : Env := A6 (Aw [Dm k]) Ap .own [] k
abbrev Xt9 : List PA := [.agg (.pair mI Da)]
abbrev F130_O : RO := ⟨[.v], [mB]⟩
def Zs {β : Type} (RET : Bool → Option β) (k : Nat) (v : (den Al)) : Option β := A1 v fun v0 v1 v2 v3 v4 v5 v6 v7 v8 => (Hj k v0 0 65535).bind fun b1 => cond (!b1) (RET false) ((Hj k v1 0 65535).bind fun b2 => cond (!b2) (RET false) ((Hj k v2 0 255).bind fun b3 => cond (!b3) (RET false) ((Hj k v3 0 255).bind fun b4 => cond (!b4) (RET false) ((Hj k v4 0 255).bind fun b5 => cond (!b5) (RET false) ((Hj k v5 0 255).bind fun b6 => cond (!b6) (RET false) (cond (decide ((v8.length : Int) ≤ 48)) (cond (!v6) (cond (!v7) (RET true) (cond (v5 == 0) (RET (!v6)) (RET false))) (cond (decide ((v8.length : Int) > 0)) (cond (!v7) (RET true) (cond (v5 == 0) (RET (!v6)) (RET false))) (RET false))) (RET false)))))))
def G8 := Zs (β := Bool) some
theorem Xzd {β : Type} (k : Nat) (v : (den Al)) (K : KT β) : Ag (X91 k) Tryz.f130 (PsT.put Xt9 (v, ())) K = (G8 k v).bind fun r => K (F130_O.put r) :=
 Eq.trans (b := Zs (fun r => K (F130_O.put r)) k v) (by kernel_rfl) (by simp only [G8, Zs, z1, z2, z3, z4, z5, z6, z7, z8, A1])
def Gd (k : Nat) : FD := ⟨130, Xt9, F130_O, G8 k⟩
theorem Hm (k : Nat) : (Gd k).Ok Tryz.prog := ⟨fun x => Aa (Ai (Af (.c (Dq k) .n)) _ _ _ _) Ah Tryz.func130 rfl rfl (Xzd k _ some), .of (by kernel_rfl)⟩
abbrev Yc3 (k : Nat) : Env := A6 Bn Ap .own [] k
abbrev Xwq : List PA := [.agg (.pair mI Da)]
abbrev F138_O : RO := ⟨[.a], [.pair mI m_9]⟩
def Nq (k : Nat) (v : (den Al)) : Option ((den Al)) := A1 v fun v0 v1 v2 v3 v4 v5 v6 v7 v8 => Bt (([] : Aj).length) (v8.length) 1 (some (v0, v1, v2, v3, v4, v5, v6, v7, [] ++ v8))
theorem X1f {β : Type} (k : Nat) (v : (den Al)) (K : KT β) : Ag (Yc3 k) Tryz.f138 (PsT.put Xwq (v, ())) K = (Nq k v).bind fun r => K (F138_O.put r) :=
 Eq.trans (b := Bt (([] : Aj).length) (v.2.2.2.2.2.2.2.2.length) 1 (K (F138_O.put (v.1, v.2.1, v.2.2.1, v.2.2.2.1, v.2.2.2.2.1, v.2.2.2.2.2.1, v.2.2.2.2.2.2.1, v.2.2.2.2.2.2.2.1, [] ++ v.2.2.2.2.2.2.2.2)))) (by kernel_rfl) (by simp only [Nq, z1, z2, z3, z4, z5, z6, z7, z8, A1])
def Vr (k : Nat) : FD := ⟨138, Xwq, F138_O, Nq k⟩
theorem Xas (k : Nat) : (Vr k).Ok Tryz.prog := ⟨fun x => Aa (Ai .none _ _ _ _) Ah Tryz.func138 rfl rfl (X1f k _ some), .of (by kernel_rfl)⟩
abbrev Ydy (k : Nat) : Env := A6 Bn Ap .own [] k
abbrev Xqm : List PA := [.agg (.pair mI Da)]
abbrev F364_O : RO := ⟨[.v], [mI]⟩
def Xok (k : Nat) (v : (den Al)) : Option (Int) := cond v.2.2.2.2.2.2.1 (cond v.2.2.2.2.2.2.2.1 (some 3) (some 1)) (cond v.2.2.2.2.2.2.2.1 (some 2) (some 0))
theorem X3m {β : Type} (k : Nat) (v : (den Al)) (K : KT β) : Ag (Ydy k) Tryz.f364 (PsT.put Xqm (v, ())) K = (Xok k v).bind fun r => K (F364_O.put r) :=
 Eq.trans (b := cond v.2.2.2.2.2.2.1 (cond v.2.2.2.2.2.2.2.1 (K (F364_O.put 3)) (K (F364_O.put 1))) (cond v.2.2.2.2.2.2.2.1 (K (F364_O.put 2)) (K (F364_O.put 0)))) (by kernel_rfl) (by simp only [Xok, z1, z2, z3, z4, z5, z6, z7, z8, A1])
def Xvt (k : Nat) : FD := ⟨364, Xqm, F364_O, Xok k⟩
theorem Yct (k : Nat) : (Xvt k).Ok Tryz.prog := ⟨fun x => Aa (Ai .none _ _ _ _) Ah Tryz.func364 rfl rfl (X3m k _ some), .of (by kernel_rfl)⟩
abbrev Yau (k : Nat) : Env := A6 (Aw [Qz k, Xvt k]) Ap .own [] k
abbrev Xpk : List PA := [.agg (.pair mI Da)]
abbrev F347_O : RO := ⟨[.v], [.sl .own (.int .u8)]⟩
def Yc {β : Type} (RET : Aj → Option β) (k : Nat) (v : (den Al)) : Option β := A1 v fun v0 v1 v2 v3 v4 v5 _ _ v8 => (Sk k v0 2).bind fun b1 => (Sk k v1 2).bind fun b2 => Bt (b1.length) (b2.length) 1 ((Xok k v).bind fun b3 => Bt ((b1 ++ b2).length) ([u8.wrap v2, u8.wrap v3, u8.wrap v4, u8.wrap v5, u8.wrap b3, u8.wrap (v8.length : Int)].length) 1 (RET ((b1 ++ b2) ++ [u8.wrap v2, u8.wrap v3, u8.wrap v4, u8.wrap v5, u8.wrap b3, u8.wrap (v8.length : Int)])))
def Xo6 := Yc (β := Aj) some
theorem X2o {β : Type} (k : Nat) (v : (den Al)) (K : KT β) : Ag (Yau k) Tryz.f347 (PsT.put Xpk (v, ())) K = (Xo6 k v).bind fun r => K (F347_O.put r) :=
 Eq.trans (b := Yc (fun r => K (F347_O.put r)) k v) (by kernel_rfl) (by simp only [Xo6, Yc, z1, z2, z3, z4, z5, z6, z7, z8, A1])
def Xvf (k : Nat) : FD := ⟨347, Xpk, F347_O, Xo6 k⟩
theorem X86 (k : Nat) : (Xvf k).Ok Tryz.prog := ⟨fun x => Aa (Ai (Af (.c (Uc k) (.c (Yct k) .n))) _ _ _ _) Ah Tryz.func347 rfl rfl (X2o k _ some), .of (by kernel_rfl)⟩
abbrev Ydm (k : Nat) : Env := A6 (Aw [Gd k, Xvf k, Xio k, Qz k]) Ap .own [] k
abbrev Xxk : List PA := [.agg (.pair mI Da)]
abbrev F323_O : RO := ⟨[.v], [.sl .own (.int .u8)]⟩
def Z0 {β : Type} (RET : Aj → Option β) (k : Nat) (v : (den Al)) : Option β := (G8 k v).bind fun b1 => cond (!b1) (RET []) ((Xo6 k v).bind fun b2 => (Xgu k b2).bind fun b3 => (Sk k b3 2).bind fun b4 => Bt (b2.length) (b4.length) 1 (Bt ((b2 ++ b4).length) (v.2.2.2.2.2.2.2.2.length) 1 (RET ((b2 ++ b4) ++ v.2.2.2.2.2.2.2.2))))
def Xme := Z0 (β := Aj) some
theorem X3d {β : Type} (k : Nat) (v : (den Al)) (K : KT β) : Ag (Ydm k) Tryz.f323 (PsT.put Xxk (v, ())) K = (Xme k v).bind fun r => K (F323_O.put r) :=
 Eq.trans (b := Z0 (fun r => K (F323_O.put r)) k v) (by kernel_rfl) (by simp only [Xme, Z0, z1, z2, z3, z4, z5, z6, z7, z8, A1])
def Xro (k : Nat) : FD := ⟨323, Xxk, F323_O, Xme k⟩
theorem Yfj (k : Nat) : (Xro k).Ok Tryz.prog := ⟨fun x => Aa (Ai (Af (.c (Hm k) (.c (X86 k) (.c (Xsz k) (.c (Uc k) .n))))) _ _ _ _) Ah Tryz.func323 rfl rfl (X3d k _ some), .of (by kernel_rfl)⟩
abbrev Ycx (k : Nat) : Env := A6 (Aw [Dm k]) Ap .own [] k
abbrev Xwu : List PA := [.agg (.pair mI Qj)]
abbrev F348_O : RO := ⟨[.v], [mB]⟩
def Xk {β : Type} (RET : Bool → Option β) (k : Nat) (v : (Int × (Int × Aj))) : Option β := (Hj k v.1 1 6).bind fun b1 => cond b1 ((Hj k v.2.1 0 65535).bind fun b2 => cond b2 (RET (decide ((v.2.2.length : Int) ≤ 20))) (RET false)) (RET false)
def Xi4 := Xk (β := Bool) some
theorem Xyl {β : Type} (k : Nat) (v : (Int × (Int × Aj))) (K : KT β) : Ag (Ycx k) Tryz.f348 (PsT.put Xwu (v, ())) K = (Xi4 k v).bind fun r => K (F348_O.put r) :=
 Eq.trans (b := Xk (fun r => K (F348_O.put r)) k v) (by kernel_rfl) (by simp only [Xi4, Xk, z1, z2, z3, z4, z5, z6, z7, z8])
def Xgb (k : Nat) : FD := ⟨348, Xwu, F348_O, Xi4 k⟩
theorem Xx8 (k : Nat) : (Xgb k).Ok Tryz.prog := ⟨fun x => Aa (Ai (Af (.c (Dq k) .n)) _ _ _ _) Ah Tryz.func348 rfl rfl (Xyl k _ some), .of (by kernel_rfl)⟩
abbrev Ybo (k : Nat) : Env := A6 (Aw [Xgb k, Qz k]) Ap .own [] k
abbrev Xqb : List PA := [.agg (.pair mI Qj)]
abbrev F324_O : RO := ⟨[.v], [.sl .own (.int .u8)]⟩
def Yo {β : Type} (RET : Aj → Option β) (k : Nat) (v : (Int × (Int × Aj))) : Option β := u_3 v fun v0 v1 v2 => (Xi4 k v).bind fun b1 => cond (!b1) (RET []) ((Sk k v1 2).bind fun b2 => Bt ([u8.wrap v0].length) (b2.length) 1 (Bt (([u8.wrap v0] ++ b2).length) ([u8.wrap (v2.length : Int)].length) 1 (Bt ((([u8.wrap v0] ++ b2) ++ [u8.wrap (v2.length : Int)]).length) (v2.length) 1 (RET ((([u8.wrap v0] ++ b2) ++ [u8.wrap (v2.length : Int)]) ++ v2)))))
def Xot := Yo (β := Aj) some
theorem Xzh {β : Type} (k : Nat) (v : (Int × (Int × Aj))) (K : KT β) : Ag (Ybo k) Tryz.f324 (PsT.put Xqb (v, ())) K = (Xot k v).bind fun r => K (F324_O.put r) :=
 Eq.trans (b := Yo (fun r => K (F324_O.put r)) k v) (by kernel_rfl) (by simp only [Xot, Yo, z1, z2, z3, z4, z5, z6, z7, z8, u_3])
def Xxg (k : Nat) : FD := ⟨324, Xqb, F324_O, Xot k⟩
theorem X8q (k : Nat) : (Xxg k).Ok Tryz.prog := ⟨fun x => Aa (Ai (Af (.c (Xx8 k) (.c (Uc k) .n))) _ _ _ _) Ah Tryz.func324 rfl rfl (Xzh k _ some), .of (by kernel_rfl)⟩
end
end Go.Proofs.YtdmepjjepogddaaGreat.Gn
end

section
set_option linter.unusedVariables false
set_option linter.unusedSimpArgs false
namespace Go.Proofs.YtdmepjjepogddaaGreat.Gn
open Go.Rf IntKind
noncomputable section
def X7f : Nat → Hint
 | 0 => ⟨pl 0 3 (pl 7 2 []), []⟩
 | _ => ⟨[], []⟩
abbrev Zn (k : Nat) : Env := A6 (Aw [Dm k]) X7f .own [] k
abbrev Xia : List PA := [.one (.sl .ro (.int .u8)), .one mI, .one mI]
abbrev F225_O : RO := ⟨[.v], [mI]⟩
noncomputable def Ydi {β : Type} (k : Nat) (v : Aj) (w p : Int) (K : KT β) : Ex → St → Option β := Be (Zn k) Tryz.f225 (PsT.put Xia (v, w, p, ())) K
def X1x (v : Aj) (w p : Int) (x7_0 x8_0 : Int) : St := ⟨(.one (.s .ro (.int .u8) v)) :: (.one (vI w)) :: (.one (vI p)) :: dz 4 ((.one (vI x7_0)) :: (.one (vI x8_0)) :: dz 28 []), []⟩
noncomputable def Q4 {β : Type} (k : Nat) (v : Aj) (w p : Int) (K : KT β) (n : Nat) (x7_0 x8_0 : Int) : Option β := A0 (Zn k) Tryz.f225 [1, 1, 1, 0, 1, 0] 0 (Ad (Zn k) [1, 1, 1, 0, 1, 0] (Ae Tryz.f225) 0 (Ydi k v w p K)) n (X1x v w p x7_0 x8_0)
def Eu {β : Type} (NX : Int → Int → Option β) (RET : Int → Option β) (k : Nat) (v : Aj) (w p : Int) (x7_0 x8_0 : Int) : Option β := cond (decide (x8_0 < p)) (As (i64.wrap (w + x8_0)) v (NX (i64.wrap ((i64.wrap (x7_0 * 256)) + (i64.wrap (Ac v (i64.wrap (w + x8_0)))))) (i64.wrap (x8_0 + 1)))) (RET x7_0)
def F9 (k : Nat) (v : Aj) (w p : Int) : Nat → Int → Int → Option (Int)
 | 0, _, _ => none
 | n + 1, x7_0, x8_0 => Eu (F9 k v w p n) some k v w p x7_0 x8_0
theorem Xfl {β : Type} (k : Nat) (v : Aj) (w p : Int) (K : KT β) (n : Nat) : ∀ (x7_0 x8_0 : Int), Q4 k v w p K n x7_0 x8_0 =
  (F9 k v w p n x7_0 x8_0).bind fun r => K (F225_O.put r) := by
 induction n with
 | zero => intros; rfl
 | succ n ih =>
  intro x7_0 x8_0
  refine Eq.trans (b := Eu (Q4 k v w p K n) (fun r => K (F225_O.put r)) k v w p x7_0 x8_0) (by kernel_rfl) ?_
  rw [F9]
  simp only [Eu, z1, z2, z3, z4, z5, z6, z7, z8, ih]
def Z6 {β : Type} (LP0 : Int → Int → Option β) (RET : Int → Option β) (k : Nat) (v : Aj) (w p : Int) : Option β := (Hj k p 1 4).bind fun b1 => cond (!b1) (RET (-1)) ((Hj k w 0 (i64.wrap ((v.length : Int) - p))).bind fun b2 => cond (!b2) (RET (-1)) (LP0 0 0))
def Xgd (k : Nat) (v : Aj) (w p : Int) : Option (Int) := Z6 (F9 k v w p k) some k v w p
theorem X3i {β : Type} (k : Nat) (v : Aj) (w p : Int) (K : KT β) : Ag (Zn k) Tryz.f225 (PsT.put Xia (v, w, p, ())) K = (Xgd k v w p).bind fun r => K (F225_O.put r) :=
 Eq.trans (b := Z6 (Q4 k v w p K k) (fun r => K (F225_O.put r)) k v w p) (by kernel_rfl) (by simp only [Xgd, Z6, z1, z2, z3, z4, z5, z6, z7, z8, Xfl])
def Xil (k : Nat) : FD := ⟨225, Xia, F225_O, Xgd k⟩
theorem Xwz (k : Nat) : (Xil k).Ok Tryz.prog := ⟨fun x => Aa (Ai (Af (.c (Dq k) .n)) _ _ _ _) Ah Tryz.func225 rfl rfl (X3i k _ _ _ some), .of (by kernel_rfl)⟩
abbrev Ybm (k : Nat) : Env := A6 (Aw [Xil k, Xgb k]) Ap .own [] k
abbrev Xx2 : Type := (Int × (Int × Aj)) × Bool
abbrev Xyh : List PA := [.one (.sl .ro (.int .u8))]
abbrev F349_O : RO := ⟨[.a, .v], [.pair mI m_2, mB]⟩
def Xag {β : Type} (RET : Xx2 → Option β) (k : Nat) (v : Aj) : Option β := cond (decide ((v.length : Int) < 4)) (RET ((0, 0, []), false)) (cond (decide (0 < (v.length : Int))) ((Xgd k v 1 2).bind fun b1 => cond (decide (0 ≤ 4) && decide (4 ≤ (v.length : Int))) (Bt (([] : Aj).length) ((v.drop 4).length) 1 ((Xi4 k (i64.wrap (Ac v 0), b1, [] ++ (v.drop 4))).bind fun b2 => cond (!b2) (RET ((0, 0, []), false)) (cond (decide (3 < (v.length : Int))) (cond ((i64.wrap (Ac v 3)) != (([] ++ (v.drop 4)).length : Int)) (RET ((0, 0, []), false)) (RET ((i64.wrap (Ac v 0), b1, [] ++ (v.drop 4)), true))) none))) none) none)
def Xnv := Xag (β := Xx2) some
theorem X1h {β : Type} (k : Nat) (v : Aj) (K : KT β) : Ag (Ybm k) Tryz.f349 (PsT.put Xyh (v, ())) K = (Xnv k v).bind fun r => K (F349_O.put r) :=
 Eq.trans (b := Xag (fun r => K (F349_O.put r)) k v) (by kernel_rfl) (by simp only [Xnv, Xag, z1, z2, z3, z4, z5, z6, z7, z8])
def Xpp (k : Nat) : FD := ⟨349, Xyh, F349_O, Xnv k⟩
theorem Ydb (k : Nat) : (Xpp k).Ok Tryz.prog := ⟨fun x => Aa (Ai (Af (.c (Xwz k) (.c (Xx8 k) .n))) _ _ _ _) Ah Tryz.func349 rfl rfl (X1h k _ some), .of (by kernel_rfl)⟩
abbrev Yda (k : Nat) : Env := A6 (Aw [Xpp k]) Ap .own [] k
abbrev Xqh : List PA := [.agg (.pair mI Da)]
abbrev F325_O : RO := ⟨[.v], [mB]⟩
def Xai {β : Type} (RET : Bool → Option β) (k : Nat) (v : (den Al)) : Option β := (Xnv k v.2.2.2.2.2.2.2.2).bind fun b1 => cond b1.2 (cond (v.2.2.1 == 1) (RET (decide (b1.1.1 ≥ 3))) (RET false)) (RET false)
def Xnw := Xai (β := Bool) some
theorem X0s {β : Type} (k : Nat) (v : (den Al)) (K : KT β) : Ag (Yda k) Tryz.f325 (PsT.put Xqh (v, ())) K = (Xnw k v).bind fun r => K (F325_O.put r) :=
 Eq.trans (b := Xai (fun r => K (F325_O.put r)) k v) (by kernel_rfl) (by simp only [Xnw, Xai, z1, z2, z3, z4, z5, z6, z7, z8, A1])
def Xrd (k : Nat) : FD := ⟨325, Xqh, F325_O, Xnw k⟩
theorem X73 (k : Nat) : (Xrd k).Ok Tryz.prog := ⟨fun x => Aa (Ai (Af (.c (Ydb k) .n)) _ _ _ _) Ah Tryz.func325 rfl rfl (X0s k _ some), .of (by kernel_rfl)⟩
abbrev Yad (k : Nat) : Env := A6 (Aw [Xro k, Xxg k, Gd k, Dm k, Xrd k]) Ap .own [] k
abbrev Xrb : List PA := [.agg (.pair mI Da), .one mI, .one mI, .one mI]
abbrev F262_O : RO := ⟨[.a, .v], [.pair mI m_9, mB]⟩
def Zi {β : Type} (RET : (den Al) × Bool → Option β) (k : Nat) (v : (den Al)) (w p q : Int) : Option β := (Xme k v).bind fun b1 => cond (decide (0 ≤ (if 20 < (b1.length : Int) then 20 else (b1.length : Int))) && decide ((if 20 < (b1.length : Int) then 20 else (b1.length : Int)) ≤ (b1.length : Int))) ((Xot k (p, q, (b1.take ((if 20 < (b1.length : Int) then 20 else (b1.length : Int)).toNat)).drop 0)).bind fun b2 => (G8 k v).bind fun b3 => cond (!b3) (RET ((0, 0, 0, 0, 0, 0, false, false, []), false)) ((Hj k w 0 65535).bind fun b4 => cond (!b4) (RET ((0, 0, 0, 0, 0, 0, false, false, []), false)) ((Hj k p 3 6).bind fun b5 => cond (!b5) (RET ((0, 0, 0, 0, 0, 0, false, false, []), false)) (cond ((b2.length : Int) == 0) (RET ((0, 0, 0, 0, 0, 0, false, false, []), false)) ((Xnw k v).bind fun b6 => cond b6 (RET ((0, 0, 0, 0, 0, 0, false, false, []), false)) (cond (decide (v.2.2.2.2.2.1 > 0)) (RET ((0, 0, 0, 0, 0, 0, false, false, []), false)) (RET ((w, v.1, 1, 64, v.2.2.2.2.1, 0, false, false, b2), true)))))))) none
def Xcj := Zi (β := (den Al) × Bool) some
theorem Xzk {β : Type} (k : Nat) (v : (den Al)) (w p q : Int) (K : KT β) : Ag (Yad k) Tryz.f262 (PsT.put Xrb (v, w, p, q, ())) K = (Xcj k v w p q).bind fun r => K (F262_O.put r) :=
 Eq.trans (b := Zi (fun r => K (F262_O.put r)) k v w p q) (by kernel_rfl) (by simp only [Xcj, Zi, z1, z2, z3, z4, z5, z6, z7, z8, A1])
def Xwm (k : Nat) : FD := ⟨262, Xrb, F262_O, Xcj k⟩
theorem Yfz (k : Nat) : (Xwm k).Ok Tryz.prog := ⟨fun x => Aa (Ai (Af (.c (Yfj k) (.c (X8q k) (.c (Hm k) (.c (Dq k) (.c (X73 k) .n)))))) _ _ _ _) Ah Tryz.func262 rfl rfl (Xzk k _ _ _ _ some), .of (by kernel_rfl)⟩
abbrev X92 (k : Nat) : Env := A6 (Aw [Xwm k]) Ap .own [] k
abbrev Xp4 : List PA := [.agg (.pair mI (.sl .ro Ce)), .agg (.pair mI Da), .one mI, .one mI]
abbrev F203_O : RO := ⟨[.a], [Xr4]⟩
def Xcr (k : Nat) (v : (den sta)) (w : (den Al)) (p q : Int) : Option ((den So)) := (Xcj k w v.1 p q).bind fun b1 => cond (!b1.2) (some (0, 0, [])) (some (3, 0, [b1.1]))
theorem X13 {β : Type} (k : Nat) (v : (den sta)) (w : (den Al)) (p q : Int) (K : KT β) : Ag (X92 k) Tryz.f203 (PsT.put Xp4 (v, w, p, q, ())) K = (Xcr k v w p q).bind fun r => K (F203_O.put r) :=
 Eq.trans (b := (Xcj k w v.1 p q).bind fun b1 => cond (!b1.2) (K (F203_O.put (0, 0, []))) (K (F203_O.put (3, 0, [b1.1])))) (by kernel_rfl) (by simp only [Xcr, z1, z2, z3, z4, z5, z6, z7, z8, A1])
def Xt0 (k : Nat) : FD := ⟨203, Xp4, F203_O, Xcr k⟩
theorem Yce (k : Nat) : (Xt0 k).Ok Tryz.prog := ⟨fun x => Aa (Ai (Af (.c (Yfz k) .n)) _ _ _ _) Ah Tryz.func203 rfl rfl (X13 k _ _ _ _ some), .of (by kernel_rfl)⟩
abbrev Ya2 (k : Nat) : Env := A6 (Aw [Xiq k, Dm k, Xex k]) Ap .own [] k
abbrev Xtk : List PA := [.agg m_3, .one mI]
abbrev F263_O : RO := ⟨[.v], [mB]⟩
def Xp {β : Type} (RET : Bool → Option β) (k : Nat) (v : (den Ce)) (w : Int) : Option β := (Xfv k v).bind fun b1 => cond b1 ((Hj k w 0 65535).bind fun b2 => cond b2 ((Xdi k v.2.1).bind fun b3 => cond (decide (b3 = 0)) none ((Xdi k v.2.1).bind fun b4 => cond (decide (b4 = 0)) none (RET ((i64.wrap (w.tdiv b3)) == (i64.wrap (v.1.tdiv b4)))))) (RET false)) (RET false)
def Xnr := Xp (β := Bool) some
theorem Xzn {β : Type} (k : Nat) (v : (den Ce)) (w : Int) (K : KT β) : Ag (Ya2 k) Tryz.f263 (PsT.put Xtk (v, w, ())) K = (Xnr k v w).bind fun r => K (F263_O.put r) :=
 Eq.trans (b := Xp (fun r => K (F263_O.put r)) k v w) (by kernel_rfl) (by simp only [Xnr, Xp, z1, z2, z3, z4, z5, z6, z7, z8, Gl])
def Xwk (k : Nat) : FD := ⟨263, Xtk, F263_O, Xnr k⟩
theorem Yfr (k : Nat) : (Xwk k).Ok Tryz.prog := ⟨fun x => Aa (Ai (Af (.c (Xs2 k) (.c (Dq k) (.c (Xv7 k) .n)))) _ _ _ _) Ah Tryz.func263 rfl rfl (Xzn k _ _ some), .of (by kernel_rfl)⟩
def X8j : Nat → Hint
 | 0 => ⟨pl 0 2 (pl 4 1 (pl 6 1 [])), pl 4000 4 []⟩
 | _ => ⟨[], []⟩
abbrev Zp (k : Nat) : Env := A6 (Aw [Xg7 k, Xwk k]) X8j .own [] k
abbrev Xeu : List PA := [.one (.sl .ro Ce), .one mI]
abbrev F204_O : RO := ⟨[.a, .v], [m_3, mB]⟩
noncomputable def X6z {β : Type} (k : Nat) (v : Az) (w : Int) (K : KT β) : Ex → St → Option β := Be (Zp k) Tryz.f204 (PsT.put Xeu (v, w, ())) K
def X29 (v : Az) (w : Int) (x6_0 : Int) : St := ⟨(.one (.s .ro Ce v)) :: (.one (vI w)) :: (.one .d) :: (.one .d) :: (.one (.ptr (.cell 4000) 4 0)) :: (.one .d) :: (.one (vI x6_0)) :: dz 22 [], Bg 4000 (Cl m_3 (0, 0, 0, 0)) []⟩
noncomputable def Qp {β : Type} (k : Nat) (v : Az) (w : Int) (K : KT β) (n : Nat) (x6_0 : Int) : Option β := A0 (Zp k) Tryz.f204 [1, 0, 1, 0] 0 (Ad (Zp k) [1, 0, 1, 0] (Ae Tryz.f204) 0 (X6z k v w K)) n (X29 v w x6_0)
def Gj {β : Type} (NX : Int → Option β) (RET : (den Ce) × Bool → Option β) (k : Nat) (v : Az) (w : Int) (x6_0 : Int) : Option β := cond (decide (x6_0 ≥ 0)) ((F202 k v).bind fun b1 => cond b1 (As x6_0 v ((Xnr k (Ac v x6_0) w).bind fun b2 => cond b2 (As x6_0 v (RET ((Ac v x6_0), true))) (NX (i64.wrap (x6_0 - 1))))) (RET ((0, 0, 0, 0), false))) (RET ((0, 0, 0, 0), false))
def Ii (k : Nat) (v : Az) (w : Int) : Nat → Int → Option ((den Ce) × Bool)
 | 0, _ => none
 | n + 1, x6_0 => Gj (Ii k v w n) some k v w x6_0
theorem Xih {β : Type} (k : Nat) (v : Az) (w : Int) (K : KT β) (n : Nat) : ∀ (x6_0 : Int), Qp k v w K n x6_0 =
  (Ii k v w n x6_0).bind fun r => K (F204_O.put r) := by
 induction n with
 | zero => intros; rfl
 | succ n ih =>
  intro x6_0
  refine Eq.trans (b := Gj (Qp k v w K n) (fun r => K (F204_O.put r)) k v w x6_0) (by kernel_rfl) ?_
  rw [Ii]
  simp only [Gj, z1, z2, z3, z4, z5, z6, z7, z8, ih]
def Y2 {β : Type} (LP0 : Int → Option β) (k : Nat) (v : Az) (w : Int) : Option β := LP0 (i64.wrap ((v.length : Int) - 1))
def Xnu (k : Nat) (v : Az) (w : Int) : Option ((den Ce) × Bool) := Y2 (Ii k v w k) k v w
theorem X0c {β : Type} (k : Nat) (v : Az) (w : Int) (K : KT β) : Ag (Zp k) Tryz.f204 (PsT.put Xeu (v, w, ())) K = (Xnu k v w).bind fun r => K (F204_O.put r) :=
 Eq.trans (b := Y2 (Qp k v w K k) k v w) (by kernel_rfl) (by simp only [Xnu, Y2, z1, z2, z3, z4, z5, z6, z7, z8, Xih])
def Xsh (k : Nat) : FD := ⟨204, Xeu, F204_O, Xnu k⟩
theorem Ycf (k : Nat) : (Xsh k).Ok Tryz.prog := ⟨fun x => Aa (Ai (Af (.c (Xqq k) (.c (Yfr k) .n))) _ _ _ _) Ah Tryz.func204 rfl rfl (X0c k _ _ some), .of (by kernel_rfl)⟩
def Ya1 : Nat → Hint
 | 0 => ⟨pl 1 2 ((6, .own .own Al []) :: (pl 7 1 [])), pl 2000 9 []⟩
 | _ => ⟨[], []⟩
abbrev Yi (k : Nat) : Env := A6 (Aw [Gd k, Dm k]) Ya1 .own [] k
abbrev Xhj : List PA := [.agg (.pair mI Da), .one mI]
abbrev F205_O : RO := ⟨[.v, .v], [.sl .own Al, mB]⟩
noncomputable def Ydp {β : Type} (k : Nat) (v : (den Al)) (w : Int) (K : KT β) : Ex → St → Option β := Be (Yi k) Tryz.f205 (PsT.put Xhj (v, w, ())) K
def X28 (v : (den Al)) (w : Int) (x7_0 : Int) (m6900_0 : Aq) : St := ⟨(.one .d) :: (.one (vI w)) :: (.one (.ptr (.cell 2000) 9 0)) :: dz 3 ((.one (.a (.cell 6900) 0 0 none)) :: (.one (vI x7_0)) :: dz 75 []), Bg 2000 (Cl (.pair mI Da) v) [eM 6900 (.s .own Al m6900_0)]⟩
noncomputable def Qv {β : Type} (k : Nat) (v : (den Al)) (w : Int) (K : KT β) (n : Nat) (x7_0 : Int) (m6900_0 : Aq) : Option β := A0 (Yi k) Tryz.f205 [1, 1, 1, 0, 1, 0] 0 (Ad (Yi k) [1, 1, 1, 0, 1, 0] (Ae Tryz.f205) 0 (Ydp k v w K)) n (X28 v w x7_0 m6900_0)
def Fe {β : Type} (k : Nat) (v : (den Al)) (w : Int) (NX : Int → Aq → Option β) (RET : (Aq × Bool) → Option β) (x7_0 : Int) (m6900_0 : Aq) : Option β := A1 v fun v0 v1 v2 v3 v4 v5 v6 v7 v8 => cond v6 (cond (decide (0 ≤ (if (v8.length : Int) < (i64.wrap (x7_0 + w)) then (v8.length : Int) else i64.wrap (x7_0 + w))) && decide ((if (v8.length : Int) < (i64.wrap (x7_0 + w)) then (v8.length : Int) else i64.wrap (x7_0 + w)) ≤ (v8.length : Int))) (cond (decide (0 ≤ x7_0) && decide (x7_0 ≤ (if (v8.length : Int) < (i64.wrap (x7_0 + w)) then (v8.length : Int) else i64.wrap (x7_0 + w)))) (Bt (([] : Aj).length) (((v8.take ((if (v8.length : Int) < (i64.wrap (x7_0 + w)) then (v8.length : Int) else i64.wrap (x7_0 + w)).toNat)).drop x7_0.toNat).length) 1 (cond (decide ((i64.wrap (v5 + x7_0)) > 255)) (RET ([], false)) (Bt (m6900_0.length) ([(v0, v1, v2, v3, v4, i64.wrap (v5 + x7_0), true, v7, [] ++ ((v8.take ((if (v8.length : Int) < (i64.wrap (x7_0 + w)) then (v8.length : Int) else i64.wrap (x7_0 + w)).toNat)).drop x7_0.toNat))].length) 80 (NX (i64.wrap (x7_0 + w)) (m6900_0 ++ [(v0, v1, v2, v3, v4, i64.wrap (v5 + x7_0), true, v7, [] ++ ((v8.take ((if (v8.length : Int) < (i64.wrap (x7_0 + w)) then (v8.length : Int) else i64.wrap (x7_0 + w)).toNat)).drop x7_0.toNat))]))))) none) none) (cond (decide (0 ≤ (if (v8.length : Int) < (i64.wrap (x7_0 + w)) then (v8.length : Int) else i64.wrap (x7_0 + w))) && decide ((if (v8.length : Int) < (i64.wrap (x7_0 + w)) then (v8.length : Int) else i64.wrap (x7_0 + w)) ≤ (v8.length : Int))) (cond (decide (0 ≤ x7_0) && decide (x7_0 ≤ (if (v8.length : Int) < (i64.wrap (x7_0 + w)) then (v8.length : Int) else i64.wrap (x7_0 + w)))) (Bt (([] : Aj).length) (((v8.take ((if (v8.length : Int) < (i64.wrap (x7_0 + w)) then (v8.length : Int) else i64.wrap (x7_0 + w)).toNat)).drop x7_0.toNat).length) 1 (cond (decide ((i64.wrap (v5 + x7_0)) > 255)) (RET ([], false)) (Bt (m6900_0.length) ([(v0, v1, v2, v3, v4, i64.wrap (v5 + x7_0), decide ((if (v8.length : Int) < (i64.wrap (x7_0 + w)) then (v8.length : Int) else i64.wrap (x7_0 + w)) < (v8.length : Int)), v7, [] ++ ((v8.take ((if (v8.length : Int) < (i64.wrap (x7_0 + w)) then (v8.length : Int) else i64.wrap (x7_0 + w)).toNat)).drop x7_0.toNat))].length) 80 (NX (i64.wrap (x7_0 + w)) (m6900_0 ++ [(v0, v1, v2, v3, v4, i64.wrap (v5 + x7_0), decide ((if (v8.length : Int) < (i64.wrap (x7_0 + w)) then (v8.length : Int) else i64.wrap (x7_0 + w)) < (v8.length : Int)), v7, [] ++ ((v8.take ((if (v8.length : Int) < (i64.wrap (x7_0 + w)) then (v8.length : Int) else i64.wrap (x7_0 + w)).toNat)).drop x7_0.toNat))]))))) none) none)
def Hc {β : Type} (NX : Int → Aq → Option β) (RET : (Aq × Bool) → Option β) (k : Nat) (v : (den Al)) (w : Int) (x7_0 : Int) (m6900_0 : Aq) : Option β := cond (x7_0 == 0) (Fe k v w NX RET x7_0 m6900_0) (cond (decide (x7_0 < (v.2.2.2.2.2.2.2.2.length : Int))) (Fe k v w NX RET x7_0 m6900_0) (RET (m6900_0, true)))
def Ek (k : Nat) (v : (den Al)) (w : Int) : Nat → Int → Aq → Option (Aq × Bool)
 | 0, _, _ => none
 | n + 1, x7_0, m6900_0 => Hc (Ek k v w n) some k v w x7_0 m6900_0
theorem Xfi {β : Type} (k : Nat) (v : (den Al)) (w : Int) (K : KT β) (n : Nat) : ∀ (x7_0 : Int) (m6900_0 : Aq), Qv k v w K n x7_0 m6900_0 =
  (Ek k v w n x7_0 m6900_0).bind fun r => K (F205_O.put r) := by
 induction n with
 | zero => intros; rfl
 | succ n ih =>
  intro x7_0 m6900_0
  refine Eq.trans (b := Hc (Qv k v w K n) (fun r => K (F205_O.put r)) k v w x7_0 m6900_0) (by kernel_rfl) ?_
  rw [Ek]
  simp only [Hc, Fe, z1, z2, z3, z4, z5, z6, z7, z8, A1, ih]
def Zl {β : Type} (LP0 : Int → Aq → Option β) (RET : (Aq × Bool) → Option β) (k : Nat) (v : (den Al)) (w : Int) : Option β := (G8 k v).bind fun b1 => cond (!b1) (RET ([], false)) ((Hj k w 1 48).bind fun b2 => cond (!b2) (RET ([], false)) (cond (decide ((v.2.2.2.2.2.2.2.2.length : Int) > w)) (cond v.2.2.2.2.2.2.2.1 (RET ([], false)) (LP0 0 [])) (LP0 0 [])))
def Xce (k : Nat) (v : (den Al)) (w : Int) : Option (Aq × Bool) := Zl (Ek k v w k) some k v w
theorem Xz2 {β : Type} (k : Nat) (v : (den Al)) (w : Int) (K : KT β) : Ag (Yi k) Tryz.f205 (PsT.put Xhj (v, w, ())) K = (Xce k v w).bind fun r => K (F205_O.put r) :=
 Eq.trans (b := Zl (Qv k v w K k) (fun r => K (F205_O.put r)) k v w) (by kernel_rfl) (by simp only [Xce, Zl, z1, z2, z3, z4, z5, z6, z7, z8, A1, Xfi])
def Xq0 (k : Nat) : FD := ⟨205, Xhj, F205_O, Xce k⟩
theorem Yfc (k : Nat) : (Xq0 k).Ok Tryz.prog := ⟨fun x => Aa (Ai (Af (.c (Hm k) (.c (Dq k) .n))) _ _ _ _) Ah Tryz.func205 rfl rfl (Xz2 k _ _ some), .of (by kernel_rfl)⟩
abbrev X72 (k : Nat) : Env := A6 (Aw [Xis k, Gd k, Vr k, Xt0 k, Xsh k, Xq0 k]) Ap .own [] k
abbrev Xw1 : List PA := [.agg (.pair mI (.sl .ro Ce)), .agg (.pair mI Da)]
abbrev F131_O : RO := ⟨[.a], [Xr4]⟩
def Ob {β : Type} (k : Nat) (v : (den sta)) (w : (den Al)) (RET : (den So) → Option β) (b5 : (den Ce) × Bool) : Option β := (Nq k w).bind fun b8 => (Xce k (b8.1, b8.2.1, b8.2.2.1, i64.wrap (w.2.2.2.1 - 1), b8.2.2.2.2) b5.1.2.2.2).bind fun b9 => cond (!b9.2) (RET (0, 0, [])) (RET (2, b5.1.2.2.1, b9.1))
def Y4 {β : Type} (RET : (den So) → Option β) (k : Nat) (v : (den sta)) (w : (den Al)) : Option β := (F129 k v).bind fun b1 => cond (!b1) (RET (0, 0, [])) ((G8 k w).bind fun b2 => cond (!b2) (RET (0, 0, [])) (cond (w.2.1 == v.1) ((Nq k w).bind fun b3 => RET (1, 0, [b3])) (cond (decide (w.2.2.2.1 < 2)) ((Xcr k v w 4 0).bind fun b4 => RET b4) ((Xnu k v.2 w.2.1).bind fun b5 => cond (!b5.2) ((Xcr k v w 3 0).bind fun b6 => RET b6) (cond (decide ((w.2.2.2.2.2.2.2.2.length : Int) > b5.1.2.2.2)) (cond w.2.2.2.2.2.2.2.1 ((Xcr k v w 6 b5.1.2.2.2).bind fun b7 => RET b7) (Ob k v w RET b5)) (Ob k v w RET b5))))))
def Xhg := Y4 (β := (den So)) some
theorem X15 {β : Type} (k : Nat) (v : (den sta)) (w : (den Al)) (K : KT β) : Ag (X72 k) Tryz.f131 (PsT.put Xw1 (v, w, ())) K = (Xhg k v w).bind fun r => K (F131_O.put r) :=
 Eq.trans (b := Y4 (fun r => K (F131_O.put r)) k v w) (by kernel_rfl) (by simp only [Xhg, Y4, Ob, z1, z2, z3, z4, z5, z6, z7, z8, A1])
def Xun (k : Nat) : FD := ⟨131, Xw1, F131_O, Xhg k⟩
theorem Yd5 (k : Nat) : (Xun k).Ok Tryz.prog := ⟨fun x => Aa (Ai (Af (.c (Xrp k) (.c (Hm k) (.c (Xas k) (.c (Yce k) (.c (Ycf k) (.c (Yfc k) .n))))))) _ _ _ _) Ah Tryz.func131 rfl rfl (X15 k _ _ some), .of (by kernel_rfl)⟩
def X8d : Nat → Hint
 | 0 => ⟨pl 0 2 (pl 5 1 []), []⟩
 | _ => ⟨[], []⟩
abbrev X4 (k : Nat) : Env := A6 Bn X8d .own [] k
abbrev Xg1 : List PA := [.one (.sl .ro sta), .one mI]
abbrev F132_O : RO := ⟨[.v], [mI]⟩
noncomputable def X9l {β : Type} (k : Nat) (v : Ak) (w : Int) (K : KT β) : Ex → St → Option β := Be (X4 k) Tryz.f132 (PsT.put Xg1 (v, w, ())) K
def X3t (v : Ak) (w : Int) (x5_0 : Int) : St := ⟨(.one (.s .ro sta v)) :: (.one (vI w)) :: dz 3 ((.one (vI x5_0)) :: dz 14 []), []⟩
noncomputable def Pk {β : Type} (k : Nat) (v : Ak) (w : Int) (K : KT β) (n : Nat) (x5_0 : Int) : Option β := A0 (X4 k) Tryz.f132 [1, 0, 1, 0] 0 (Ad (X4 k) [1, 0, 1, 0] (Ae Tryz.f132) 0 (X9l k v w K)) n (X3t v w x5_0)
def Ko {β : Type} (NX : Int → Option β) (RET : Int → Option β) (k : Nat) (v : Ak) (w : Int) (x5_0 : Int) : Option β := cond (decide (x5_0 < (v.length : Int))) (As x5_0 v (cond ((Ac v x5_0).1 == w) (RET x5_0) (NX (i64.wrap (x5_0 + 1))))) (RET (-1))
def Kl (k : Nat) (v : Ak) (w : Int) : Nat → Int → Option (Int)
 | 0, _ => none
 | n + 1, x5_0 => Ko (Kl k v w n) some k v w x5_0
theorem Xel {β : Type} (k : Nat) (v : Ak) (w : Int) (K : KT β) (n : Nat) : ∀ (x5_0 : Int), Pk k v w K n x5_0 =
  (Kl k v w n x5_0).bind fun r => K (F132_O.put r) := by
 induction n with
 | zero => intros; rfl
 | succ n ih =>
  intro x5_0
  refine Eq.trans (b := Ko (Pk k v w K n) (fun r => K (F132_O.put r)) k v w x5_0) (by kernel_rfl) ?_
  rw [Kl]
  simp only [Ko, z1, z2, z3, z4, z5, z6, z7, z8, ih]
def Xfo {β : Type} (LP0 : Int → Option β) (k : Nat) (v : Ak) (w : Int) : Option β := LP0 0
def Xnx (k : Nat) (v : Ak) (w : Int) : Option (Int) := Xfo (Kl k v w k) k v w
theorem Xzs {β : Type} (k : Nat) (v : Ak) (w : Int) (K : KT β) : Ag (X4 k) Tryz.f132 (PsT.put Xg1 (v, w, ())) K = (Xnx k v w).bind fun r => K (F132_O.put r) :=
 Eq.trans (b := Xfo (Pk k v w K k) k v w) (by kernel_rfl) (by simp only [Xnx, Xfo, z1, z2, z3, z4, z5, z6, z7, z8, Xel])
def Xxf (k : Nat) : FD := ⟨132, Xg1, F132_O, Xnx k⟩
theorem Ygo (k : Nat) : (Xxf k).Ok Tryz.prog := ⟨fun x => Aa (Ai .none _ _ _ _) Ah Tryz.func132 rfl rfl (Xzs k _ _ some), .of (by kernel_rfl)⟩
end
end Go.Proofs.YtdmepjjepogddaaGreat.Gn
end

section
set_option linter.unusedVariables false
set_option linter.unusedSimpArgs false
namespace Go.Proofs.YtdmepjjepogddaaGreat.Gn
open Go.Rf IntKind
noncomputable section
def Yhi : Nat → Hint
 | 0 => ⟨pl 0 1 (pl 6 2 ((8, .own .own (.int .i64) []) :: (9, .own .sown Al []) :: (pl 10 1 []))), pl 6000 3 ((7000, .own .sown Al []) :: (7001, .own .sown Al []) :: (pl 7002 1 []))⟩
 | 2 => ⟨pl 0 1 (pl 6 2 ((8, .own .own (.int .i64) []) :: (9, .own .sown Al []) :: (pl 10 4 []))), pl 6000 3 ((7000, .own .sown Al []) :: (7001, .own .sown Al []) :: (pl 7002 1 (pl 11000 2 ((11002, .own .sown Al []) :: (pl 53002 1 [])))))⟩
 | _ => ⟨[], []⟩
abbrev Ji (k : Nat) : Env := A6 (Aw [Xls k, Gd k, Dm k, Xun k, Xxf k]) Yhi .ro [] k
abbrev Xpy : List PA := [.one (.sl .ro sta), .one mI, .agg (.pair mI Da)]
abbrev F61_O : RO := ⟨[.a], [m_11]⟩
noncomputable def Xxu {β : Type} (k : Nat) (v : Ak) (w : Int) (p : (den Al)) (K : KT β) : Ex → St → Option β := Be (Ji k) Tryz.f61 (PsT.put Xpy (v, w, p, ())) K
def X7k (v : Ak) (w : Int) (p : (den Al)) (x10_2 x12_2 x13_2 : Int) (m7000_2 : (den Db)) (m11000_2 : (den So)) (m8900_2 : Bq) (m9900_2 : Aq) : St := ⟨(.one (.s .ro sta v)) :: dz 5 ((.one (.ptr (.cell 6000) 3 0)) :: (.one (.ptr (.cell 7000) 3 0)) :: (.one (.a (.cell 8900) 0 0 none)) :: (.one (.a (.cell 9900) 0 0 none)) :: (.one (vI x10_2)) :: (.one (.ptr (.cell 11000) 3 0)) :: (.one (vI x12_2)) :: (.one (vI x13_2)) :: dz 99 []), Bg 6000 (Cl L3 ([], [], 0)) (Bg 7000 (Cl Xtf m7000_2) (Bg 11000 (Cl X05 m11000_2) [eM 53002 .d, eM 8900 (.s .own (.int .i64) m8900_2), eM 9900 (.s .sown Al m9900_2)]))⟩
noncomputable def Vm {β : Type} (k : Nat) (v : Ak) (w : Int) (p : (den Al)) (KK : Ex → St → Option β) (n : Nat) (x10_2 x12_2 x13_2 : Int) (m7000_2 : (den Db)) (m11000_2 : (den So)) (m8900_2 : Bq) (m9900_2 : Aq) : Option β := A0 (Ji k) Tryz.f61 [1, 1, 1, 1, 1, 0, 1, 0, 0, 1, 0, 0, 1, 1, 1, 1, 0] 2 KK n (X7k v w p x10_2 x12_2 x13_2 m7000_2 m11000_2 m8900_2 m9900_2)
def Oq {β : Type} (NX : Int → Int → Int → (den Db) → (den So) → Bq → Aq → Option β) (EX0 : (Int × Int × Int × (den So) × (den Db) × Bq × Aq) → Option β) (k : Nat) (v : Ak) (w : Int) (p : (den Al)) (x10_2 x12_2 x13_2 : Int) (m7000_2 : (den Db)) (m11000_2 : (den So)) (m8900_2 : Bq) (m9900_2 : Aq) : Option β := cond (decide (x13_2 < (m11000_2.2.2.length : Int))) (cond (m11000_2.1 == 1) (As x13_2 m11000_2.2.2 (Bt (m7000_2.1.length) ([(Ac m11000_2.2.2 x13_2)].length) 80 (NX x10_2 x12_2 (i64.wrap (x13_2 + 1)) (m7000_2.1 ++ [(Ac m11000_2.2.2 x13_2)], m7000_2.2) m11000_2 m8900_2 m9900_2))) (cond (m11000_2.1 == 3) (As x13_2 m11000_2.2.2 (Bt (m7000_2.2.1.length) ([(Ac m11000_2.2.2 x13_2)].length) 80 (NX x10_2 x12_2 (i64.wrap (x13_2 + 1)) (m7000_2.1, m7000_2.2.1 ++ [(Ac m11000_2.2.2 x13_2)], m7000_2.2.2) m11000_2 m8900_2 m9900_2))) (cond (decide (x12_2 ≥ 0)) (Bt (m8900_2.length) ([x12_2].length) 8 (As x13_2 m11000_2.2.2 (Bt (m9900_2.length) ([(Ac m11000_2.2.2 x13_2)].length) 80 (NX x10_2 x12_2 (i64.wrap (x13_2 + 1)) m7000_2 m11000_2 (m8900_2 ++ [x12_2]) (m9900_2 ++ [(Ac m11000_2.2.2 x13_2)]))))) (NX x10_2 x12_2 (i64.wrap (x13_2 + 1)) m7000_2 m11000_2 m8900_2 m9900_2)))) (EX0 (x10_2, x12_2, x13_2, m11000_2, m7000_2, m8900_2, m9900_2))
def Qg (k : Nat) (v : Ak) (w : Int) (p : (den Al)) : Nat → Int → Int → Int → (den Db) → (den So) → Bq → Aq → Option ((Int × Int × Int × (den So) × (den Db) × Bq × Aq))
 | 0, _, _, _, _, _, _, _ => none
 | n + 1, x10_2, x12_2, x13_2, m7000_2, m11000_2, m8900_2, m9900_2 => Oq (Qg k v w p n) (fun y2 => some y2) k v w p x10_2 x12_2 x13_2 m7000_2 m11000_2 m8900_2 m9900_2
theorem Xni {β : Type} (k : Nat) (v : Ak) (w : Int) (p : (den Al)) (KK : Ex → St → Option β) (n : Nat) : ∀ (x10_2 x12_2 x13_2 : Int) (m7000_2 : (den Db)) (m11000_2 : (den So)) (m8900_2 : Bq) (m9900_2 : Aq), Vm k v w p KK n x10_2 x12_2 x13_2 m7000_2 m11000_2 m8900_2 m9900_2 =
  (Qg k v w p n x10_2 x12_2 x13_2 m7000_2 m11000_2 m8900_2 m9900_2).bind fun y2 => KK (.exit 2) ⟨(.one (.s .ro sta v)) :: dz 5 ((.one (.ptr (.cell 6000) 3 0)) :: (.one (.ptr (.cell 7000) 3 0)) :: (.one (.a (.cell 8900) 0 0 none)) :: (.one (.a (.cell 9900) 0 0 none)) :: (.one (vI y2.1)) :: (.one (.ptr (.cell 11000) 3 0)) :: (.one (vI y2.2.1)) :: (.one (vI y2.2.2.1)) :: dz 48 ((.one (vI y2.2.2.1)) :: (.one (.ptr (.cell 11002) 1 0)) :: (.one (.a (.cell 11002) 0 0 none)) :: (.one (vI (y2.2.2.2.1.2.2.length : Int))) :: (.one (vB false)) :: dz 46 [])), Bg 6000 (Cl L3 ([], [], 0)) (Bg 7000 (Cl Xtf y2.2.2.2.2.1) (Bg 11000 (Cl X05 y2.2.2.2.1) [eM 53002 .d, eM 8900 (.s .own (.int .i64) y2.2.2.2.2.2.1), eM 9900 (.s .sown Al y2.2.2.2.2.2.2)]))⟩ := by
 induction n with
 | zero => intros; rfl
 | succ n ih =>
  intro x10_2 x12_2 x13_2 m7000_2 m11000_2 m8900_2 m9900_2
  refine Eq.trans (b := Oq (Vm k v w p KK n) (fun y2 => KK (.exit 2) ⟨(.one (.s .ro sta v)) :: dz 5 ((.one (.ptr (.cell 6000) 3 0)) :: (.one (.ptr (.cell 7000) 3 0)) :: (.one (.a (.cell 8900) 0 0 none)) :: (.one (.a (.cell 9900) 0 0 none)) :: (.one (vI y2.1)) :: (.one (.ptr (.cell 11000) 3 0)) :: (.one (vI y2.2.1)) :: (.one (vI y2.2.2.1)) :: dz 48 ((.one (vI y2.2.2.1)) :: (.one (.ptr (.cell 11002) 1 0)) :: (.one (.a (.cell 11002) 0 0 none)) :: (.one (vI (y2.2.2.2.1.2.2.length : Int))) :: (.one (vB false)) :: dz 46 [])), Bg 6000 (Cl L3 ([], [], 0)) (Bg 7000 (Cl Xtf y2.2.2.2.2.1) (Bg 11000 (Cl X05 y2.2.2.2.1) [eM 53002 .d, eM 8900 (.s .own (.int .i64) y2.2.2.2.2.2.1), eM 9900 (.s .sown Al y2.2.2.2.2.2.2)]))⟩) k v w p x10_2 x12_2 x13_2 m7000_2 m11000_2 m8900_2 m9900_2) (by kernel_rfl) ?_
  rw [Qg]
  simp only [Oq, z1, z2, z3, z4, z5, z6, z7, z8, A1, ih]
def Yfu (v : Ak) (w : Int) (p : (den Al)) (x10_0 : Int) (m7000_0 : (den Db)) (m8900_0 : Bq) (m9900_0 : Aq) : St := ⟨(.one (.s .ro sta v)) :: dz 5 ((.one (.ptr (.cell 6000) 3 0)) :: (.one (.ptr (.cell 7000) 3 0)) :: (.one (.a (.cell 8900) 0 0 none)) :: (.one (.a (.cell 9900) 0 0 none)) :: (.one (vI x10_0)) :: dz 102 []), Bg 6000 (Cl L3 ([], [], 0)) (Bg 7000 (Cl Xtf m7000_0) [eM 8900 (.s .own (.int .i64) m8900_0), eM 9900 (.s .sown Al m9900_0)])⟩
noncomputable def Tq {β : Type} (k : Nat) (v : Ak) (w : Int) (p : (den Al)) (K : KT β) (n : Nat) (x10_0 : Int) (m7000_0 : (den Db)) (m8900_0 : Bq) (m9900_0 : Aq) : Option β := A0 (Ji k) Tryz.f61 [1, 1, 1, 1, 1, 0, 1, 0] 0 (Ad (Ji k) [1, 1, 1, 1, 1, 0, 1, 0] (Ae Tryz.f61) 0 (Xxu k v w p K)) n (Yfu v w p x10_0 m7000_0 m8900_0 m9900_0)
def Ee (k : Nat) (v : Ak) (w : Int) (p : (den Al)) : Nat → Int → (den Db) → Bq → Aq → Option ((den Db))
 | 0, _, _, _, _ => none
 | n + 1, x10_0, m7000_0, m8900_0, m9900_0 => cond (decide (x10_0 < (m9900_0.length : Int))) (As x10_0 m8900_0 (As (Ac m8900_0 x10_0) v (As x10_0 m9900_0 ((Xhg k (Ac v (Ac m8900_0 x10_0)) (Ac m9900_0 x10_0)).bind fun b4 => (Xnx k v b4.2.1).bind fun b5 => (Qg k v w p k x10_0 b5 0 (m7000_0.1, m7000_0.2.1, i64.wrap (m7000_0.2.2 + 1)) b4 m8900_0 m9900_0).bind fun y2 => Ee k v w p n (i64.wrap (y2.1 + 1)) y2.2.2.2.2.1 y2.2.2.2.2.2.1 y2.2.2.2.2.2.2)))) (some m7000_0)
theorem Xdf {β : Type} (k n : Nat) (v : Ak) (w : Int) (p : (den Al)) (y2 : Int × Int × Int × (den So) × (den Db) × Bq × Aq) (K : KT β) :
  (Ad (Ji k) [1, 0, 0, 1, 1, 1, 1, 0] (Bf [1, 1, 1, 1, 1, 0, 1, 0, 0] (Ae Tryz.f61)) 0 (B3 (Ji k) Tryz.f61 [1, 1, 1, 1, 1, 0, 1, 0] 0 (Ad (Ji k) [1, 1, 1, 1, 1, 0, 1, 0] (Ae Tryz.f61) 0 (Xxu k v w p K)) n)) (.exit 2) ⟨(.one (.s .ro sta v)) :: dz 5 ((.one (.ptr (.cell 6000) 3 0)) :: (.one (.ptr (.cell 7000) 3 0)) :: (.one (.a (.cell 8900) 0 0 none)) :: (.one (.a (.cell 9900) 0 0 none)) :: (.one (vI y2.1)) :: (.one (.ptr (.cell 11000) 3 0)) :: (.one (vI y2.2.1)) :: (.one (vI y2.2.2.1)) :: dz 48 ((.one (vI y2.2.2.1)) :: (.one (.ptr (.cell 11002) 1 0)) :: (.one (.a (.cell 11002) 0 0 none)) :: (.one (vI (y2.2.2.2.1.2.2.length : Int))) :: (.one (vB false)) :: dz 46 [])), Bg 6000 (Cl L3 ([], [], 0)) (Bg 7000 (Cl Xtf y2.2.2.2.2.1) (Bg 11000 (Cl X05 y2.2.2.2.1) [eM 53002 .d, eM 8900 (.s .own (.int .i64) y2.2.2.2.2.2.1), eM 9900 (.s .sown Al y2.2.2.2.2.2.2)]))⟩ =
  Tq k v w p K n (i64.wrap (y2.1 + 1)) y2.2.2.2.2.1 y2.2.2.2.2.2.1 y2.2.2.2.2.2.2 := by kernel_rfl
theorem Xoc {β : Type} (k : Nat) (v : Ak) (w : Int) (p : (den Al)) (K : KT β) (n : Nat) : ∀ (x10_0 : Int) (m7000_0 : (den Db)) (m8900_0 : Bq) (m9900_0 : Aq), Tq k v w p K n x10_0 m7000_0 m8900_0 m9900_0 =
  (Ee k v w p n x10_0 m7000_0 m8900_0 m9900_0).bind fun r => K (F61_O.put r) := by
 induction n with
 | zero => intros; rfl
 | succ n ih =>
  intro x10_0 m7000_0 m8900_0 m9900_0
  refine Eq.trans (b := cond (decide (x10_0 < (m9900_0.length : Int))) (As x10_0 m8900_0 (As (Ac m8900_0 x10_0) v (As x10_0 m9900_0 ((Xhg k (Ac v (Ac m8900_0 x10_0)) (Ac m9900_0 x10_0)).bind fun b4 => (Xnx k v b4.2.1).bind fun b5 => Vm k v w p (Ad (Ji k) [1, 0, 0, 1, 1, 1, 1, 0] (Bf [1, 1, 1, 1, 1, 0, 1, 0, 0] (Ae Tryz.f61)) 0 (B3 (Ji k) Tryz.f61 [1, 1, 1, 1, 1, 0, 1, 0] 0 (Ad (Ji k) [1, 1, 1, 1, 1, 0, 1, 0] (Ae Tryz.f61) 0 (Xxu k v w p K)) n)) k x10_0 b5 0 (m7000_0.1, m7000_0.2.1, i64.wrap (m7000_0.2.2 + 1)) b4 m8900_0 m9900_0)))) (K (F61_O.put m7000_0))) (by kernel_rfl) ?_
  rw [Ee]
  simp only [z1, z2, z3, z4, z5, z6, z7, z8, A1, Xni, Xdf k n v w p _ K, ih, As, Bt]
def Xd7 {β : Type} (LP0 : Int → (den Db) → Bq → Aq → Option β) (RET : (den Db) → Option β) (k : Nat) (v : Ak) (w : Int) (p : (den Al)) : Option β := A1 p fun p0 p1 p2 p3 p4 p5 p6 p7 p8 => (F59 k v).bind fun b1 => cond (!b1) (RET ([], [], 0)) ((G8 k p).bind fun b2 => cond (!b2) (RET ([], [], 0)) ((Hj k w 0 (i64.wrap ((v.length : Int) - 1))).bind fun b3 => cond (!b3) (RET ([], [], 0)) (LP0 0 ([], [], 0) [w] [(p0, p1, p2, p3, p4, p5, p6, p7, p8)])))
def F61 (k : Nat) (v : Ak) (w : Int) (p : (den Al)) : Option ((den Db)) := Xd7 (Ee k v w p k) some k v w p
theorem X9t {β : Type} (k : Nat) (v : Ak) (w : Int) (p : (den Al)) (K : KT β) : Ag (Ji k) Tryz.f61 (PsT.put Xpy (v, w, p, ())) K = (F61 k v w p).bind fun r => K (F61_O.put r) :=
 Eq.trans (b := Xd7 (Tq k v w p K k) (fun r => K (F61_O.put r)) k v w p) (by kernel_rfl) (by simp only [F61, Xd7, z1, z2, z3, z4, z5, z6, z7, z8, A1, Xoc])
def X4f (k : Nat) : FD := ⟨61, Xpy, F61_O, F61 k⟩
theorem Yjs (k : Nat) : (X4f k).Ok Tryz.prog := ⟨fun x => Aa (Ai (Af (.c (Xtj k) (.c (Hm k) (.c (Dq k) (.c (Yd5 k) (.c (Ygo k) .n)))))) _ _ _ _) Ah Tryz.func61 rfl rfl (X9t k _ _ _ some), .of (by kernel_rfl)⟩
abbrev Ycc (k : Nat) : Env := A6 Bn Ap .own [] k
abbrev Xwf : List PA := [.agg (.pair mI Da), .agg (.pair mI Da)]
abbrev F134_O : RO := ⟨[.v], [mB]⟩
def Zh {β : Type} (RET : Bool → Option β) (k : Nat) (v w : (den Al)) : Option β := cond (v.1 == w.1) (cond (v.2.1 == w.2.1) (cond (v.2.2.1 == w.2.2.1) (RET (v.2.2.2.2.1 == w.2.2.2.2.1)) (RET false)) (RET false)) (RET false)
def Xbe := Zh (β := Bool) some
theorem Xz4 {β : Type} (k : Nat) (v w : (den Al)) (K : KT β) : Ag (Ycc k) Tryz.f134 (PsT.put Xwf (v, w, ())) K = (Xbe k v w).bind fun r => K (F134_O.put r) :=
 Eq.trans (b := Zh (fun r => K (F134_O.put r)) k v w) (by kernel_rfl) (by simp only [Xbe, Zh, z1, z2, z3, z4, z5, z6, z7, z8, A1])
def Th (k : Nat) : FD := ⟨134, Xwf, F134_O, Xbe k⟩
theorem Yx (k : Nat) : (Th k).Ok Tryz.prog := ⟨fun x => Aa (Ai .none _ _ _ _) Ah Tryz.func134 rfl rfl (Xz4 k _ _ some), .of (by kernel_rfl)⟩
def Yf5 : Nat → Hint
 | 0 => ⟨pl 1 1 (pl 3 2 []), pl 1000 2 []⟩
 | _ => ⟨[], []⟩
abbrev Xi (k : Nat) : Env := A6 (Aw [Gd k, Th k, Dm k]) Yf5 .own [] k
abbrev Xiv : List PA := [.agg (.pair (.sl .ro Al) mI)]
abbrev F206_O : RO := ⟨[.v], [mB]⟩
noncomputable def Ydl {β : Type} (k : Nat) (v : (den A4)) (K : KT β) : Ex → St → Option β := Be (Xi k) Tryz.f206 (PsT.put Xiv (v, ())) K
def X1j (v : (den A4)) (x3_0 x4_0 : Int) : St := ⟨(.one .d) :: (.one (.ptr (.cell 1000) 2 0)) :: (.one .d) :: (.one (vI x3_0)) :: (.one (vI x4_0)) :: dz 78 [], Bg 1000 (Cl (.pair (.sl .ro Al) mI) v) []⟩
noncomputable def Qs {β : Type} (k : Nat) (v : (den A4)) (K : KT β) (n : Nat) (x3_0 x4_0 : Int) : Option β := A0 (Xi k) Tryz.f206 [1, 1, 0, 1, 0] 0 (Ad (Xi k) [1, 1, 0, 1, 0] (Ae Tryz.f206) 0 (Ydl k v K)) n (X1j v x3_0 x4_0)
def Gu {β : Type} (NX : Int → Int → Option β) (RET : Bool → Option β) (k : Nat) (v : (den A4)) (x3_0 x4_0 : Int) : Option β := Bo v fun v0 v1 => cond (decide (x4_0 < (v0.length : Int))) (As x4_0 v0 ((G8 k (Ac v0 x4_0)).bind fun b1 => cond (!b1) (RET false) (cond (decide (0 < (v0.length : Int))) ((Xbe k (Ac v0 x4_0) (Ac v0 0)).bind fun b2 => cond (!b2) (RET false) (cond (decide (x4_0 > 0)) (As (i64.wrap (x4_0 - 1)) v0 (As (i64.wrap (x4_0 - 1)) v0 (cond (decide ((Ac v0 x4_0).2.2.2.2.2.1 < (i64.wrap ((Ac v0 (i64.wrap (x4_0 - 1))).2.2.2.2.2.1 + ((Ac v0 (i64.wrap (x4_0 - 1))).2.2.2.2.2.2.2.2.length : Int))))) (RET false) (As (i64.wrap (x4_0 - 1)) v0 (cond (!(Ac v0 (i64.wrap (x4_0 - 1))).2.2.2.2.2.2.1) (RET false) (NX (i64.wrap (x3_0 + ((Ac v0 x4_0).2.2.2.2.2.2.2.2.length : Int))) (i64.wrap (x4_0 + 1)))))))) (NX (i64.wrap (x3_0 + ((Ac v0 x4_0).2.2.2.2.2.2.2.2.length : Int))) (i64.wrap (x4_0 + 1))))) none))) (cond (decide ((v0.length : Int) > 0)) (cond (decide (x3_0 ≤ 48)) ((Hj k v1 0 1000000).bind fun b3 => RET b3) (RET false)) (RET false))
def Es (k : Nat) (v : (den A4)) : Nat → Int → Int → Option (Bool)
 | 0, _, _ => none
 | n + 1, x3_0, x4_0 => Gu (Es k v n) some k v x3_0 x4_0
theorem Xfz {β : Type} (k : Nat) (v : (den A4)) (K : KT β) (n : Nat) : ∀ (x3_0 x4_0 : Int), Qs k v K n x3_0 x4_0 =
  (Es k v n x3_0 x4_0).bind fun r => K (F206_O.put r) := by
 induction n with
 | zero => intros; rfl
 | succ n ih =>
  intro x3_0 x4_0
  refine Eq.trans (b := Gu (Qs k v K n) (fun r => K (F206_O.put r)) k v x3_0 x4_0) (by kernel_rfl) ?_
  rw [Es]
  simp only [Gu, z1, z2, z3, z4, z5, z6, z7, z8, Bo, ih]
def Xgg {β : Type} (LP0 : Int → Int → Option β) (k : Nat) (v : (den A4)) : Option β := LP0 0 0
def Ti (k : Nat) (v : (den A4)) : Option (Bool) := Xgg (Es k v k) k v
theorem X2l {β : Type} (k : Nat) (v : (den A4)) (K : KT β) : Ag (Xi k) Tryz.f206 (PsT.put Xiv (v, ())) K = (Ti k v).bind fun r => K (F206_O.put r) :=
 Eq.trans (b := Xgg (Qs k v K k) k v) (by kernel_rfl) (by simp only [Ti, Xgg, z1, z2, z3, z4, z5, z6, z7, z8, Bo, Xfz])
def Z7 (k : Nat) : FD := ⟨206, Xiv, F206_O, Ti k⟩
theorem Xe1 (k : Nat) : (Z7 k).Ok Tryz.prog := ⟨fun x => Aa (Ai (Af (.c (Hm k) (.c (Yx k) (.c (Dq k) .n)))) _ _ _ _) Ah Tryz.func206 rfl rfl (X2l k _ some), .of (by kernel_rfl)⟩
def Yab : Nat → Hint
 | 0 => ⟨pl 0 1 (pl 3 1 []), []⟩
 | 2 => ⟨pl 0 1 (pl 3 2 []), []⟩
 | _ => ⟨[], []⟩
abbrev Dh (k : Nat) : Env := A6 (Aw [Z7 k, Th k]) Yab .own [] k
abbrev Xh0 : List PA := [.one (.sl .ro A4)]
abbrev F133_O : RO := ⟨[.v], [mB]⟩
noncomputable def Xf {β : Type} (k : Nat) (v : An) (K : KT β) : Ex → St → Option β := Be (Dh k) Tryz.f133 (PsT.put Xh0 (v, ())) K
def X22 (v : An) (x3_2 x4_2 : Int) : St := ⟨(.one (.s .ro A4 v)) :: (.one .d) :: (.one .d) :: (.one (vI x3_2)) :: (.one (vI x4_2)) :: dz 35 [], []⟩
noncomputable def P1 {β : Type} (k : Nat) (v : An) (KK : Ex → St → Option β) (n : Nat) (x3_2 x4_2 : Int) : Option β := A0 (Dh k) Tryz.f133 [1, 0, 1, 0, 0, 1, 0, 0, 1, 1, 0] 2 KK n (X22 v x3_2 x4_2)
def Kt {β : Type} (NX : Int → Int → Option β) (EX0 : (Int × Int) → Option β) (EX1 : (Int × Int) → Option β) (k : Nat) (v : An) (x3_2 x4_2 : Int) : Option β := cond (decide (x4_2 < x3_2)) (As x4_2 v (cond (decide (0 < ((Ac v x4_2).1.length : Int))) (As x3_2 v (cond (decide (0 < ((Ac v x3_2).1.length : Int))) ((Xbe k (Ac (Ac v x4_2).1 0) (Ac (Ac v x3_2).1 0)).bind fun b2 => cond b2 (EX0 (x3_2, x4_2)) (NX x3_2 (i64.wrap (x4_2 + 1)))) none)) none)) (EX1 (x3_2, x4_2))
def Lx (k : Nat) (v : An) : Nat → Int → Int → Option ((Sum (Int × Int) (Int × Int)))
 | 0, _, _ => none
 | n + 1, x3_2, x4_2 => Kt (Lx k v n) (fun y2 => some (.inl y2)) (fun y2 => some (.inr y2)) k v x3_2 x4_2
theorem Xgx {β : Type} (k : Nat) (v : An) (KK : Ex → St → Option β) (n : Nat) : ∀ (x3_2 x4_2 : Int), P1 k v KK n x3_2 x4_2 =
  (Lx k v n x3_2 x4_2).bind fun z => Ix (fun y2 => KK .ret ⟨(.one (.s .ro A4 v)) :: (.one .d) :: (.one (vB false)) :: (.one (vI y2.1)) :: (.one (vI y2.2)) :: dz 12 ((.one (vI y2.2)) :: (.one (vI y2.1)) :: (.one (vB true)) :: (.one .d) :: (.one .d) :: (.one (.s .ro A4 v)) :: (.one (vI y2.2)) :: (.one (.ptr (.elem 24000 y2.2.toNat 0) 2 0)) :: (.one (.ptr (.elem 24000 y2.2.toNat 0) 2 0)) :: (.one (.s .ro Al (Ac v y2.2).1)) :: (.one (.ptr (.elem 27000 0 0) 9 0)) :: (.agg (Cl (.pair mI Da) (Ac (Ac v y2.2).1 0))) :: (.one (.s .ro A4 v)) :: (.one (vI y2.1)) :: (.one (.ptr (.elem 31000 y2.1.toNat 0) 2 0)) :: (.one (.ptr (.elem 31000 y2.1.toNat 0) 2 0)) :: (.one (.s .ro Al (Ac v y2.1).1)) :: (.one (.ptr (.elem 34000 0 0) 9 0)) :: (.agg (Cl (.pair mI Da) (Ac (Ac v y2.1).1 0))) :: (.one (vB true)) :: dz 3 []), [eM 24000 (.s .ro A4 v), eM 27000 (.s .ro Al (Ac v y2.2).1), eM 31000 (.s .ro A4 v), eM 34000 (.s .ro Al (Ac v y2.1).1)]⟩) (fun y2 => KK (.exit 2) ⟨(.one (.s .ro A4 v)) :: (.one .d) :: (.one .d) :: (.one (vI y2.1)) :: (.one (vI y2.2)) :: dz 12 ((.one (vI y2.2)) :: (.one (vI y2.1)) :: (.one (vB false)) :: dz 20 []), []⟩) z := by
 induction n with
 | zero => intros; rfl
 | succ n ih =>
  intro x3_2 x4_2
  refine Eq.trans (b := Kt (P1 k v KK n) (fun y2 => KK .ret ⟨(.one (.s .ro A4 v)) :: (.one .d) :: (.one (vB false)) :: (.one (vI y2.1)) :: (.one (vI y2.2)) :: dz 12 ((.one (vI y2.2)) :: (.one (vI y2.1)) :: (.one (vB true)) :: (.one .d) :: (.one .d) :: (.one (.s .ro A4 v)) :: (.one (vI y2.2)) :: (.one (.ptr (.elem 24000 y2.2.toNat 0) 2 0)) :: (.one (.ptr (.elem 24000 y2.2.toNat 0) 2 0)) :: (.one (.s .ro Al (Ac v y2.2).1)) :: (.one (.ptr (.elem 27000 0 0) 9 0)) :: (.agg (Cl (.pair mI Da) (Ac (Ac v y2.2).1 0))) :: (.one (.s .ro A4 v)) :: (.one (vI y2.1)) :: (.one (.ptr (.elem 31000 y2.1.toNat 0) 2 0)) :: (.one (.ptr (.elem 31000 y2.1.toNat 0) 2 0)) :: (.one (.s .ro Al (Ac v y2.1).1)) :: (.one (.ptr (.elem 34000 0 0) 9 0)) :: (.agg (Cl (.pair mI Da) (Ac (Ac v y2.1).1 0))) :: (.one (vB true)) :: dz 3 []), [eM 24000 (.s .ro A4 v), eM 27000 (.s .ro Al (Ac v y2.2).1), eM 31000 (.s .ro A4 v), eM 34000 (.s .ro Al (Ac v y2.1).1)]⟩) (fun y2 => KK (.exit 2) ⟨(.one (.s .ro A4 v)) :: (.one .d) :: (.one .d) :: (.one (vI y2.1)) :: (.one (vI y2.2)) :: dz 12 ((.one (vI y2.2)) :: (.one (vI y2.1)) :: (.one (vB false)) :: dz 20 []), []⟩) k v x3_2 x4_2) (by kernel_rfl) ?_
  rw [Lx]
  simp only [Kt, z1, z2, z3, z4, z5, z6, z7, z8, ih]
def X0u (v : An) (x3_0 : Int) : St := ⟨(.one (.s .ro A4 v)) :: (.one .d) :: (.one .d) :: (.one (vI x3_0)) :: dz 36 [], []⟩
noncomputable def Q3 {β : Type} (k : Nat) (v : An) (K : KT β) (n : Nat) (x3_0 : Int) : Option β := A0 (Dh k) Tryz.f133 [1, 0, 1, 0] 0 (Ad (Dh k) [1, 0, 1, 0] (Ae Tryz.f133) 0 (Xf k v K)) n (X0u v x3_0)
def F8 (k : Nat) (v : An) : Nat → Int → Option (Bool)
 | 0, _ => none
 | n + 1, x3_0 => cond (decide (x3_0 < (v.length : Int))) (As x3_0 v ((Ti k (Ac v x3_0)).bind fun b1 => cond (!b1) (some false) ((Lx k v k x3_0 0).bind fun z2 => Ix (fun y2 => some false) (fun y2 => F8 k v n (i64.wrap (y2.1 + 1))) z2))) (some (decide ((v.length : Int) ≤ 3)))
theorem Xx {β : Type} (k n : Nat) (v : An) (y2 : Int × Int) (K : KT β) :
  (Ad (Dh k) [1, 0, 0, 1, 1, 0] (Bf [1, 0, 1, 0, 0] (Ae Tryz.f133)) 0 (B3 (Dh k) Tryz.f133 [1, 0, 1, 0] 0 (Ad (Dh k) [1, 0, 1, 0] (Ae Tryz.f133) 0 (Xf k v K)) n)) .ret ⟨(.one (.s .ro A4 v)) :: (.one .d) :: (.one (vB false)) :: (.one (vI y2.1)) :: (.one (vI y2.2)) :: dz 12 ((.one (vI y2.2)) :: (.one (vI y2.1)) :: (.one (vB true)) :: (.one .d) :: (.one .d) :: (.one (.s .ro A4 v)) :: (.one (vI y2.2)) :: (.one (.ptr (.elem 24000 y2.2.toNat 0) 2 0)) :: (.one (.ptr (.elem 24000 y2.2.toNat 0) 2 0)) :: (.one (.s .ro Al (Ac v y2.2).1)) :: (.one (.ptr (.elem 27000 0 0) 9 0)) :: (.agg (Cl (.pair mI Da) (Ac (Ac v y2.2).1 0))) :: (.one (.s .ro A4 v)) :: (.one (vI y2.1)) :: (.one (.ptr (.elem 31000 y2.1.toNat 0) 2 0)) :: (.one (.ptr (.elem 31000 y2.1.toNat 0) 2 0)) :: (.one (.s .ro Al (Ac v y2.1).1)) :: (.one (.ptr (.elem 34000 0 0) 9 0)) :: (.agg (Cl (.pair mI Da) (Ac (Ac v y2.1).1 0))) :: (.one (vB true)) :: dz 3 []), [eM 24000 (.s .ro A4 v), eM 27000 (.s .ro Al (Ac v y2.2).1), eM 31000 (.s .ro A4 v), eM 34000 (.s .ro Al (Ac v y2.1).1)]⟩ =
  K (F133_O.put false) := by kernel_rfl
theorem X5 {β : Type} (k n : Nat) (v : An) (y2 : Int × Int) (K : KT β) :
  (Ad (Dh k) [1, 0, 0, 1, 1, 0] (Bf [1, 0, 1, 0, 0] (Ae Tryz.f133)) 0 (B3 (Dh k) Tryz.f133 [1, 0, 1, 0] 0 (Ad (Dh k) [1, 0, 1, 0] (Ae Tryz.f133) 0 (Xf k v K)) n)) (.exit 2) ⟨(.one (.s .ro A4 v)) :: (.one .d) :: (.one .d) :: (.one (vI y2.1)) :: (.one (vI y2.2)) :: dz 12 ((.one (vI y2.2)) :: (.one (vI y2.1)) :: (.one (vB false)) :: dz 20 []), []⟩ =
  Q3 k v K n (i64.wrap (y2.1 + 1)) := by kernel_rfl
theorem Xfa {β : Type} (k : Nat) (v : An) (K : KT β) (n : Nat) : ∀ (x3_0 : Int), Q3 k v K n x3_0 =
  (F8 k v n x3_0).bind fun r => K (F133_O.put r) := by
 induction n with
 | zero => intros; rfl
 | succ n ih =>
  intro x3_0
  refine Eq.trans (b := cond (decide (x3_0 < (v.length : Int))) (As x3_0 v ((Ti k (Ac v x3_0)).bind fun b1 => cond (!b1) (K (F133_O.put false)) (P1 k v (Ad (Dh k) [1, 0, 0, 1, 1, 0] (Bf [1, 0, 1, 0, 0] (Ae Tryz.f133)) 0 (B3 (Dh k) Tryz.f133 [1, 0, 1, 0] 0 (Ad (Dh k) [1, 0, 1, 0] (Ae Tryz.f133) 0 (Xf k v K)) n)) k x3_0 0))) (K (F133_O.put (decide ((v.length : Int) ≤ 3))))) (by kernel_rfl) ?_
  rw [F8]
  simp only [z1, z2, z3, z4, z5, z6, z7, z8, Xgx, Xx k n v _ K, X5 k n v _ K, ih, As, Bt]
def Uw {β : Type} (LP0 : Int → Option β) (k : Nat) (v : An) : Option β := LP0 0
def Xb0 (k : Nat) (v : An) : Option (Bool) := Uw (F8 k v k) k v
theorem X19 {β : Type} (k : Nat) (v : An) (K : KT β) : Ag (Dh k) Tryz.f133 (PsT.put Xh0 (v, ())) K = (Xb0 k v).bind fun r => K (F133_O.put r) :=
 Eq.trans (b := Uw (Q3 k v K k) k v) (by kernel_rfl) (by simp only [Xb0, Uw, z1, z2, z3, z4, z5, z6, z7, z8, Xfa])
def Xxe (k : Nat) : FD := ⟨133, Xh0, F133_O, Xb0 k⟩
theorem X9z (k : Nat) : (Xxe k).Ok Tryz.prog := ⟨fun x => Aa (Ai (Af (.c (Xe1 k) (.c (Yx k) .n))) _ _ _ _) Ah Tryz.func133 rfl rfl (X19 k _ some), .of (by kernel_rfl)⟩
def Ygf : Nat → Hint
 | 0 => ⟨pl 2 3 (pl 6 3 []), pl 2000 2 (pl 3000 9 (pl 4000 2 (pl 6000 2 [])))⟩
 | 2 => ⟨pl 2 3 (pl 6 2 (pl 10 1 [])), pl 2000 2 (pl 3000 9 (pl 4000 2 ((6000, .own .own Al []) :: (pl 6001 1 []))))⟩
 | _ => ⟨[], []⟩
abbrev Qt (k : Nat) : Env := A6 (Aw [Z7 k, Gd k, Th k, Vr k]) Ygf .own [] k
abbrev Xg8 : List PA := [.agg (.pair (.sl .ro Al) mI), .agg (.pair mI Da)]
abbrev F135_O : RO := ⟨[.a, .v], [.pair (.sl .own Al) mI, mB]⟩
noncomputable def Xvb {β : Type} (k : Nat) (v : (den A4)) (w : (den Al)) (K : KT β) : Ex → St → Option β := Be (Qt k) Tryz.f135 (PsT.put Xg8 (v, w, ())) K
def X0o (v : (den A4)) (w : (den Al)) (x7_2 : Bool) (x10_2 : Int) (m6000_2 : (den A4)) : St := ⟨(.one .d) :: (.one .d) :: (.one (.ptr (.cell 2000) 2 0)) :: (.one (.ptr (.cell 3000) 9 0)) :: (.one (.ptr (.cell 4000) 2 0)) :: (.one .d) :: (.one (.ptr (.cell 6000) 2 0)) :: (.one (vB x7_2)) :: (.one .d) :: (.one .d) :: (.one (vI x10_2)) :: dz 106 [], Bg 2000 (Cl (.pair (.sl .ro Al) mI) v) (Bg 3000 (Cl (.pair mI Da) w) (Bg 4000 (Cl (.pair (.sl .own Al) mI) ([], 0)) (Bg 6000 (Cl (.pair (.sl .own Al) mI) m6000_2) [])))⟩
noncomputable def Pi {β : Type} (k : Nat) (v : (den A4)) (w : (den Al)) (K : KT β) (n : Nat) (x7_2 : Bool) (x10_2 : Int) (m6000_2 : (den A4)) : Option β := A0 (Qt k) Tryz.f135 [1, 1, 1, 1, 1, 0, 1, 0] 2 (Ad (Qt k) [1, 1, 1, 1, 1, 0, 1, 0] (Ae Tryz.f135) 0 (Xvb k v w K)) n (X0o v w x7_2 x10_2 m6000_2)
def H4 {β : Type} (k : Nat) (v : (den A4)) (w : (den Al)) (NX : Bool → Int → (den A4) → Option β) (RET : (den A4) × Bool → Option β) (x10_2 : Int) (m6000_2 : (den A4)) (x7_2 : Bool) : Option β := As x10_2 v.1 ((Nq k (Ac v.1 x10_2)).bind fun b6 => Bt (m6000_2.1.length) ([b6].length) 80 (NX x7_2 (i64.wrap (x10_2 + 1)) (m6000_2.1 ++ [b6], m6000_2.2)))
def Kn {β : Type} (NX : Bool → Int → (den A4) → Option β) (RET : (den A4) × Bool → Option β) (k : Nat) (v : (den A4)) (w : (den Al)) (x7_2 : Bool) (x10_2 : Int) (m6000_2 : (den A4)) : Option β := Bo v fun v0 _ => cond (decide (x10_2 < (v0.length : Int))) (cond (!x7_2) (As x10_2 v0 (cond (decide (w.2.2.2.2.2.1 < (Ac v0 x10_2).2.2.2.2.2.1)) ((Nq k w).bind fun b4 => Bt (m6000_2.1.length) ([b4].length) 80 (As x10_2 v0 ((Nq k (Ac v0 x10_2)).bind fun b5 => Bt ((m6000_2.1 ++ [b4]).length) ([b5].length) 80 (NX true (i64.wrap (x10_2 + 1)) ((m6000_2.1 ++ [b4]) ++ [b5], m6000_2.2))))) (H4 k v w NX RET x10_2 m6000_2 x7_2))) (H4 k v w NX RET x10_2 m6000_2 x7_2)) (cond (!x7_2) ((Nq k w).bind fun b8 => Bt (m6000_2.1.length) ([b8].length) 80 ((Ti k (m6000_2.1 ++ [b8], m6000_2.2)).bind fun b9 => cond (!b9) (RET (([], 0), false)) (RET ((m6000_2.1 ++ [b8], m6000_2.2), true)))) ((Ti k m6000_2).bind fun b10 => cond (!b10) (RET (([], 0), false)) (RET (m6000_2, true))))
def Hl (k : Nat) (v : (den A4)) (w : (den Al)) : Nat → Bool → Int → (den A4) → Option ((den A4) × Bool)
 | 0, _, _, _ => none
 | n + 1, x7_2, x10_2, m6000_2 => Kn (Hl k v w n) some k v w x7_2 x10_2 m6000_2
theorem Xft {β : Type} (k : Nat) (v : (den A4)) (w : (den Al)) (K : KT β) (n : Nat) : ∀ (x7_2 : Bool) (x10_2 : Int) (m6000_2 : (den A4)), Pi k v w K n x7_2 x10_2 m6000_2 =
  (Hl k v w n x7_2 x10_2 m6000_2).bind fun r => K (F135_O.put r) := by
 induction n with
 | zero => intros; rfl
 | succ n ih =>
  intro x7_2 x10_2 m6000_2
  refine Eq.trans (b := Kn (Pi k v w K n) (fun r => K (F135_O.put r)) k v w x7_2 x10_2 m6000_2) (by kernel_rfl) ?_
  rw [Hl]
  simp only [Kn, H4, z1, z2, z3, z4, z5, z6, z7, z8, A1, Bo, ih]
def X3e (v : (den A4)) (w : (den Al)) (x7_0 : Bool) (x8_0 : Int) : St := ⟨(.one .d) :: (.one .d) :: (.one (.ptr (.cell 2000) 2 0)) :: (.one (.ptr (.cell 3000) 9 0)) :: (.one (.ptr (.cell 4000) 2 0)) :: (.one .d) :: (.one (.ptr (.cell 6000) 2 0)) :: (.one (vB x7_0)) :: (.one (vI x8_0)) :: dz 108 [], Bg 2000 (Cl (.pair (.sl .ro Al) mI) v) (Bg 3000 (Cl (.pair mI Da) w) (Bg 4000 (Cl (.pair (.sl .own Al) mI) ([], 0)) (Bg 6000 (Cl (.pair (.sl .own Al) mI) ([], v.2)) [])))⟩
noncomputable def Pd {β : Type} (k : Nat) (v : (den A4)) (w : (den Al)) (K : KT β) (n : Nat) (x7_0 : Bool) (x8_0 : Int) : Option β := A0 (Qt k) Tryz.f135 [1, 1, 1, 1, 0, 1, 0] 0 (Ad (Qt k) [1, 1, 1, 1, 0, 1, 0] (Ae Tryz.f135) 0 (Xvb k v w K)) n (X3e v w x7_0 x8_0)
def Kk {β : Type} (NX : Bool → Int → Option β) (LP2 : Bool → Int → (den A4) → Option β) (k : Nat) (v : (den A4)) (w : (den Al)) (x7_0 : Bool) (x8_0 : Int) : Option β := Bo v fun v0 v1 => cond (decide (x8_0 < (v0.length : Int))) (As x8_0 v0 (cond ((Ac v0 x8_0).2.2.2.2.2.1 == w.2.2.2.2.2.1) (cond ((Ac v0 x8_0).2.2.2.2.2.2.1 == w.2.2.2.2.2.2.1) (cond ((Wa (Ac v0 x8_0).2.2.2.2.2.2.2.2).toList == (Wa w.2.2.2.2.2.2.2.2).toList) (NX true (i64.wrap (x8_0 + 1))) (NX x7_0 (i64.wrap (x8_0 + 1)))) (NX x7_0 (i64.wrap (x8_0 + 1)))) (NX x7_0 (i64.wrap (x8_0 + 1))))) (LP2 x7_0 0 ([], v1))
def Lf (k : Nat) (v : (den A4)) (w : (den Al)) : Nat → Bool → Int → Option ((den A4) × Bool)
 | 0, _, _ => none
 | n + 1, x7_0, x8_0 => Kk (Lf k v w n) (Hl k v w k) k v w x7_0 x8_0
theorem Xh1 {β : Type} (k : Nat) (v : (den A4)) (w : (den Al)) (K : KT β) (n : Nat) : ∀ (x7_0 : Bool) (x8_0 : Int), Pd k v w K n x7_0 x8_0 =
  (Lf k v w n x7_0 x8_0).bind fun r => K (F135_O.put r) := by
 induction n with
 | zero => intros; rfl
 | succ n ih =>
  intro x7_0 x8_0
  refine Eq.trans (b := Kk (Pd k v w K n) (Pi k v w K k) k v w x7_0 x8_0) (by kernel_rfl) ?_
  rw [Lf]
  simp only [Kk, z1, z2, z3, z4, z5, z6, z7, z8, A1, Bo, Xft, ih]
def X3 {β : Type} (LP0 : Bool → Int → Option β) (RET : (den A4) × Bool → Option β) (k : Nat) (v : (den A4)) (w : (den Al)) : Option β := (Ti k v).bind fun b1 => cond (!b1) (RET (([], 0), false)) ((G8 k w).bind fun b2 => cond (!b2) (RET (([], 0), false)) (cond (decide (0 < (v.1.length : Int))) ((Xbe k (Ac v.1 0) w).bind fun b3 => cond (!b3) (RET (([], 0), false)) (LP0 false 0)) none))
def Xob (k : Nat) (v : (den A4)) (w : (den Al)) : Option ((den A4) × Bool) := X3 (Lf k v w k) some k v w
theorem Xy8 {β : Type} (k : Nat) (v : (den A4)) (w : (den Al)) (K : KT β) : Ag (Qt k) Tryz.f135 (PsT.put Xg8 (v, w, ())) K = (Xob k v w).bind fun r => K (F135_O.put r) :=
 Eq.trans (b := X3 (Pd k v w K k) (fun r => K (F135_O.put r)) k v w) (by kernel_rfl) (by simp only [Xob, X3, z1, z2, z3, z4, z5, z6, z7, z8, A1, Bo, Xh1])
def Xtz (k : Nat) : FD := ⟨135, Xg8, F135_O, Xob k⟩
theorem Ycy (k : Nat) : (Xtz k).Ok Tryz.prog := ⟨fun x => Aa (Ai (Af (.c (Xe1 k) (.c (Hm k) (.c (Yx k) (.c (Xas k) .n))))) _ _ _ _) Ah Tryz.func135 rfl rfl (Xy8 k _ _ some), .of (by kernel_rfl)⟩
end
end Go.Proofs.YtdmepjjepogddaaGreat.Gn
end

section
set_option linter.unusedVariables false
set_option linter.unusedSimpArgs false
namespace Go.Proofs.YtdmepjjepogddaaGreat.Gn
open Go.Rf IntKind
noncomputable section
def Ycd : Nat → Hint
 | 0 => ⟨pl 1 2 (pl 4 2 []), pl 1000 2 (pl 2000 9 (pl 4000 8 ((4008, .own .own (.int .u8) []) :: (pl 26000 1 []))))⟩
 | _ => ⟨[], []⟩
abbrev Xah (k : Nat) : Env := A6 (Aw [Z7 k]) Ycd .own [] k
abbrev Xek : List PA := [.agg (.pair (.sl .ro Al) mI)]
abbrev F136_O : RO := ⟨[.a, .v], [.pair mI m_9, mB]⟩
noncomputable def Ye4 {β : Type} (k : Nat) (v : (den A4)) (K : KT β) : Ex → St → Option β := Be (Xah k) Tryz.f136 (PsT.put Xek (v, ())) K
def Xzo (v : (den A4)) (x5_0 : Int) (m4000_0 : (den Al)) : St := ⟨(.one .d) :: (.one (.ptr (.cell 1000) 2 0)) :: (.one (.ptr (.cell 2000) 9 0)) :: (.one .d) :: (.one (.ptr (.cell 4000) 9 0)) :: (.one (vI x5_0)) :: dz 51 [], Bg 1000 (Cl (.pair (.sl .ro Al) mI) v) (Bg 2000 (Cl (.pair mI m_9) (0, 0, 0, 0, 0, 0, false, false, [])) (Bg 4000 (Cl (.pair mI m_9) m4000_0) [eM 26000 .d]))⟩
noncomputable def Pp {β : Type} (k : Nat) (v : (den A4)) (K : KT β) (n : Nat) (x5_0 : Int) (m4000_0 : (den Al)) : Option β := A0 (Xah k) Tryz.f136 [1, 1, 1, 1, 1, 0, 1, 0] 0 (Ad (Xah k) [1, 1, 1, 1, 1, 0, 1, 0] (Ae Tryz.f136) 0 (Ye4 k v K)) n (Xzo v x5_0 m4000_0)
def G6 {β : Type} (NX : Int → (den Al) → Option β) (RET : (den Al) × Bool → Option β) (k : Nat) (v : (den A4)) (x5_0 : Int) (m4000_0 : (den Al)) : Option β := Bo v fun v0 _ => cond (decide (x5_0 < (v0.length : Int))) (As x5_0 v0 (cond ((Ac v0 x5_0).2.2.2.2.2.1 != (m4000_0.2.2.2.2.2.2.2.2.length : Int)) (RET ((0, 0, 0, 0, 0, 0, false, false, []), false)) (As x5_0 v0 (Bt (m4000_0.2.2.2.2.2.2.2.2.length) ((Ac v0 x5_0).2.2.2.2.2.2.2.2.length) 1 (NX (i64.wrap (x5_0 + 1)) (m4000_0.1, m4000_0.2.1, m4000_0.2.2.1, m4000_0.2.2.2.1, m4000_0.2.2.2.2.1, m4000_0.2.2.2.2.2.1, m4000_0.2.2.2.2.2.2.1, m4000_0.2.2.2.2.2.2.2.1, m4000_0.2.2.2.2.2.2.2.2 ++ (Ac v0 x5_0).2.2.2.2.2.2.2.2)))))) (RET (m4000_0, true))
def Im (k : Nat) (v : (den A4)) : Nat → Int → (den Al) → Option ((den Al) × Bool)
 | 0, _, _ => none
 | n + 1, x5_0, m4000_0 => G6 (Im k v n) some k v x5_0 m4000_0
theorem Xh6 {β : Type} (k : Nat) (v : (den A4)) (K : KT β) (n : Nat) : ∀ (x5_0 : Int) (m4000_0 : (den Al)), Pp k v K n x5_0 m4000_0 =
  (Im k v n x5_0 m4000_0).bind fun r => K (F136_O.put r) := by
 induction n with
 | zero => intros; rfl
 | succ n ih =>
  intro x5_0 m4000_0
  refine Eq.trans (b := G6 (Pp k v K n) (fun r => K (F136_O.put r)) k v x5_0 m4000_0) (by kernel_rfl) ?_
  rw [Im]
  simp only [G6, z1, z2, z3, z4, z5, z6, z7, z8, Bo, ih]
def Xbg {β : Type} (LP0 : Int → (den Al) → Option β) (RET : (den Al) × Bool → Option β) (k : Nat) (v : (den A4)) : Option β := Bo v fun v0 _ => (Ti k v).bind fun b1 => cond (!b1) (RET ((0, 0, 0, 0, 0, 0, false, false, []), false)) (As (i64.wrap ((v0.length : Int) - 1)) v0 (cond (Ac v0 (i64.wrap ((v0.length : Int) - 1))).2.2.2.2.2.2.1 (RET ((0, 0, 0, 0, 0, 0, false, false, []), false)) (cond (decide (0 < (v0.length : Int))) (LP0 0 ((Ac v0 0).1, (Ac v0 0).2.1, (Ac v0 0).2.2.1, (Ac v0 0).2.2.2.1, (Ac v0 0).2.2.2.2.1, (Ac v0 0).2.2.2.2.2.1, false, (Ac v0 0).2.2.2.2.2.2.2.1, [])) none)))
def Xmg (k : Nat) (v : (den A4)) : Option ((den Al) × Bool) := Xbg (Im k v k) some k v
theorem X03 {β : Type} (k : Nat) (v : (den A4)) (K : KT β) : Ag (Xah k) Tryz.f136 (PsT.put Xek (v, ())) K = (Xmg k v).bind fun r => K (F136_O.put r) :=
 Eq.trans (b := Xbg (Pp k v K k) (fun r => K (F136_O.put r)) k v) (by kernel_rfl) (by simp only [Xmg, Xbg, z1, z2, z3, z4, z5, z6, z7, z8, Bo, Xh6])
def Xqd (k : Nat) : FD := ⟨136, Xek, F136_O, Xmg k⟩
theorem X9u (k : Nat) : (Xqd k).Ok Tryz.prog := ⟨fun x => Aa (Ai (Af (.c (Xe1 k) .n)) _ _ _ _) Ah Tryz.func136 rfl rfl (X03 k _ some), .of (by kernel_rfl)⟩
def X63 : Nat → Hint
 | 0 => ⟨pl 1 4 [], pl 1000 2 (pl 2000 2 ((3000, .own .own Al []) :: (pl 3001 1 [])))⟩
 | _ => ⟨[], []⟩
abbrev Zr (k : Nat) : Env := A6 (Aw [Vr k]) X63 .own [] k
abbrev Xe9 : List PA := [.agg (.pair (.sl .ro Al) mI)]
abbrev F137_O : RO := ⟨[.a], [.pair (.sl .own Al) mI]⟩
noncomputable def Ygh {β : Type} (k : Nat) (v : (den A4)) (K : KT β) : Ex → St → Option β := Be (Zr k) Tryz.f137 (PsT.put Xe9 (v, ())) K
def X1s (v : (den A4)) (x4_0 : Int) (m3000_0 : (den A4)) : St := ⟨(.one .d) :: (.one (.ptr (.cell 1000) 2 0)) :: (.one (.ptr (.cell 2000) 2 0)) :: (.one (.ptr (.cell 3000) 2 0)) :: (.one (vI x4_0)) :: dz 22 [], Bg 1000 (Cl (.pair (.sl .ro Al) mI) v) (Bg 2000 (Cl (.pair (.sl .own Al) mI) ([], 0)) (Bg 3000 (Cl (.pair (.sl .own Al) mI) m3000_0) []))⟩
noncomputable def Qa {β : Type} (k : Nat) (v : (den A4)) (K : KT β) (n : Nat) (x4_0 : Int) (m3000_0 : (den A4)) : Option β := A0 (Zr k) Tryz.f137 [1, 1, 0, 1, 0] 0 (Ad (Zr k) [1, 1, 0, 1, 0] (Ae Tryz.f137) 0 (Ygh k v K)) n (X1s v x4_0 m3000_0)
def Pf {β : Type} (NX : Int → (den A4) → Option β) (RET : (den A4) → Option β) (k : Nat) (v : (den A4)) (x4_0 : Int) (m3000_0 : (den A4)) : Option β := cond (decide (x4_0 < (v.1.length : Int))) (As x4_0 v.1 ((Nq k (Ac v.1 x4_0)).bind fun b1 => Bt (m3000_0.1.length) ([b1].length) 80 (NX (i64.wrap (x4_0 + 1)) (m3000_0.1 ++ [b1], m3000_0.2)))) (RET m3000_0)
def Sw (k : Nat) (v : (den A4)) : Nat → Int → (den A4) → Option ((den A4))
 | 0, _, _ => none
 | n + 1, x4_0, m3000_0 => Pf (Sw k v n) some k v x4_0 m3000_0
theorem Xga {β : Type} (k : Nat) (v : (den A4)) (K : KT β) (n : Nat) : ∀ (x4_0 : Int) (m3000_0 : (den A4)), Qa k v K n x4_0 m3000_0 =
  (Sw k v n x4_0 m3000_0).bind fun r => K (F137_O.put r) := by
 induction n with
 | zero => intros; rfl
 | succ n ih =>
  intro x4_0 m3000_0
  refine Eq.trans (b := Pf (Qa k v K n) (fun r => K (F137_O.put r)) k v x4_0 m3000_0) (by kernel_rfl) ?_
  rw [Sw]
  simp only [Pf, z1, z2, z3, z4, z5, z6, z7, z8, Bo, ih]
def Xfe {β : Type} (LP0 : Int → (den A4) → Option β) (k : Nat) (v : (den A4)) : Option β := LP0 0 ([], v.2)
def X3f (k : Nat) (v : (den A4)) : Option ((den A4)) := Xfe (Sw k v k) k v
theorem Xyo {β : Type} (k : Nat) (v : (den A4)) (K : KT β) : Ag (Zr k) Tryz.f137 (PsT.put Xe9 (v, ())) K = (X3f k v).bind fun r => K (F137_O.put r) :=
 Eq.trans (b := Xfe (Qa k v K k) k v) (by kernel_rfl) (by simp only [X3f, Xfe, z1, z2, z3, z4, z5, z6, z7, z8, Bo, Xga])
def Xsj (k : Nat) : FD := ⟨137, Xe9, F137_O, X3f k⟩
theorem X75 (k : Nat) : (Xsj k).Ok Tryz.prog := ⟨fun x => Aa (Ai (Af (.c (Xas k) .n)) _ _ _ _) Ah Tryz.func137 rfl rfl (Xyo k _ some), .of (by kernel_rfl)⟩
def Ykc : Nat → Hint
 | 0 => ⟨pl 0 1 (pl 2 1 (pl 4 1 (pl 7 1 ((9, .own .own A4 []) :: (pl 10 5 []))))), pl 4000 9 (pl 7000 9 (pl 12000 8 ((12008, .own .own (.int .u8) []) :: [])))⟩
 | _ => ⟨[], []⟩
abbrev Xjx (k : Nat) : Env := A6 (Aw [Xxe k, Gd k, Dm k, Th k, Xtz k, Xqd k, Xsj k, Vr k]) Ykc .own [] k
abbrev Xv9 : List PA := [.one (.sl .ro A4), .agg (.pair mI Da), .one mI]
abbrev F62_O : RO := ⟨[.v, .a, .v], [.sl .own A4, .pair mI m_9, mB]⟩
noncomputable def Yj7 {β : Type} (k : Nat) (v : An) (w : (den Al)) (p : Int) (K : KT β) : Ex → St → Option β := Be (Xjx k) Tryz.f62 (PsT.put Xv9 (v, w, p, ())) K
def X8i (v : An) (w : (den Al)) (p : Int) (x10_0 x11_0 x13_0 : Bool) (x14_0 : Int) (m12000_0 : (den Al)) (m9900_0 : An) : St := ⟨(.one (.s .ro A4 v)) :: (.one .d) :: (.one (vI p)) :: (.one .d) :: (.one (.ptr (.cell 4000) 9 0)) :: (.one .d) :: (.one .d) :: (.one (.ptr (.cell 7000) 9 0)) :: (.one .d) :: (.one (.a (.cell 9900) 0 0 none)) :: (.one (vB x10_0)) :: (.one (vB x11_0)) :: (.one (.ptr (.cell 12000) 9 0)) :: (.one (vB x13_0)) :: (.one (vI x14_0)) :: dz 100 [], Bg 4000 (Cl (.pair mI Da) w) (Bg 7000 (Cl (.pair mI m_9) (0, 0, 0, 0, 0, 0, false, false, [])) (Bg 12000 (Cl (.pair mI m_9) m12000_0) [eM 9900 (.s .own A4 m9900_0)]))⟩
noncomputable def Ut {β : Type} (k : Nat) (v : An) (w : (den Al)) (p : Int) (K : KT β) (n : Nat) (x10_0 x11_0 x13_0 : Bool) (x14_0 : Int) (m12000_0 : (den Al)) (m9900_0 : An) : Option β := A0 (Xjx k) Tryz.f62 [1, 1, 1, 1, 1, 1, 1, 0, 1, 0] 0 (Ad (Xjx k) [1, 1, 1, 1, 1, 1, 1, 0, 1, 0] (Ae Tryz.f62) 0 (Yj7 k v w p K)) n (X8i v w p x10_0 x11_0 x13_0 x14_0 m12000_0 m9900_0)
def Pr {β : Type} (k : Nat) (v : An) (w : (den Al)) (p : Int) (NX : Bool → Bool → Bool → Int → (den Al) → An → Option β) (RET : (An × (den Al) × Bool) → Option β) (x14_0 : Int) (m9900_0 : An) (x10_0 x11_0 x13_0 : Bool) (m12000_0 : (den Al)) : Option β := (X3f k (Ac v x14_0)).bind fun b7 => Bt (m9900_0.length) ([b7].length) 32 (NX x10_0 x11_0 x13_0 (i64.wrap (x14_0 + 1)) m12000_0 (m9900_0 ++ [b7]))
def D9 {β : Type} (NX : Bool → Bool → Bool → Int → (den Al) → An → Option β) (RET : (An × (den Al) × Bool) → Option β) (k : Nat) (v : An) (w : (den Al)) (p : Int) (x10_0 x11_0 x13_0 : Bool) (x14_0 : Int) (m12000_0 : (den Al)) (m9900_0 : An) : Option β := cond (decide (x14_0 < (v.length : Int))) (As x14_0 v (cond (decide ((Ac v x14_0).2 ≤ p)) (NX x10_0 x11_0 x13_0 (i64.wrap (x14_0 + 1)) m12000_0 m9900_0) (cond (!x10_0) (cond (decide (0 < ((Ac v x14_0).1.length : Int))) ((Xbe k (Ac (Ac v x14_0).1 0) w).bind fun b4 => cond b4 ((Xob k (Ac v x14_0) w).bind fun b5 => (Xmg k b5.1).bind fun b6 => cond b5.2 (cond (!b6.2) (Bt (m9900_0.length) ([b5.1].length) 32 (NX x10_0 true b6.2 (i64.wrap (x14_0 + 1)) b6.1 (m9900_0 ++ [b5.1]))) (NX x10_0 true b6.2 (i64.wrap (x14_0 + 1)) b6.1 m9900_0)) (NX x10_0 true b6.2 (i64.wrap (x14_0 + 1)) b6.1 m9900_0)) (Pr k v w p NX RET x14_0 m9900_0 x10_0 x11_0 x13_0 m12000_0)) none) (Pr k v w p NX RET x14_0 m9900_0 x10_0 x11_0 x13_0 m12000_0)))) (cond x10_0 ((Nq k w).bind fun b9 => RET (m9900_0, b9, true)) (cond (!x11_0) ((Nq k w).bind fun b10 => Bt (m9900_0.length) ([([b10], i64.wrap (p + 15))].length) 32 (cond (decide (((m9900_0 ++ [([b10], i64.wrap (p + 15))]).length : Int) > 3)) (cond (decide (0 ≤ 1) && decide (1 ≤ ((m9900_0 ++ [([b10], i64.wrap (p + 15))]).length : Int))) (RET (((m9900_0 ++ [([b10], i64.wrap (p + 15))]).take ((((m9900_0 ++ [([b10], i64.wrap (p + 15))]).length : Int)).toNat)).drop 1, m12000_0, x13_0)) none) (RET (m9900_0 ++ [([b10], i64.wrap (p + 15))], m12000_0, x13_0)))) (cond (decide ((m9900_0.length : Int) > 3)) (cond (decide (0 ≤ 1) && decide (1 ≤ (m9900_0.length : Int))) (RET ((m9900_0.take (((m9900_0.length : Int)).toNat)).drop 1, m12000_0, x13_0)) none) (RET (m9900_0, m12000_0, x13_0)))))
def Il (k : Nat) (v : An) (w : (den Al)) (p : Int) : Nat → Bool → Bool → Bool → Int → (den Al) → An → Option (An × (den Al) × Bool)
 | 0, _, _, _, _, _, _ => none
 | n + 1, x10_0, x11_0, x13_0, x14_0, m12000_0, m9900_0 => D9 (Il k v w p n) some k v w p x10_0 x11_0 x13_0 x14_0 m12000_0 m9900_0
theorem Xm7 {β : Type} (k : Nat) (v : An) (w : (den Al)) (p : Int) (K : KT β) (n : Nat) : ∀ (x10_0 x11_0 x13_0 : Bool) (x14_0 : Int) (m12000_0 : (den Al)) (m9900_0 : An), Ut k v w p K n x10_0 x11_0 x13_0 x14_0 m12000_0 m9900_0 =
  (Il k v w p n x10_0 x11_0 x13_0 x14_0 m12000_0 m9900_0).bind fun r => K (F62_O.put r) := by
 induction n with
 | zero => intros; rfl
 | succ n ih =>
  intro x10_0 x11_0 x13_0 x14_0 m12000_0 m9900_0
  refine Eq.trans (b := D9 (Ut k v w p K n) (fun r => K (F62_O.put r)) k v w p x10_0 x11_0 x13_0 x14_0 m12000_0 m9900_0) (by kernel_rfl) ?_
  rw [Il]
  simp only [D9, Pr, z1, z2, z3, z4, z5, z6, z7, z8, A1, ih]
def Wo {β : Type} (LP0 : Bool → Bool → Bool → Int → (den Al) → An → Option β) (RET : (An × (den Al) × Bool) → Option β) (k : Nat) (v : An) (w : (den Al)) (p : Int) : Option β := (Xb0 k v).bind fun b1 => cond (!b1) (RET ([], (0, 0, 0, 0, 0, 0, false, false, []), false)) ((G8 k w).bind fun b2 => cond (!b2) (RET ([], (0, 0, 0, 0, 0, 0, false, false, []), false)) ((Hj k p 0 999985).bind fun b3 => cond (!b3) (RET ([], (0, 0, 0, 0, 0, 0, false, false, []), false)) (cond (w.2.2.2.2.2.1 == 0) (LP0 (!w.2.2.2.2.2.2.1) false false 0 (0, 0, 0, 0, 0, 0, false, false, []) []) (LP0 false false false 0 (0, 0, 0, 0, 0, 0, false, false, []) []))))
def F62 (k : Nat) (v : An) (w : (den Al)) (p : Int) : Option (An × (den Al) × Bool) := Wo (Il k v w p k) some k v w p
theorem X7z {β : Type} (k : Nat) (v : An) (w : (den Al)) (p : Int) (K : KT β) : Ag (Xjx k) Tryz.f62 (PsT.put Xv9 (v, w, p, ())) K = (F62 k v w p).bind fun r => K (F62_O.put r) :=
 Eq.trans (b := Wo (Ut k v w p K k) (fun r => K (F62_O.put r)) k v w p) (by kernel_rfl) (by simp only [F62, Wo, z1, z2, z3, z4, z5, z6, z7, z8, A1, Xm7])
def X57 (k : Nat) : FD := ⟨62, Xv9, F62_O, F62 k⟩
theorem Yhg (k : Nat) : (X57 k).Ok Tryz.prog := ⟨fun x => Aa (Ai (Af (.c (X9z k) (.c (Hm k) (.c (Dq k) (.c (Yx k) (.c (Ycy k) (.c (X9u k) (.c (X75 k) (.c (Xas k) .n))))))))) _ _ _ _) Ah Tryz.func62 rfl rfl (X7z k _ _ _ some), .of (by kernel_rfl)⟩
def Yjm : Nat → Hint
 | 0 => ⟨pl 14 1 ((15, .own .own A4 []) :: (pl 16 1 [])), pl 14000 3 []⟩
 | _ => ⟨[], []⟩
abbrev Xjw (k : Nat) : Env := A6 (Aw [Xls k, Dm k, X4f k, X57 k]) Yjm .own [] k
abbrev Xx0 : List PA := [.one (.sl .ro sta), .one mI, .one mI, .one mI, .one mI, .one (.sl .ro (.int .u8))]
abbrev F13_O : RO := ⟨[.v, .v], [.sl .own (.int .u8), mB]⟩
noncomputable def Yjt {β : Type} (k : Nat) (v : Ak) (w p q o : Int) (c : Aj) (K : KT β) : Ex → St → Option β := Be (Xjw k) Tryz.f13 (PsT.put Xx0 (v, w, p, q, o, c, ())) K
def Yef (v : Ak) (w p q o : Int) (c : Aj) (x16_0 : Int) (m14000_0 : (den Db)) (m15900_0 : An) : St := ⟨dz 14 ((.one (.ptr (.cell 14000) 3 0)) :: (.one (.a (.cell 15900) 0 0 none)) :: (.one (vI x16_0)) :: dz 59 []), Bg 14000 (Cl m_11 m14000_0) [eM 15900 (.s .own A4 m15900_0)]⟩
noncomputable def Tf {β : Type} (k : Nat) (v : Ak) (w p q o : Int) (c : Aj) (K : KT β) (n : Nat) (x16_0 : Int) (m14000_0 : (den Db)) (m15900_0 : An) : Option β := A0 (Xjw k) Tryz.f13 [1, 1, 1, 1, 0, 1, 0] 0 (Ad (Xjw k) [1, 1, 1, 1, 0, 1, 0] (Ae Tryz.f13) 0 (Yjt k v w p q o c K)) n (Yef v w p q o c x16_0 m14000_0 m15900_0)
def Hh {β : Type} (NX : Int → (den Db) → An → Option β) (RET : (Aj × Bool) → Option β) (k : Nat) (v : Ak) (w p q o : Int) (c : Aj) (x16_0 : Int) (m14000_0 : (den Db)) (m15900_0 : An) : Option β := cond (decide (x16_0 < (m14000_0.1.length : Int))) (As x16_0 m14000_0.1 ((F62 k m15900_0 (Ac m14000_0.1 x16_0) 0).bind fun b4 => cond b4.2.2 (Bt (([] : Aj).length) (b4.2.1.2.2.2.2.2.2.2.2.length) 1 (RET ([] ++ b4.2.1.2.2.2.2.2.2.2.2, true))) (NX (i64.wrap (x16_0 + 1)) m14000_0 b4.1))) (RET ([], false))
def Hu (k : Nat) (v : Ak) (w p q o : Int) (c : Aj) : Nat → Int → (den Db) → An → Option (Aj × Bool)
 | 0, _, _, _ => none
 | n + 1, x16_0, m14000_0, m15900_0 => Hh (Hu k v w p q o c n) some k v w p q o c x16_0 m14000_0 m15900_0
theorem Xms {β : Type} (k : Nat) (v : Ak) (w p q o : Int) (c : Aj) (K : KT β) (n : Nat) : ∀ (x16_0 : Int) (m14000_0 : (den Db)) (m15900_0 : An), Tf k v w p q o c K n x16_0 m14000_0 m15900_0 =
  (Hu k v w p q o c n x16_0 m14000_0 m15900_0).bind fun r => K (F13_O.put r) := by
 induction n with
 | zero => intros; rfl
 | succ n ih =>
  intro x16_0 m14000_0 m15900_0
  refine Eq.trans (b := Hh (Tf k v w p q o c K n) (fun r => K (F13_O.put r)) k v w p q o c x16_0 m14000_0 m15900_0) (by kernel_rfl) ?_
  rw [Hu]
  simp only [Hh, z1, z2, z3, z4, z5, z6, z7, z8, ih]
def Xl7 {β : Type} (LP0 : Int → (den Db) → An → Option β) (RET : (Aj × Bool) → Option β) (k : Nat) (v : Ak) (w p q o : Int) (c : Aj) : Option β := (F59 k v).bind fun b1 => cond (!b1) (RET ([], false)) ((Hj k w 0 (i64.wrap ((v.length : Int) - 1))).bind fun b2 => cond (!b2) (RET ([], false)) (cond (decide ((c.length : Int) > 48)) (RET ([], false)) (As w v ((F61 k v w ((Ac v w).1, p, q, 64, o, 0, false, false, c)).bind fun b3 => LP0 0 b3 []))))
def F13 (k : Nat) (v : Ak) (w p q o : Int) (c : Aj) : Option (Aj × Bool) := Xl7 (Hu k v w p q o c k) some k v w p q o c
theorem Yb0 {β : Type} (k : Nat) (v : Ak) (w p q o : Int) (c : Aj) (K : KT β) : Ag (Xjw k) Tryz.f13 (PsT.put Xx0 (v, w, p, q, o, c, ())) K = (F13 k v w p q o c).bind fun r => K (F13_O.put r) :=
 Eq.trans (b := Xl7 (Tf k v w p q o c K k) (fun r => K (F13_O.put r)) k v w p q o c) (by kernel_rfl) (by simp only [F13, Xl7, z1, z2, z3, z4, z5, z6, z7, z8, Xms])
def X5p (k : Nat) : FD := ⟨13, Xx0, F13_O, F13 k⟩
theorem Yii (k : Nat) : (X5p k).Ok Tryz.prog := ⟨fun x => Aa (Ai (Af (.c (Xtj k) (.c (Dq k) (.c (Yjs k) (.c (Yhg k) .n))))) _ _ _ _) Ah Tryz.func13 rfl rfl (Yb0 k _ _ _ _ _ _ some), .of (by kernel_rfl)⟩
abbrev Yej (k : Nat) : Env := A6 (Aw [Dm k, Z2 k, Xil k, Xhu k]) Ap .own [] k
abbrev Xws : List PA := [.one mI, .one mI, .one (.sl .ro (.int .u8))]
abbrev F155_O : RO := ⟨[.a, .v], [.pair mI (.pair mI m_2), mB]⟩
def Yz {β : Type} (RET : (den A5) × Bool → Option β) (k : Nat) (v w : Int) (p : Aj) : Option β := cond (decide ((p.length : Int) < 5)) (RET ((0, 0, 0, []), false)) ((Hj k v 0 65535).bind fun b1 => cond (!b1) (RET ((0, 0, 0, []), false)) ((Hj k w 0 65535).bind fun b2 => cond (!b2) (RET ((0, 0, 0, []), false)) (cond (decide (0 < (p.length : Int))) (cond (decide (1 < (p.length : Int))) (cond (decide (0 ≤ (i64.wrap ((p.length : Int) - 2))) && decide ((i64.wrap ((p.length : Int) - 2)) ≤ (p.length : Int))) (cond (decide (0 ≤ 3) && decide (3 ≤ (i64.wrap ((p.length : Int) - 2)))) (Bt (([] : Aj).length) (((p.take ((i64.wrap ((p.length : Int) - 2)).toNat)).drop 3).length) 1 ((Xdu k (v, i64.wrap (Ac p 0), i64.wrap (Ac p 1), [] ++ ((p.take ((i64.wrap ((p.length : Int) - 2)).toNat)).drop 3))).bind fun b3 => cond (!b3) (RET ((0, 0, 0, []), false)) (cond (decide (2 < (p.length : Int))) (cond ((i64.wrap (Ac p 2)) != (([] ++ ((p.take ((i64.wrap ((p.length : Int) - 2)).toNat)).drop 3)).length : Int)) (RET ((0, 0, 0, []), false)) ((Xgd k p (i64.wrap ((p.length : Int) - 2)) 2).bind fun b4 => cond (decide (0 ≤ (i64.wrap ((p.length : Int) - 2))) && decide ((i64.wrap ((p.length : Int) - 2)) ≤ (p.length : Int))) ((Xey k v w (p.take ((i64.wrap ((p.length : Int) - 2)).toNat))).bind fun b5 => cond (b4 != b5) (RET ((0, 0, 0, []), false)) (RET ((v, i64.wrap (Ac p 0), i64.wrap (Ac p 1), [] ++ ((p.take ((i64.wrap ((p.length : Int) - 2)).toNat)).drop 3)), true))) none)) none))) none) none) none) none)))
def Xh8 := Yz (β := (den A5) × Bool) some
theorem Xy3 {β : Type} (k : Nat) (v w : Int) (p : Aj) (K : KT β) : Ag (Yej k) Tryz.f155 (PsT.put Xws (v, w, p, ())) K = (Xh8 k v w p).bind fun r => K (F155_O.put r) :=
 Eq.trans (b := Yz (fun r => K (F155_O.put r)) k v w p) (by kernel_rfl) (by simp only [Xh8, Yz, z1, z2, z3, z4, z5, z6, z7, z8])
def Xp2 (k : Nat) : FD := ⟨155, Xws, F155_O, Xh8 k⟩
theorem Ycb (k : Nat) : (Xp2 k).Ok Tryz.prog := ⟨fun x => Aa (Ai (Af (.c (Dq k) (.c (Xe3 k) (.c (Xwz k) (.c (Xya k) .n))))) _ _ _ _) Ah Tryz.func155 rfl rfl (Xy3 k _ _ _ some), .of (by kernel_rfl)⟩
def Yf7 : Nat → Hint
 | 0 => ⟨pl 0 2 (pl 5 1 []), []⟩
 | _ => ⟨[], []⟩
abbrev Xao (k : Nat) : Env := A6 Bn Yf7 .own [] k
abbrev Xi7 : List PA := [.one (.sl .ro A2), .one mI]
abbrev F156_O : RO := ⟨[.v], [mI]⟩
noncomputable def Yay {β : Type} (k : Nat) (v : Ab) (w : Int) (K : KT β) : Ex → St → Option β := Be (Xao k) Tryz.f156 (PsT.put Xi7 (v, w, ())) K
def Xyz (v : Ab) (w : Int) (x5_0 : Int) : St := ⟨(.one (.s .ro A2 v)) :: (.one (vI w)) :: dz 3 ((.one (vI x5_0)) :: dz 14 []), []⟩
noncomputable def Qr {β : Type} (k : Nat) (v : Ab) (w : Int) (K : KT β) (n : Nat) (x5_0 : Int) : Option β := A0 (Xao k) Tryz.f156 [1, 0, 1, 0] 0 (Ad (Xao k) [1, 0, 1, 0] (Ae Tryz.f156) 0 (Yay k v w K)) n (Xyz v w x5_0)
def K0 {β : Type} (NX : Int → Option β) (RET : Int → Option β) (k : Nat) (v : Ab) (w : Int) (x5_0 : Int) : Option β := cond (decide (x5_0 < (v.length : Int))) (As x5_0 v (cond ((Ac v x5_0).1 == w) (RET x5_0) (NX (i64.wrap (x5_0 + 1))))) (RET (-1))
def Lg (k : Nat) (v : Ab) (w : Int) : Nat → Int → Option (Int)
 | 0, _ => none
 | n + 1, x5_0 => K0 (Lg k v w n) some k v w x5_0
theorem Xen {β : Type} (k : Nat) (v : Ab) (w : Int) (K : KT β) (n : Nat) : ∀ (x5_0 : Int), Qr k v w K n x5_0 =
  (Lg k v w n x5_0).bind fun r => K (F156_O.put r) := by
 induction n with
 | zero => intros; rfl
 | succ n ih =>
  intro x5_0
  refine Eq.trans (b := K0 (Qr k v w K n) (fun r => K (F156_O.put r)) k v w x5_0) (by kernel_rfl) ?_
  rw [Lg]
  simp only [K0, z1, z2, z3, z4, z5, z6, z7, z8, ih]
def Xgr {β : Type} (LP0 : Int → Option β) (k : Nat) (v : Ab) (w : Int) : Option β := LP0 0
def Xsi (k : Nat) (v : Ab) (w : Int) : Option (Int) := Xgr (Lg k v w k) k v w
theorem X0t {β : Type} (k : Nat) (v : Ab) (w : Int) (K : KT β) : Ag (Xao k) Tryz.f156 (PsT.put Xi7 (v, w, ())) K = (Xsi k v w).bind fun r => K (F156_O.put r) :=
 Eq.trans (b := Xgr (Qr k v w K k) k v w) (by kernel_rfl) (by simp only [Xsi, Xgr, z1, z2, z3, z4, z5, z6, z7, z8, Xen])
def Xsk (k : Nat) : FD := ⟨156, Xi7, F156_O, Xsi k⟩
theorem Yea (k : Nat) : (Xsk k).Ok Tryz.prog := ⟨fun x => Aa (Ai .none _ _ _ _) Ah Tryz.func156 rfl rfl (X0t k _ _ some), .of (by kernel_rfl)⟩
abbrev Yie (k : Nat) : Env := A6 (Aw [Xu0 k, Xuu k, Xp2 k, Gd k, Xsk k]) Ap .own [] k
abbrev X5v : List PA := [.one (.sl .ro A2), .one mI, .agg (.pair mI Da)]
abbrev F83_O : RO := ⟨[.v, .v], [.sl .own A2, mI]⟩
def Xd8 {β : Type} (RET : (Ab × Int) → Option β) (k : Nat) (v : Ab) (w : Int) (p : (den Al)) : Option β := A1 p fun p0 p1 p2 _ _ p5 p6 _ p8 => (F80 k v).bind fun b1 => cond (!b1) (RET ([], 0)) ((F81 k v).bind fun b2 => (Xh8 k p0 p1 p8).bind fun b3 => (G8 k p).bind fun b4 => cond (!b4) (RET (b2, 0)) (cond (p2 != 2) (RET (b2, 0)) (cond (p1 != w) (RET (b2, 0)) (cond (decide (p5 > 0)) (RET (b2, 0)) (cond p6 (RET (b2, 0)) (cond (!b3.2) (RET (b2, 0)) ((Xsi k v b3.1.2.2.1).bind fun b5 => cond (decide (b5 < 0)) (RET (b2, 3)) (As b5 b2 (cond (((Ac b2 b5).2.length : Int) == 3) (RET (b2, 0)) (As b5 b2 (Bt ((Ac b2 b5).2.length) ([b3.1].length) 48 (As b5 b2 (cond (decide (b5.toNat = b5.toNat)) (RET (b2.set b5.toNat ((Ac b2 b5).1, (Ac b2 b5).2 ++ [b3.1]), 1)) none)))))))))))))
def F83 := Xd8 (β := Ab × Int) some
theorem X8n {β : Type} (k : Nat) (v : Ab) (w : Int) (p : (den Al)) (K : KT β) : Ag (Yie k) Tryz.f83 (PsT.put X5v (v, w, p, ())) K = (F83 k v w p).bind fun r => K (F83_O.put r) :=
 Eq.trans (b := Xd8 (fun r => K (F83_O.put r)) k v w p) (by kernel_rfl) (by simp only [F83, Xd8, z1, z2, z3, z4, z5, z6, z7, z8, A1])
def X4k (k : Nat) : FD := ⟨83, X5v, F83_O, F83 k⟩
theorem Yhd (k : Nat) : (X4k k).Ok Tryz.prog := ⟨fun x => Aa (Ai (Af (.c (X5j k) (.c (X5r k) (.c (Ycb k) (.c (Hm k) (.c (Yea k) .n)))))) _ _ _ _) Ah Tryz.func83 rfl rfl (X8n k _ _ _ some), .of (by kernel_rfl)⟩
abbrev Yja (k : Nat) : Env := A6 (Aw [Xu0 k, Xls k, Xuu k, Dm k, X51 k, X5p k, X4k k]) Ap .own [] k
abbrev X5f : List PA := [.one (.sl .ro A2), .one (.sl .ro sta), .one mI, .one mI, .agg (.pair mI (.pair mI Qj))]
abbrev F28_O : RO := ⟨[.v, .v], [.sl .own A2, mI]⟩
def Xjn {β : Type} (RET : (Ab × Int) → Option β) (k : Nat) (v : Ab) (w : Ak) (p q : Int) (o : (den A5)) : Option β := (F80 k v).bind fun b1 => cond (!b1) (RET ([], 0)) ((F59 k w).bind fun b2 => cond (!b2) ((F81 k v).bind fun b3 => RET (b3, 0)) ((Hj k p 0 (i64.wrap ((w.length : Int) - 1))).bind fun b4 => cond (!b4) ((F81 k v).bind fun b5 => RET (b5, 0)) (As p w ((F82 k ((Ac w p).1, o.2.1, o.2.2.1, o.2.2.2) q).bind fun b6 => (F13 k w p q 2 0 b6).bind fun b7 => cond (!b7.2) ((F81 k v).bind fun b8 => RET (b8, 0)) ((F83 k v q ((Ac w p).1, q, 2, 0, 0, 0, false, false, b7.1)).bind fun b9 => RET b9)))))
def F28 := Xjn (β := Ab × Int) some
theorem Yag {β : Type} (k : Nat) (v : Ab) (w : Ak) (p q : Int) (o : (den A5)) (K : KT β) : Ag (Yja k) Tryz.f28 (PsT.put X5f (v, w, p, q, o, ())) K = (F28 k v w p q o).bind fun r => K (F28_O.put r) :=
 Eq.trans (b := Xjn (fun r => K (F28_O.put r)) k v w p q o) (by kernel_rfl) (by simp only [F28, Xjn, z1, z2, z3, z4, z5, z6, z7, z8, Ff])
def X6k (k : Nat) : FD := ⟨28, X5f, F28_O, F28 k⟩
theorem Yid (k : Nat) : (X6k k).Ok Tryz.prog := ⟨fun x => Aa (Ai (Af (.c (X5j k) (.c (Xtj k) (.c (X5r k) (.c (Dq k) (.c (Yju k) (.c (Yii k) (.c (Yhd k) .n)))))))) _ _ _ _) Ah Tryz.func28 rfl rfl (Yag k _ _ _ _ _ some), .of (by kernel_rfl)⟩
end
end Go.Proofs.YtdmepjjepogddaaGreat.Gn
end

section
set_option linter.unusedVariables false
set_option linter.unusedSimpArgs false
namespace Go.Proofs.YtdmepjjepogddaaGreat.Gn
open Go.Rf IntKind
noncomputable section
abbrev Yg8 (k : Nat) : Env := A6 Bn Ap .own [] k
abbrev X6t : List PA := [.one mI, .one mI, .one mI]
abbrev F64_O : RO := ⟨[.v], [mB]⟩
def S6 (k : Nat) (v w p : Int) : Option (Bool) := cond (decide (v ≥ w)) (some (decide (v ≤ p))) (some false)
theorem Yc7 {β : Type} (k : Nat) (v w p : Int) (K : KT β) : Ag (Yg8 k) Tryz.f64 (PsT.put X6t (v, w, p, ())) K = (S6 k v w p).bind fun r => K (F64_O.put r) :=
 Eq.trans (b := cond (decide (v ≥ w)) (K (F64_O.put (decide (v ≤ p)))) (K (F64_O.put false))) (by kernel_rfl) (by simp only [S6, z1, z2, z3, z4, z5, z6, z7, z8])
def Iv (k : Nat) : FD := ⟨64, X6t, F64_O, S6 k⟩
theorem Je (k : Nat) : (Iv k).Ok Tryz.prog := ⟨fun x => Aa (Ai .none _ _ _ _) Ah Tryz.func64 rfl rfl (Yc7 k _ _ _ some), .of (by kernel_rfl)⟩
abbrev Yj2 (k : Nat) : Env := A6 (Aw [Iv k]) Ap .own [] k
abbrev X4o : List PA := [.one mI]
abbrev F85_O : RO := ⟨[.v], [mB]⟩
def F85 (k : Nat) (v : Int) : Option (Bool) := (S6 k v 1 255).bind fun b1 => some b1
theorem Ybw {β : Type} (k : Nat) (v : Int) (K : KT β) : Ag (Yj2 k) Tryz.f85 (PsT.put X4o (v, ())) K = (F85 k v).bind fun r => K (F85_O.put r) :=
 Eq.trans (b := (S6 k v 1 255).bind fun b1 => K (F85_O.put b1)) (by kernel_rfl) (by simp only [F85, z1, z2, z3, z4, z5, z6, z7, z8])
def Xpe (k : Nat) : FD := ⟨85, X4o, F85_O, F85 k⟩
theorem X5s (k : Nat) : (Xpe k).Ok Tryz.prog := ⟨fun x => Aa (Ai (Af (.c (Je k) .n)) _ _ _ _) Ah Tryz.func85 rfl rfl (Ybw k _ some), .of (by kernel_rfl)⟩
abbrev Yjy (k : Nat) : Env := A6 (Aw [Iv k]) Ap .own [] k
abbrev X5t : List PA := [.one mI]
abbrev F65_O : RO := ⟨[.v], [mB]⟩
def F65 (k : Nat) (v : Int) : Option (Bool) := (S6 k v 0 65535).bind fun b1 => some b1
theorem X8h {β : Type} (k : Nat) (v : Int) (K : KT β) : Ag (Yjy k) Tryz.f65 (PsT.put X5t (v, ())) K = (F65 k v).bind fun r => K (F65_O.put r) :=
 Eq.trans (b := (S6 k v 0 65535).bind fun b1 => K (F65_O.put b1)) (by kernel_rfl) (by simp only [F65, z1, z2, z3, z4, z5, z6, z7, z8])
def Mb (k : Nat) : FD := ⟨65, X5t, F65_O, F65 k⟩
theorem N0 (k : Nat) : (Mb k).Ok Tryz.prog := ⟨fun x => Aa (Ai (Af (.c (Je k) .n)) _ _ _ _) Ah Tryz.func65 rfl rfl (X8h k _ some), .of (by kernel_rfl)⟩
abbrev Yis (k : Nat) : Env := A6 (Aw [Mb k, Xpe k]) Ap .own [] k
abbrev X52 : List PA := [.agg (.pair mI (.pair mI Qj))]
abbrev F79_O : RO := ⟨[.v], [mB]⟩
def Xjv {β : Type} (RET : Bool → Option β) (k : Nat) (v : (den A5)) : Option β := (F65 k v.1).bind fun b1 => cond b1 ((F85 k v.2.1).bind fun b2 => cond b2 ((F85 k v.2.2.1).bind fun b3 => cond b3 (RET (decide ((v.2.2.2.length : Int) ≤ 40))) (RET false)) (RET false)) (RET false)
def F79 := Xjv (β := Bool) some
theorem Yah {β : Type} (k : Nat) (v : (den A5)) (K : KT β) : Ag (Yis k) Tryz.f79 (PsT.put X52 (v, ())) K = (F79 k v).bind fun r => K (F79_O.put r) :=
 Eq.trans (b := Xjv (fun r => K (F79_O.put r)) k v) (by kernel_rfl) (by simp only [F79, Xjv, z1, z2, z3, z4, z5, z6, z7, z8, Ff])
def Xkz (k : Nat) : FD := ⟨79, X52, F79_O, F79 k⟩
theorem Xv1 (k : Nat) : (Xkz k).Ok Tryz.prog := ⟨fun x => Aa (Ai (Af (.c (N0 k) (.c (X5s k) .n))) _ _ _ _) Ah Tryz.func79 rfl rfl (Yah k _ some), .of (by kernel_rfl)⟩
abbrev Yiz (k : Nat) : Env := A6 (Aw [Xkz k]) Ap .own [(false, 1000), (false, 1001)] k
abbrev X5q : List PA := [.agg (.pair mI (.pair mI Qj)), .p (.pair mI (.sl .ro A5))]
abbrev F87_O : RO := ⟨[.v], [mB, .pair mI (.sl .ro A5)]⟩
def F87 (k : Nat) (v : (den A5)) (w : (den A2)) : Option (Bool × (den A2)) := (F79 k v).bind fun b1 => cond (!b1) (some (true, w)) (some ((v.2.2.1 != w.1), w))
theorem Yc5 {β : Type} (k : Nat) (v : (den A5)) (w : (den A2)) (K : KT β) : Ag (Yiz k) Tryz.f87 (PsT.put X5q (v, w, ())) K = (F87 k v w).bind fun r => K (F87_O.put r) :=
 Eq.trans (b := (F79 k v).bind fun b1 => cond (!b1) (K (F87_O.put (true, w))) (K (F87_O.put ((v.2.2.1 != w.1), w)))) (by kernel_rfl) (by simp only [F87, z1, z2, z3, z4, z5, z6, z7, z8, Ff])
def X40 (k : Nat) : FD := ⟨87, X5q, F87_O, F87 k⟩
theorem Yhy (k : Nat) : (X40 k).Ok Tryz.prog := ⟨fun x => Aa (Ai (Af (.c (Xv1 k) .n)) _ _ _ _) Ah Tryz.func87 rfl rfl (Yc5 k _ _ some), .of (by kernel_rfl)⟩
def X9p : Nat → Hint
 | 0 => ⟨pl 0 2 (pl 7 2 []), pl 1100 2 []⟩
 | _ => ⟨[], []⟩
abbrev Xbj (k : Nat) : Env := A6 (Aw [X40 k]) X9p .own [(false, 1100), (false, 1101)] k
abbrev Xha : List PA := [.one (.sl .ro A5), .fc 87 [.pair mI (.sl .ro A5)]]
abbrev F157_O : RO := ⟨[.v], [mI, .pair mI (.sl .ro A5)]⟩
noncomputable def Ygn {β : Type} (k : Nat) (v : Au) (wx : (den A2)) (K : KT β) : Ex → St → Option β := Be (Xbj k) Tryz.f157 (PsT.put Xha (v, (wx, ()), ())) K
def X02 (v : Au) (wx : (den A2)) (x8_0 : Int) (m1100_0 : (den A2)) : St := ⟨(.one (.s .ro A5 v)) :: (.one (.fn 87 [((.cell 1100), 2, 0)])) :: dz 5 ((.one (vI (v.length : Int))) :: (.one (vI x8_0)) :: dz 10 []), Bg 1100 (Cl (.pair mI (.sl .ro A5)) m1100_0) []⟩
noncomputable def Rh {β : Type} (k : Nat) (v : Au) (wx : (den A2)) (K : KT β) (n : Nat) (x8_0 : Int) (m1100_0 : (den A2)) : Option β := A0 (Xbj k) Tryz.f157 [1, 0, 1, 0] 0 (Ad (Xbj k) [1, 0, 1, 0] (Ae Tryz.f157) 0 (Ygn k v wx K)) n (X02 v wx x8_0 m1100_0)
def Lk {β : Type} (NX : Int → (den A2) → Option β) (RET : (Int × (den A2)) → Option β) (k : Nat) (v : Au) (wx : (den A2)) (x8_0 : Int) (m1100_0 : (den A2)) : Option β := cond (decide (x8_0 < (v.length : Int))) (As x8_0 v ((F87 k (Ac v x8_0) m1100_0).bind fun b1 => cond b1.1 (RET (x8_0, b1.2)) (NX (i64.wrap (x8_0 + 1)) b1.2))) (RET ((-1), m1100_0))
def Kr (k : Nat) (v : Au) (wx : (den A2)) : Nat → Int → (den A2) → Option (Int × (den A2))
 | 0, _, _ => none
 | n + 1, x8_0, m1100_0 => Lk (Kr k v wx n) some k v wx x8_0 m1100_0
theorem Xe5 {β : Type} (k : Nat) (v : Au) (wx : (den A2)) (K : KT β) (n : Nat) : ∀ (x8_0 : Int) (m1100_0 : (den A2)), Rh k v wx K n x8_0 m1100_0 =
  (Kr k v wx n x8_0 m1100_0).bind fun r => K (F157_O.put r) := by
 induction n with
 | zero => intros; rfl
 | succ n ih =>
  intro x8_0 m1100_0
  refine Eq.trans (b := Lk (Rh k v wx K n) (fun r => K (F157_O.put r)) k v wx x8_0 m1100_0) (by kernel_rfl) ?_
  rw [Kr]
  simp only [Lk, z1, z2, z3, z4, z5, z6, z7, z8, ih]
def Xev {β : Type} (LP0 : Int → (den A2) → Option β) (k : Nat) (v : Au) (wx : (den A2)) : Option β := LP0 0 wx
def Xs0 (k : Nat) (v : Au) (wx : (den A2)) : Option (Int × (den A2)) := Xev (Kr k v wx k) k v wx
theorem X3k {β : Type} (k : Nat) (v : Au) (wx : (den A2)) (K : KT β) : Ag (Xbj k) Tryz.f157 (PsT.put Xha (v, (wx, ()), ())) K = (Xs0 k v wx).bind fun r => K (F157_O.put r) :=
 Eq.trans (b := Xev (Rh k v wx K k) k v wx) (by kernel_rfl) (by simp only [Xs0, Xev, z1, z2, z3, z4, z5, z6, z7, z8, Xe5])
def Xr5 (k : Nat) : FD := ⟨157, Xha, F157_O, Xs0 k⟩
theorem Ya9 (k : Nat) : (Xr5 k).Ok Tryz.prog := ⟨fun x => Aa (Ai (Af (.c (Yhy k) .n)) _ _ _ _) Ah Tryz.func157 rfl rfl (X3k k _ _ some), .of (by kernel_rfl)⟩
abbrev Ykq (k : Nat) : Env := A6 (Aw [Xr5 k]) Ap .own [(false, 1100), (false, 1101)] k
abbrev X56 : List PA := [.one (.sl .ro A5), .fc 87 [.pair mI (.sl .ro A5)]]
abbrev F86_O : RO := ⟨[.v], [mB, .pair mI (.sl .ro A5)]⟩
def F86 (k : Nat) (v : Au) (wx : (den A2)) : Option (Bool × (den A2)) := (Xs0 k v wx).bind fun b1 => some (decide (b1.1 ≥ 0), b1.2)
theorem Yeu {β : Type} (k : Nat) (v : Au) (wx : (den A2)) (K : KT β) : Ag (Ykq k) Tryz.f86 (PsT.put X56 (v, (wx, ()), ())) K = (F86 k v wx).bind fun r => K (F86_O.put r) :=
 Eq.trans (b := (Xs0 k v wx).bind fun b1 => K (F86_O.put (decide (b1.1 ≥ 0), b1.2))) (by kernel_rfl) (by simp only [F86, z1, z2, z3, z4, z5, z6, z7, z8])
def X6g (k : Nat) : FD := ⟨86, X56, F86_O, F86 k⟩
theorem Yi3 (k : Nat) : (X6g k).Ok Tryz.prog := ⟨fun x => Aa (Ai (Af (.c (Ya9 k) .n)) _ _ _ _) Ah Tryz.func86 rfl rfl (Yeu k _ _ some), .of (by kernel_rfl)⟩
def Ykp : Nat → Hint
 | 0 => ⟨pl 0 1 (pl 5 3 []), []⟩
 | _ => ⟨[], []⟩
abbrev Xl1 (k : Nat) : Env := A6 (Aw [Xpe k, X6g k]) Ykp .own [] k
abbrev Xv6 : List PA := [.one (.sl .ro A2)]
abbrev F30_O : RO := ⟨[.v], [mB]⟩
noncomputable def Yig {β : Type} (k : Nat) (v : Ab) (K : KT β) : Ex → St → Option β := Be (Xl1 k) Tryz.f30 (PsT.put Xv6 (v, ())) K
def Ycp (v : Ab) (x7_0 : Int) : St := ⟨(.one (.s .ro A2 v)) :: dz 4 ((.one (.s .ro A2 v)) :: (.one (vI (v.length : Int))) :: (.one (vI x7_0)) :: dz 39 []), []⟩
noncomputable def Ux {β : Type} (k : Nat) (v : Ab) (K : KT β) (n : Nat) (x7_0 : Int) : Option β := A0 (Xl1 k) Tryz.f30 [1, 0, 1, 0] 0 (Ad (Xl1 k) [1, 0, 1, 0] (Ae Tryz.f30) 0 (Yig k v K)) n (Ycp v x7_0)
def Hi {β : Type} (k : Nat) (v : Ab) (NX : Int → Option β) (RET : Bool → Option β) (x7_0 : Int) : Option β := cond (decide (((Ac v x7_0).2.length : Int) > 3)) (RET false) ((F86 k (Ac v x7_0).2 (Ac v x7_0)).bind fun b2 => cond b2.1 (RET false) (NX (i64.wrap (x7_0 + 1))))
def O5 {β : Type} (NX : Int → Option β) (RET : Bool → Option β) (k : Nat) (v : Ab) (x7_0 : Int) : Option β := cond (decide (x7_0 < (v.length : Int))) (As x7_0 v ((F85 k (Ac v x7_0).1).bind fun b1 => cond (!b1) (RET false) (cond (decide (x7_0 > 0)) (As (i64.wrap (x7_0 - 1)) v (cond (decide ((Ac v (i64.wrap (x7_0 - 1))).1 ≥ (Ac v x7_0).1)) (RET false) (Hi k v NX RET x7_0))) (Hi k v NX RET x7_0)))) (RET (decide ((v.length : Int) ≤ 4)))
def Mo (k : Nat) (v : Ab) : Nat → Int → Option (Bool)
 | 0, _ => none
 | n + 1, x7_0 => O5 (Mo k v n) some k v x7_0
theorem Xl8 {β : Type} (k : Nat) (v : Ab) (K : KT β) (n : Nat) : ∀ (x7_0 : Int), Ux k v K n x7_0 =
  (Mo k v n x7_0).bind fun r => K (F30_O.put r) := by
 induction n with
 | zero => intros; rfl
 | succ n ih =>
  intro x7_0
  refine Eq.trans (b := O5 (Ux k v K n) (fun r => K (F30_O.put r)) k v x7_0) (by kernel_rfl) ?_
  rw [Mo]
  simp only [O5, Hi, z1, z2, z3, z4, z5, z6, z7, z8, ih]
def Xxs {β : Type} (LP0 : Int → Option β) (k : Nat) (v : Ab) : Option β := LP0 0
def F30 (k : Nat) (v : Ab) : Option (Bool) := Xxs (Mo k v k) k v
theorem Yge {β : Type} (k : Nat) (v : Ab) (K : KT β) : Ag (Xl1 k) Tryz.f30 (PsT.put Xv6 (v, ())) K = (F30 k v).bind fun r => K (F30_O.put r) :=
 Eq.trans (b := Xxs (Ux k v K k) k v) (by kernel_rfl) (by simp only [F30, Xxs, z1, z2, z3, z4, z5, z6, z7, z8, Xl8])
def Xr8 (k : Nat) : FD := ⟨30, Xv6, F30_O, F30 k⟩
theorem X5d (k : Nat) : (Xr8 k).Ok Tryz.prog := ⟨fun x => Aa (Ai (Af (.c (X5s k) (.c (Yi3 k) .n))) _ _ _ _) Ah Tryz.func30 rfl rfl (Yge k _ some), .of (by kernel_rfl)⟩
abbrev Yek (k : Nat) : Env := A6 (Aw [Iv k, Mb k]) Ap .own [] k
abbrev Xp6 : List PA := [.agg m_3]
abbrev F226_O : RO := ⟨[.v], [mB]⟩
def Yd {β : Type} (RET : Bool → Option β) (k : Nat) (v : (den Ce)) : Option β := Gl v fun v0 v1 v2 v3 => (S6 k v1 0 16).bind fun b1 => cond b1 ((F65 k v0).bind fun b2 => cond b2 (cond (decide ((i64.wrap (16 - v1)) < 0)) none (cond (decide ((i64.wrap (1 * 2 ^ (min (i64.wrap (16 - v1)).toNat 64))) = 0)) none (cond ((v0.tmod (i64.wrap (1 * 2 ^ (min (i64.wrap (16 - v1)).toNat 64)))) == 0) ((F65 k v2).bind fun b3 => cond b3 ((S6 k v3 1 48).bind fun b4 => RET b4) (RET false)) (RET false)))) (RET false)) (RET false)
def Xno := Yd (β := Bool) some
theorem X1l {β : Type} (k : Nat) (v : (den Ce)) (K : KT β) : Ag (Yek k) Tryz.f226 (PsT.put Xp6 (v, ())) K = (Xno k v).bind fun r => K (F226_O.put r) :=
 Eq.trans (b := Yd (fun r => K (F226_O.put r)) k v) (by kernel_rfl) (by simp only [Xno, Yd, z1, z2, z3, z4, z5, z6, z7, z8, Gl])
def Xtw (k : Nat) : FD := ⟨226, Xp6, F226_O, Xno k⟩
theorem X7t (k : Nat) : (Xtw k).Ok Tryz.prog := ⟨fun x => Aa (Ai (Af (.c (Je k) (.c (N0 k) .n))) _ _ _ _) Ah Tryz.func226 rfl rfl (X1l k _ some), .of (by kernel_rfl)⟩
abbrev X76 (k : Nat) : Env := A6 Bn Ap .own [] k
abbrev Xvx : List PA := [.one mI]
abbrev F228_O : RO := ⟨[.v], [mB]⟩
def Xm2 (k : Nat) (v : Int) : Option (Bool) := some (v != v)
theorem Xz8 {β : Type} (k : Nat) (v : Int) (K : KT β) : Ag (X76 k) Tryz.f228 (PsT.put Xvx (v, ())) K = (Xm2 k v).bind fun r => K (F228_O.put r) :=
 Eq.trans (b := K (F228_O.put (v != v))) (by kernel_rfl) (by simp only [Xm2, z1, z2, z3, z4, z5, z6, z7, z8])
def Xsm (k : Nat) : FD := ⟨228, Xvx, F228_O, Xm2 k⟩
theorem X8o (k : Nat) : (Xsm k).Ok Tryz.prog := ⟨fun x => Aa (Ai .none _ _ _ _) Ah Tryz.func228 rfl rfl (Xz8 k _ some), .of (by kernel_rfl)⟩
abbrev Ydg (k : Nat) : Env := A6 (Aw [Xsm k]) Ap .own [] k
abbrev Xso : List PA := [.one mI, .one mI]
abbrev F162_O : RO := ⟨[.v], [mI]⟩
def Xbd {β : Type} (RET : Int → Option β) (k : Nat) (v w : Int) : Option β := (Xm2 k v).bind fun b1 => (Xm2 k w).bind fun b2 => cond b1 (cond b2 (RET 0) (RET (-1))) (cond b2 (RET 1) (cond (decide (v < w)) (RET (-1)) (cond (decide (v > w)) (RET 1) (RET 0))))
def X7 := Xbd (β := Int) some
theorem X1o {β : Type} (k : Nat) (v w : Int) (K : KT β) : Ag (Ydg k) Tryz.f162 (PsT.put Xso (v, w, ())) K = (X7 k v w).bind fun r => K (F162_O.put r) :=
 Eq.trans (b := Xbd (fun r => K (F162_O.put r)) k v w) (by kernel_rfl) (by simp only [X7, Xbd, z1, z2, z3, z4, z5, z6, z7, z8])
def Xfh (k : Nat) : FD := ⟨162, Xso, F162_O, X7 k⟩
theorem Xv8 (k : Nat) : (Xfh k).Ok Tryz.prog := ⟨fun x => Aa (Ai (Af (.c (X8o k) .n)) _ _ _ _) Ah Tryz.func162 rfl rfl (X1o k _ _ some), .of (by kernel_rfl)⟩
def X7n : Nat → Hint
 | 0 => ⟨pl 3 1 (pl 6 3 []), []⟩
 | _ => ⟨[], []⟩
abbrev X8 (k : Nat) : Env := A6 Bn X7n .own [] k
abbrev Xf9 : List PA := [.one (.sl .ro (.int .i64))]
abbrev F280_O : RO := ⟨[.v], [mI]⟩
noncomputable def Yft {β : Type} (k : Nat) (v : Bq) (K : KT β) : Ex → St → Option β := Be (X8 k) Tryz.f280 (PsT.put Xf9 (v, ())) K
def X0p (v : Bq) (x8_0 : Int) : St := ⟨dz 3 ((.one (vI 0)) :: (.one .d) :: (.one .d) :: (.one (.s .ro (.int .i64) v)) :: (.one (vI (v.length : Int))) :: (.one (vI x8_0)) :: dz 9 []), []⟩
noncomputable def P8 {β : Type} (k : Nat) (v : Bq) (K : KT β) (n : Nat) (x8_0 : Int) : Option β := A0 (X8 k) Tryz.f280 [1, 1, 0, 1, 0] 0 (Ad (X8 k) [1, 1, 0, 1, 0] (Ae Tryz.f280) 0 (Yft k v K)) n (X0p v x8_0)
def E2 {β : Type} (NX : Int → Option β) (RET : Int → Option β) (k : Nat) (v : Bq) (x8_0 : Int) : Option β := cond (decide (x8_0 < (v.length : Int))) (As x8_0 v (cond ((Ac v x8_0) != 0) (RET (Ac v x8_0)) (NX (i64.wrap (x8_0 + 1))))) (RET 0)
def Gb (k : Nat) (v : Bq) : Nat → Int → Option (Int)
 | 0, _ => none
 | n + 1, x8_0 => E2 (Gb k v n) some k v x8_0
theorem Xec {β : Type} (k : Nat) (v : Bq) (K : KT β) (n : Nat) : ∀ (x8_0 : Int), P8 k v K n x8_0 =
  (Gb k v n x8_0).bind fun r => K (F280_O.put r) := by
 induction n with
 | zero => intros; rfl
 | succ n ih =>
  intro x8_0
  refine Eq.trans (b := E2 (P8 k v K n) (fun r => K (F280_O.put r)) k v x8_0) (by kernel_rfl) ?_
  rw [Gb]
  simp only [E2, z1, z2, z3, z4, z5, z6, z7, z8, ih]
def Xgj {β : Type} (LP0 : Int → Option β) (k : Nat) (v : Bq) : Option β := LP0 0
def Xqf (k : Nat) (v : Bq) : Option (Int) := Xgj (Gb k v k) k v
theorem X2k {β : Type} (k : Nat) (v : Bq) (K : KT β) : Ag (X8 k) Tryz.f280 (PsT.put Xf9 (v, ())) K = (Xqf k v).bind fun r => K (F280_O.put r) :=
 Eq.trans (b := Xgj (P8 k v K k) k v) (by kernel_rfl) (by simp only [Xqf, Xgj, z1, z2, z3, z4, z5, z6, z7, z8, Xec])
def Xv3 (k : Nat) : FD := ⟨280, Xf9, F280_O, Xqf k⟩
theorem Ye2 (k : Nat) : (Xv3 k).Ok Tryz.prog := ⟨fun x => Aa (Ai .none _ _ _ _) Ah Tryz.func280 rfl rfl (X2k k _ some), .of (by kernel_rfl)⟩
abbrev Yao (k : Nat) : Env := A6 (Aw [Xfh k, Xv3 k]) Ap .own [] k
abbrev Xqz : List PA := [.agg m_3, .agg m_3]
abbrev F227_O : RO := ⟨[.v], [mI]⟩
def Y7 {β : Type} (RET : Int → Option β) (k : Nat) (v w : (den Ce)) : Option β := (X7 k v.2.1 w.2.1).bind fun b1 => (X7 k v.1 w.1).bind fun b2 => (Xqf k [b1, b2]).bind fun b3 => RET b3
def Xn6 := Y7 (β := Int) some
theorem X3o {β : Type} (k : Nat) (v w : (den Ce)) (K : KT β) : Ag (Yao k) Tryz.f227 (PsT.put Xqz (v, w, ())) K = (Xn6 k v w).bind fun r => K (F227_O.put r) :=
 Eq.trans (b := Y7 (fun r => K (F227_O.put r)) k v w) (by kernel_rfl) (by simp only [Xn6, Y7, z1, z2, z3, z4, z5, z6, z7, z8, Gl])
def Xw8 (k : Nat) : FD := ⟨227, Xqz, F227_O, Xn6 k⟩
theorem Yex (k : Nat) : (Xw8 k).Ok Tryz.prog := ⟨fun x => Aa (Ai (Af (.c (Xv8 k) (.c (Ye2 k) .n))) _ _ _ _) Ah Tryz.func227 rfl rfl (X3o k _ _ some), .of (by kernel_rfl)⟩
def X8w : Nat → Hint
 | 0 => ⟨pl 0 1 (pl 5 3 []), []⟩
 | _ => ⟨[], []⟩
abbrev Y1 (k : Nat) : Env := A6 (Aw [Xtw k, Xw8 k]) X8w .own [] k
abbrev Xhl : List PA := [.one (.sl .ro Ce)]
abbrev F158_O : RO := ⟨[.v], [mB]⟩
noncomputable def X89 {β : Type} (k : Nat) (v : Az) (K : KT β) : Ex → St → Option β := Be (Y1 k) Tryz.f158 (PsT.put Xhl (v, ())) K
def Xz5 (v : Az) (x7_0 : Int) : St := ⟨(.one (.s .ro Ce v)) :: dz 4 ((.one (.s .ro Ce v)) :: (.one (vI (v.length : Int))) :: (.one (vI x7_0)) :: dz 25 []), []⟩
noncomputable def Rk {β : Type} (k : Nat) (v : Az) (K : KT β) (n : Nat) (x7_0 : Int) : Option β := A0 (Y1 k) Tryz.f158 [1, 0, 1, 0] 0 (Ad (Y1 k) [1, 0, 1, 0] (Ae Tryz.f158) 0 (X89 k v K)) n (Xz5 v x7_0)
def Ku {β : Type} (NX : Int → Option β) (RET : Bool → Option β) (k : Nat) (v : Az) (x7_0 : Int) : Option β := cond (decide (x7_0 < (v.length : Int))) (As x7_0 v ((Xno k (Ac v x7_0)).bind fun b1 => cond (!b1) (RET false) (cond (decide (x7_0 > 0)) (As (i64.wrap (x7_0 - 1)) v ((Xn6 k (Ac v (i64.wrap (x7_0 - 1))) (Ac v x7_0)).bind fun b2 => cond (decide (b2 ≥ 0)) (RET false) (NX (i64.wrap (x7_0 + 1))))) (NX (i64.wrap (x7_0 + 1)))))) (RET (decide ((v.length : Int) ≤ 8)))
def Kv (k : Nat) (v : Az) : Nat → Int → Option (Bool)
 | 0, _ => none
 | n + 1, x7_0 => Ku (Kv k v n) some k v x7_0
theorem Xes {β : Type} (k : Nat) (v : Az) (K : KT β) (n : Nat) : ∀ (x7_0 : Int), Rk k v K n x7_0 =
  (Kv k v n x7_0).bind fun r => K (F158_O.put r) := by
 induction n with
 | zero => intros; rfl
 | succ n ih =>
  intro x7_0
  refine Eq.trans (b := Ku (Rk k v K n) (fun r => K (F158_O.put r)) k v x7_0) (by kernel_rfl) ?_
  rw [Kv]
  simp only [Ku, z1, z2, z3, z4, z5, z6, z7, z8, ih]
def Xiz {β : Type} (LP0 : Int → Option β) (k : Nat) (v : Az) : Option β := LP0 0
def Xoa (k : Nat) (v : Az) : Option (Bool) := Xiz (Kv k v k) k v
theorem X07 {β : Type} (k : Nat) (v : Az) (K : KT β) : Ag (Y1 k) Tryz.f158 (PsT.put Xhl (v, ())) K = (Xoa k v).bind fun r => K (F158_O.put r) :=
 Eq.trans (b := Xiz (Rk k v K k) k v) (by kernel_rfl) (by simp only [Xoa, Xiz, z1, z2, z3, z4, z5, z6, z7, z8, Xes])
def Xwt (k : Nat) : FD := ⟨158, Xhl, F158_O, Xoa k⟩
theorem X93 (k : Nat) : (Xwt k).Ok Tryz.prog := ⟨fun x => Aa (Ai (Af (.c (X7t k) (.c (Yex k) .n))) _ _ _ _) Ah Tryz.func158 rfl rfl (X07 k _ some), .of (by kernel_rfl)⟩
abbrev Yjg (k : Nat) : Env := A6 (Aw [Mb k, Xwt k]) Ap .own [] k
abbrev X5o : List PA := [.agg (.pair mI (.sl .ro Ce))]
abbrev F88_O : RO := ⟨[.v], [mB]⟩
def F88 (k : Nat) (v : (den sta)) : Option (Bool) := (F65 k v.1).bind fun b1 => cond b1 ((Xoa k v.2).bind fun b2 => some b2) (some false)
theorem Ya0 {β : Type} (k : Nat) (v : (den sta)) (K : KT β) : Ag (Yjg k) Tryz.f88 (PsT.put X5o (v, ())) K = (F88 k v).bind fun r => K (F88_O.put r) :=
 Eq.trans (b := (F65 k v.1).bind fun b1 => cond b1 ((Xoa k v.2).bind fun b2 => K (F88_O.put b2)) (K (F88_O.put false))) (by kernel_rfl) (by simp only [F88, z1, z2, z3, z4, z5, z6, z7, z8])
def X59 (k : Nat) : FD := ⟨88, X5o, F88_O, F88 k⟩
theorem Yj1 (k : Nat) : (X59 k).Ok Tryz.prog := ⟨fun x => Aa (Ai (Af (.c (N0 k) (.c (X93 k) .n))) _ _ _ _) Ah Tryz.func88 rfl rfl (Ya0 k _ some), .of (by kernel_rfl)⟩
abbrev Ybl (k : Nat) : Env := A6 Bn Ap .own [(false, 1000)] k
abbrev Xye : List PA := [.agg (.pair mI (.sl .ro Ce)), .p mI]
abbrev F148_O : RO := ⟨[.v], [mB, mI]⟩
def Xrc (k : Nat) (v : (den sta)) (w : Int) : Option (Bool × Int) := some ((v.1 == w), w)
theorem X3y {β : Type} (k : Nat) (v : (den sta)) (w : Int) (K : KT β) : Ag (Ybl k) Tryz.f148 (PsT.put Xye (v, w, ())) K = (Xrc k v w).bind fun r => K (F148_O.put r) :=
 Eq.trans (b := K (F148_O.put ((v.1 == w), w))) (by kernel_rfl) (by simp only [Xrc, z1, z2, z3, z4, z5, z6, z7, z8])
def Xx5 (k : Nat) : FD := ⟨148, Xye, F148_O, Xrc k⟩
theorem Ybr (k : Nat) : (Xx5 k).Ok Tryz.prog := ⟨fun x => Aa (Ai .none _ _ _ _) Ah Tryz.func148 rfl rfl (X3y k _ _ some), .of (by kernel_rfl)⟩
def X9d : Nat → Hint
 | 0 => ⟨pl 0 2 (pl 7 2 []), pl 1100 1 []⟩
 | _ => ⟨[], []⟩
abbrev Ym (k : Nat) : Env := A6 (Aw [Xx5 k]) X9d .own [(false, 1100)] k
abbrev Xe7 : List PA := [.one (.sl .ro sta), .fc 148 [mI]]
abbrev F147_O : RO := ⟨[.v], [mI, mI]⟩
noncomputable def Ydu {β : Type} (k : Nat) (v : Ak) (wx : Int) (K : KT β) : Ex → St → Option β := Be (Ym k) Tryz.f147 (PsT.put Xe7 (v, (wx, ()), ())) K
def Xzv (v : Ak) (wx : Int) (x8_0 m1100_0 : Int) : St := ⟨(.one (.s .ro sta v)) :: (.one (.fn 148 [((.cell 1100), 1, 0)])) :: dz 5 ((.one (vI (v.length : Int))) :: (.one (vI x8_0)) :: dz 10 []), [iM 1100 m1100_0]⟩
noncomputable def Pv {β : Type} (k : Nat) (v : Ak) (wx : Int) (K : KT β) (n : Nat) (x8_0 m1100_0 : Int) : Option β := A0 (Ym k) Tryz.f147 [1, 0, 1, 0] 0 (Ad (Ym k) [1, 0, 1, 0] (Ae Tryz.f147) 0 (Ydu k v wx K)) n (Xzv v wx x8_0 m1100_0)
def Lh {β : Type} (NX : Int → Int → Option β) (RET : (Int × Int) → Option β) (k : Nat) (v : Ak) (wx : Int) (x8_0 m1100_0 : Int) : Option β := cond (decide (x8_0 < (v.length : Int))) (As x8_0 v ((Xrc k (Ac v x8_0) m1100_0).bind fun b1 => cond b1.1 (RET (x8_0, b1.2)) (NX (i64.wrap (x8_0 + 1)) b1.2))) (RET ((-1), m1100_0))
def Lw (k : Nat) (v : Ak) (wx : Int) : Nat → Int → Int → Option (Int × Int)
 | 0, _, _ => none
 | n + 1, x8_0, m1100_0 => Lh (Lw k v wx n) some k v wx x8_0 m1100_0
theorem Xig {β : Type} (k : Nat) (v : Ak) (wx : Int) (K : KT β) (n : Nat) : ∀ (x8_0 m1100_0 : Int), Pv k v wx K n x8_0 m1100_0 =
  (Lw k v wx n x8_0 m1100_0).bind fun r => K (F147_O.put r) := by
 induction n with
 | zero => intros; rfl
 | succ n ih =>
  intro x8_0 m1100_0
  refine Eq.trans (b := Lh (Pv k v wx K n) (fun r => K (F147_O.put r)) k v wx x8_0 m1100_0) (by kernel_rfl) ?_
  rw [Lw]
  simp only [Lh, z1, z2, z3, z4, z5, z6, z7, z8, ih]
def Xe8 {β : Type} (LP0 : Int → Int → Option β) (k : Nat) (v : Ak) (wx : Int) : Option β := LP0 0 wx
def Xta (k : Nat) (v : Ak) (wx : Int) : Option (Int × Int) := Xe8 (Lw k v wx k) k v wx
theorem X01 {β : Type} (k : Nat) (v : Ak) (wx : Int) (K : KT β) : Ag (Ym k) Tryz.f147 (PsT.put Xe7 (v, (wx, ()), ())) K = (Xta k v wx).bind fun r => K (F147_O.put r) :=
 Eq.trans (b := Xe8 (Pv k v wx K k) k v wx) (by kernel_rfl) (by simp only [Xta, Xe8, z1, z2, z3, z4, z5, z6, z7, z8, Xig])
def Xxl (k : Nat) : FD := ⟨147, Xe7, F147_O, Xta k⟩
theorem Ybn (k : Nat) : (Xxl k).Ok Tryz.prog := ⟨fun x => Aa (Ai (Af (.c (Ybr k) .n)) _ _ _ _) Ah Tryz.func147 rfl rfl (X01 k _ _ some), .of (by kernel_rfl)⟩
abbrev Yha (k : Nat) : Env := A6 (Aw [Xxl k]) Ap .own [] k
abbrev X5i : List PA := [.one (.sl .ro sta), .one mI]
abbrev F75_O : RO := ⟨[.v], [mI]⟩
def F75 (k : Nat) (v : Ak) (w : Int) : Option (Int) := (Xta k v w).bind fun b1 => some b1.1
theorem Ybp {β : Type} (k : Nat) (v : Ak) (w : Int) (K : KT β) : Ag (Yha k) Tryz.f75 (PsT.put X5i (v, w, ())) K = (F75 k v w).bind fun r => K (F75_O.put r) :=
 Eq.trans (b := (Xta k v w).bind fun b1 => K (F75_O.put b1.1)) (by kernel_rfl) (by simp only [F75, z1, z2, z3, z4, z5, z6, z7, z8])
def Xuw (k : Nat) : FD := ⟨75, X5i, F75_O, F75 k⟩
theorem X5w (k : Nat) : (Xuw k).Ok Tryz.prog := ⟨fun x => Aa (Ai (Af (.c (Ybn k) .n)) _ _ _ _) Ah Tryz.func75 rfl rfl (Ybp k _ _ some), .of (by kernel_rfl)⟩
def Yiy : Nat → Hint
 | 0 => ⟨pl 0 1 (pl 5 3 []), []⟩
 | _ => ⟨[], []⟩
abbrev Xkc (k : Nat) : Env := A6 (Aw [X59 k, Xuw k]) Yiy .own [] k
abbrev Xw6 : List PA := [.one (.sl .ro sta)]
abbrev F31_O : RO := ⟨[.v], [mB]⟩
noncomputable def Yh7 {β : Type} (k : Nat) (v : Ak) (K : KT β) : Ex → St → Option β := Be (Xkc k) Tryz.f31 (PsT.put Xw6 (v, ())) K
def X99 (v : Ak) (x7_0 : Int) : St := ⟨(.one (.s .ro sta v)) :: dz 4 ((.one (.s .ro sta v)) :: (.one (vI (v.length : Int))) :: (.one (vI x7_0)) :: dz 19 []), []⟩
noncomputable def Tc {β : Type} (k : Nat) (v : Ak) (K : KT β) (n : Nat) (x7_0 : Int) : Option β := A0 (Xkc k) Tryz.f31 [1, 0, 1, 0] 0 (Ad (Xkc k) [1, 0, 1, 0] (Ae Tryz.f31) 0 (Yh7 k v K)) n (X99 v x7_0)
def Oh {β : Type} (NX : Int → Option β) (RET : Bool → Option β) (k : Nat) (v : Ak) (x7_0 : Int) : Option β := cond (decide (x7_0 < (v.length : Int))) (As x7_0 v ((F88 k (Ac v x7_0)).bind fun b1 => cond (!b1) (RET false) ((F75 k v (Ac v x7_0).1).bind fun b2 => cond (decide (b2 < x7_0)) (RET false) (NX (i64.wrap (x7_0 + 1)))))) (RET (decide ((v.length : Int) ≤ 5)))
def Qq (k : Nat) (v : Ak) : Nat → Int → Option (Bool)
 | 0, _ => none
 | n + 1, x7_0 => Oh (Qq k v n) some k v x7_0
theorem Xov {β : Type} (k : Nat) (v : Ak) (K : KT β) (n : Nat) : ∀ (x7_0 : Int), Tc k v K n x7_0 =
  (Qq k v n x7_0).bind fun r => K (F31_O.put r) := by
 induction n with
 | zero => intros; rfl
 | succ n ih =>
  intro x7_0
  refine Eq.trans (b := Oh (Tc k v K n) (fun r => K (F31_O.put r)) k v x7_0) (by kernel_rfl) ?_
  rw [Qq]
  simp only [Oh, z1, z2, z3, z4, z5, z6, z7, z8, ih]
def Xqu {β : Type} (LP0 : Int → Option β) (k : Nat) (v : Ak) : Option β := LP0 0
def F31 (k : Nat) (v : Ak) : Option (Bool) := Xqu (Qq k v k) k v
theorem Ya7 {β : Type} (k : Nat) (v : Ak) (K : KT β) : Ag (Xkc k) Tryz.f31 (PsT.put Xw6 (v, ())) K = (F31 k v).bind fun r => K (F31_O.put r) :=
 Eq.trans (b := Xqu (Tc k v K k) k v) (by kernel_rfl) (by simp only [F31, Xqu, z1, z2, z3, z4, z5, z6, z7, z8, Xov])
def Xu7 (k : Nat) : FD := ⟨31, Xw6, F31_O, F31 k⟩
theorem X46 (k : Nat) : (Xu7 k).Ok Tryz.prog := ⟨fun x => Aa (Ai (Af (.c (Yj1 k) (.c (X5w k) .n))) _ _ _ _) Ah Tryz.func31 rfl rfl (Ya7 k _ some), .of (by kernel_rfl)⟩
abbrev Ygi (k : Nat) : Env := A6 Bn Ap .own [] k
abbrev Xp1 : List PA := [.one (.sl .own (.int .u8))]
abbrev F197_O : RO := ⟨[.v], [.sl .own (.int .u8)]⟩
def Xa1 {β : Type} (RET : Aj → Option β) (k : Nat) (v : Aj) : Option β := cond (decide (0 ≤ (v.length : Int)) && decide ((v.length : Int) ≤ (v.length : Int))) (cond (decide ((v.length : Int) = (v.length : Int))) (RET ((v.take ((v.length : Int).toNat)).drop 0)) none) none
def Xow := Xa1 (β := Aj) some
theorem X1e {β : Type} (k : Nat) (v : Aj) (K : KT β) : Ag (Ygi k) Tryz.f197 (PsT.put Xp1 (v, ())) K = (Xow k v).bind fun r => K (F197_O.put r) :=
 Eq.trans (b := Xa1 (fun r => K (F197_O.put r)) k v) (by kernel_rfl) (by simp only [Xow, Xa1, z1, z2, z3, z4, z5, z6, z7, z8])
def Xqa (k : Nat) : FD := ⟨197, Xp1, F197_O, Xow k⟩
theorem Yar (k : Nat) : (Xqa k).Ok Tryz.prog := ⟨fun x => Aa (Ai .none _ _ _ _) Ah Tryz.func197 rfl rfl (X1e k _ some), .of (by kernel_rfl)⟩
abbrev X7e (k : Nat) : Env := A6 (Aw [Xqa k]) Ap .own [] k
abbrev Xsr : List PA := [.one (.sl .ro (.int .u8))]
abbrev F121_O : RO := ⟨[.v], [.sl .own (.int .u8)]⟩
def Xbh {β : Type} (RET : Aj → Option β) (k : Nat) (v : Aj) : Option β := cond ((v.length : Int) == 0) (RET []) (Bt (([] : Aj).length) (v.length) 1 ((Xow k ([] ++ v)).bind fun b1 => RET b1))
def Pu := Xbh (β := Aj) some
theorem X2w {β : Type} (k : Nat) (v : Aj) (K : KT β) : Ag (X7e k) Tryz.f121 (PsT.put Xsr (v, ())) K = (Pu k v).bind fun r => K (F121_O.put r) :=
 Eq.trans (b := Xbh (fun r => K (F121_O.put r)) k v) (by kernel_rfl) (by simp only [Pu, Xbh, z1, z2, z3, z4, z5, z6, z7, z8])
def M0 (k : Nat) : FD := ⟨121, Xsr, F121_O, Pu k⟩
theorem Qn (k : Nat) : (M0 k).Ok Tryz.prog := ⟨fun x => Aa (Ai (Af (.c (Yar k) .n)) _ _ _ _) Ah Tryz.func121 rfl rfl (X2w k _ some), .of (by kernel_rfl)⟩
abbrev X8m (k : Nat) : Env := A6 Bn Ap .own [] k
abbrev Xpg : List PA := [.one (.sl .own A5)]
abbrev F150_O : RO := ⟨[.v], [.sl .own A5]⟩
def Yk {β : Type} (RET : Au → Option β) (k : Nat) (v : Au) : Option β := cond (decide (0 ≤ (v.length : Int)) && decide ((v.length : Int) ≤ (v.length : Int))) (cond (decide ((v.length : Int) = (v.length : Int))) (RET ((v.take ((v.length : Int).toNat)).drop 0)) none) none
def Xet := Yk (β := Au) some
theorem X31 {β : Type} (k : Nat) (v : Au) (K : KT β) : Ag (X8m k) Tryz.f150 (PsT.put Xpg (v, ())) K = (Xet k v).bind fun r => K (F150_O.put r) :=
 Eq.trans (b := Yk (fun r => K (F150_O.put r)) k v) (by kernel_rfl) (by simp only [Xet, Yk, z1, z2, z3, z4, z5, z6, z7, z8])
def Xvu (k : Nat) : FD := ⟨150, Xpg, F150_O, Xet k⟩
theorem Yb4 (k : Nat) : (Xvu k).Ok Tryz.prog := ⟨fun x => Aa (Ai .none _ _ _ _) Ah Tryz.func150 rfl rfl (X31 k _ some), .of (by kernel_rfl)⟩
end
end Go.Proofs.YtdmepjjepogddaaGreat.Gn
end

section
set_option linter.unusedVariables false
set_option linter.unusedSimpArgs false
namespace Go.Proofs.YtdmepjjepogddaaGreat.Gn
open Go.Rf IntKind
noncomputable section
abbrev Ygg (k : Nat) : Env := A6 Bn Ap .own [] k
abbrev Xw3 : List PA := [.one (.sl .own A2)]
abbrev F151_O : RO := ⟨[.v], [.sl .own A2]⟩
def Xaf {β : Type} (RET : Ab → Option β) (k : Nat) (v : Ab) : Option β := cond (decide (0 ≤ (v.length : Int)) && decide ((v.length : Int) ≤ (v.length : Int))) (cond (decide ((v.length : Int) = (v.length : Int))) (RET ((v.take ((v.length : Int).toNat)).drop 0)) none) none
def Xgh := Xaf (β := Ab) some
theorem Xy9 {β : Type} (k : Nat) (v : Ab) (K : KT β) : Ag (Ygg k) Tryz.f151 (PsT.put Xw3 (v, ())) K = (Xgh k v).bind fun r => K (F151_O.put r) :=
 Eq.trans (b := Xaf (fun r => K (F151_O.put r)) k v) (by kernel_rfl) (by simp only [Xgh, Xaf, z1, z2, z3, z4, z5, z6, z7, z8])
def Xxy (k : Nat) : FD := ⟨151, Xw3, F151_O, Xgh k⟩
theorem X7l (k : Nat) : (Xxy k).Ok Tryz.prog := ⟨fun x => Aa (Ai .none _ _ _ _) Ah Tryz.func151 rfl rfl (Xy9 k _ some), .of (by kernel_rfl)⟩
def Yke : Nat → Hint
 | 0 => ⟨(3, .own .own A2 []) :: (pl 9 3 []), []⟩
 | 2 => ⟨pl 3 1 (pl 6 1 (pl 9 3 (pl 19 3 []))), pl 3900 1 (pl 6000 1 ((6001, .own .own A5 []) :: []))⟩
 | _ => ⟨[], []⟩
abbrev Jo (k : Nat) : Env := A6 (Aw [M0 k, Xvu k, Xxy k]) Yke .own [] k
abbrev Xtl : List PA := [.one (.sl .ro A2)]
abbrev F78_O : RO := ⟨[.v], [.sl .own A2]⟩
noncomputable def Xvi {β : Type} (k : Nat) (v : Ab) (K : KT β) : Ex → St → Option β := Be (Jo k) Tryz.f78 (PsT.put Xtl (v, ())) K
def Yes (v : Ab) (x11_2 : Int) (x19_2 : Au) (x20_2 x21_2 : Int) (m3900_2 : Ab) (m6000_2 : (den A2)) : St := ⟨dz 3 ((.one (.a (.cell 3900) 0 0 none)) :: (.one .d) :: (.one .d) :: (.one (.ptr (.cell 6000) 2 0)) :: (.one .d) :: (.one .d) :: (.one (.s .ro A2 v)) :: (.one (vI (v.length : Int))) :: (.one (vI x11_2)) :: dz 7 ((.one (.s .ro A5 x19_2)) :: (.one (vI x20_2)) :: (.one (vI x21_2)) :: dz 25 [])), (eM 3900 (.s .own A2 m3900_2)) :: (Bg 6000 (Cl (.pair mI (.sl .own A5)) m6000_2) [])⟩
noncomputable def T1 {β : Type} (k : Nat) (v : Ab) (KK : Ex → St → Option β) (n : Nat) (x11_2 : Int) (x19_2 : Au) (x20_2 x21_2 : Int) (m3900_2 : Ab) (m6000_2 : (den A2)) : Option β := A0 (Jo k) Tryz.f78 [1, 1, 0, 1, 0, 0, 1, 1, 0, 0, 1, 1, 0, 1, 0] 2 KK n (Yes v x11_2 x19_2 x20_2 x21_2 m3900_2 m6000_2)
def Nu {β : Type} (NX : Int → Au → Int → Int → Ab → (den A2) → Option β) (EX0 : (Int × Au × Int × Int × Ab × (den A2)) → Option β) (k : Nat) (v : Ab) (x11_2 : Int) (x19_2 : Au) (x20_2 x21_2 : Int) (m3900_2 : Ab) (m6000_2 : (den A2)) : Option β := cond (decide (x21_2 < x20_2)) (As x21_2 x19_2 ((Pu k (Ac x19_2 x21_2).2.2.2).bind fun b1 => Bt (m6000_2.2.length) ([((Ac x19_2 x21_2).1, (Ac x19_2 x21_2).2.1, (Ac x19_2 x21_2).2.2.1, b1)].length) 48 (NX x11_2 x19_2 x20_2 (i64.wrap (x21_2 + 1)) m3900_2 (m6000_2.1, m6000_2.2 ++ [((Ac x19_2 x21_2).1, (Ac x19_2 x21_2).2.1, (Ac x19_2 x21_2).2.2.1, b1)])))) (EX0 (x11_2, x19_2, x20_2, x21_2, m3900_2, m6000_2))
def P2 (k : Nat) (v : Ab) : Nat → Int → Au → Int → Int → Ab → (den A2) → Option ((Int × Au × Int × Int × Ab × (den A2)))
 | 0, _, _, _, _, _, _ => none
 | n + 1, x11_2, x19_2, x20_2, x21_2, m3900_2, m6000_2 => Nu (P2 k v n) (fun y2 => some y2) k v x11_2 x19_2 x20_2 x21_2 m3900_2 m6000_2
theorem Xny {β : Type} (k : Nat) (v : Ab) (KK : Ex → St → Option β) (n : Nat) : ∀ (x11_2 : Int) (x19_2 : Au) (x20_2 x21_2 : Int) (m3900_2 : Ab) (m6000_2 : (den A2)), T1 k v KK n x11_2 x19_2 x20_2 x21_2 m3900_2 m6000_2 =
  (P2 k v n x11_2 x19_2 x20_2 x21_2 m3900_2 m6000_2).bind fun y2 => KK (.exit 2) ⟨dz 3 ((.one (.a (.cell 3900) 0 0 none)) :: (.one .d) :: (.one .d) :: (.one (.ptr (.cell 6000) 2 0)) :: (.one .d) :: (.one .d) :: (.one (.s .ro A2 v)) :: (.one (vI (v.length : Int))) :: (.one (vI y2.1)) :: dz 7 ((.one (.s .ro A5 y2.2.1)) :: (.one (vI y2.2.2.1)) :: (.one (vI y2.2.2.2.1)) :: (.one (vB false)) :: dz 24 [])), (eM 3900 (.s .own A2 y2.2.2.2.2.1)) :: (Bg 6000 (Cl (.pair mI (.sl .own A5)) y2.2.2.2.2.2) [])⟩ := by
 induction n with
 | zero => intros; rfl
 | succ n ih =>
  intro x11_2 x19_2 x20_2 x21_2 m3900_2 m6000_2
  refine Eq.trans (b := Nu (T1 k v KK n) (fun y2 => KK (.exit 2) ⟨dz 3 ((.one (.a (.cell 3900) 0 0 none)) :: (.one .d) :: (.one .d) :: (.one (.ptr (.cell 6000) 2 0)) :: (.one .d) :: (.one .d) :: (.one (.s .ro A2 v)) :: (.one (vI (v.length : Int))) :: (.one (vI y2.1)) :: dz 7 ((.one (.s .ro A5 y2.2.1)) :: (.one (vI y2.2.2.1)) :: (.one (vI y2.2.2.2.1)) :: (.one (vB false)) :: dz 24 [])), (eM 3900 (.s .own A2 y2.2.2.2.2.1)) :: (Bg 6000 (Cl (.pair mI (.sl .own A5)) y2.2.2.2.2.2) [])⟩) k v x11_2 x19_2 x20_2 x21_2 m3900_2 m6000_2) (by kernel_rfl) ?_
  rw [P2]
  simp only [Nu, z1, z2, z3, z4, z5, z6, z7, z8, ih]
def Ye6 (v : Ab) (x11_0 : Int) (m3900_0 : Ab) : St := ⟨dz 3 ((.one (.a (.cell 3900) 0 0 none)) :: dz 5 ((.one (.s .ro A2 v)) :: (.one (vI (v.length : Int))) :: (.one (vI x11_0)) :: dz 35 [])), [eM 3900 (.s .own A2 m3900_0)]⟩
noncomputable def U3 {β : Type} (k : Nat) (v : Ab) (K : KT β) (n : Nat) (x11_0 : Int) (m3900_0 : Ab) : Option β := A0 (Jo k) Tryz.f78 [1, 1, 0, 1, 0] 0 (Ad (Jo k) [1, 1, 0, 1, 0] (Ae Tryz.f78) 0 (Xvi k v K)) n (Ye6 v x11_0 m3900_0)
def Qd (k : Nat) (v : Ab) : Nat → Int → Ab → Option (Ab)
 | 0, _, _ => none
 | n + 1, x11_0, m3900_0 => cond (decide (x11_0 < (v.length : Int))) (As x11_0 v ((P2 k v k x11_0 (Ac v x11_0).2 ((Ac v x11_0).2.length : Int) 0 m3900_0 ((Ac v x11_0).1, [])).bind fun y2 => (Xet k y2.2.2.2.2.2.2).bind fun b2 => Bt (y2.2.2.2.2.1.length) ([(y2.2.2.2.2.2.1, b2)].length) 32 (Qd k v n (i64.wrap (y2.1 + 1)) (y2.2.2.2.2.1 ++ [(y2.2.2.2.2.2.1, b2)])))) ((Xgh k m3900_0).bind fun b3 => some b3)
theorem Xb1 {β : Type} (k n : Nat) (v : Ab) (y2 : Int × Au × Int × Int × Ab × (den A2)) (K : KT β) :
  (Ad (Jo k) [1, 1, 0, 0, 1, 1, 0, 1, 0] (Bf [1, 1, 0, 1, 0, 0] (Ae Tryz.f78)) 0 (B3 (Jo k) Tryz.f78 [1, 1, 0, 1, 0] 0 (Ad (Jo k) [1, 1, 0, 1, 0] (Ae Tryz.f78) 0 (Xvi k v K)) n)) (.exit 2) ⟨dz 3 ((.one (.a (.cell 3900) 0 0 none)) :: (.one .d) :: (.one .d) :: (.one (.ptr (.cell 6000) 2 0)) :: (.one .d) :: (.one .d) :: (.one (.s .ro A2 v)) :: (.one (vI (v.length : Int))) :: (.one (vI y2.1)) :: dz 7 ((.one (.s .ro A5 y2.2.1)) :: (.one (vI y2.2.2.1)) :: (.one (vI y2.2.2.2.1)) :: (.one (vB false)) :: dz 24 [])), (eM 3900 (.s .own A2 y2.2.2.2.2.1)) :: (Bg 6000 (Cl (.pair mI (.sl .own A5)) y2.2.2.2.2.2) [])⟩ =
  (Xet k y2.2.2.2.2.2.2).bind fun b2 => Bt (y2.2.2.2.2.1.length) ([(y2.2.2.2.2.2.1, b2)].length) 32 (U3 k v K n (i64.wrap (y2.1 + 1)) (y2.2.2.2.2.1 ++ [(y2.2.2.2.2.2.1, b2)])) := by kernel_rfl
theorem Xn1 {β : Type} (k : Nat) (v : Ab) (K : KT β) (n : Nat) : ∀ (x11_0 : Int) (m3900_0 : Ab), U3 k v K n x11_0 m3900_0 =
  (Qd k v n x11_0 m3900_0).bind fun r => K (F78_O.put r) := by
 induction n with
 | zero => intros; rfl
 | succ n ih =>
  intro x11_0 m3900_0
  refine Eq.trans (b := cond (decide (x11_0 < (v.length : Int))) (As x11_0 v (T1 k v (Ad (Jo k) [1, 1, 0, 0, 1, 1, 0, 1, 0] (Bf [1, 1, 0, 1, 0, 0] (Ae Tryz.f78)) 0 (B3 (Jo k) Tryz.f78 [1, 1, 0, 1, 0] 0 (Ad (Jo k) [1, 1, 0, 1, 0] (Ae Tryz.f78) 0 (Xvi k v K)) n)) k x11_0 (Ac v x11_0).2 ((Ac v x11_0).2.length : Int) 0 m3900_0 ((Ac v x11_0).1, []))) ((Xgh k m3900_0).bind fun b3 => K (F78_O.put b3))) (by kernel_rfl) ?_
  rw [Qd]
  simp only [z1, z2, z3, z4, z5, z6, z7, z8, Xny, Xb1 k n v _ K, ih, As, Bt]
def Xq4 {β : Type} (LP0 : Int → Ab → Option β) (k : Nat) (v : Ab) : Option β := LP0 0 []
def F78 (k : Nat) (v : Ab) : Option (Ab) := Xq4 (Qd k v k) k v
theorem Yf8 {β : Type} (k : Nat) (v : Ab) (K : KT β) : Ag (Jo k) Tryz.f78 (PsT.put Xtl (v, ())) K = (F78 k v).bind fun r => K (F78_O.put r) :=
 Eq.trans (b := Xq4 (U3 k v K k) k v) (by kernel_rfl) (by simp only [F78, Xq4, z1, z2, z3, z4, z5, z6, z7, z8, Xn1])
def Xs9 (k : Nat) : FD := ⟨78, Xtl, F78_O, F78 k⟩
theorem X4a (k : Nat) : (Xs9 k).Ok Tryz.prog := ⟨fun x => Aa (Ai (Af (.c (Qn k) (.c (Yb4 k) (.c (X7l k) .n)))) _ _ _ _) Ah Tryz.func78 rfl rfl (Yf8 k _ some), .of (by kernel_rfl)⟩
def Yi0 : Nat → Hint
 | 0 => ⟨pl 0 1 (pl 5 2 []), pl 8000 1 []⟩
 | _ => ⟨[], []⟩
abbrev Xk6 (k : Nat) : Env := A6 Bn Yi0 .own [] k
abbrev Xvq : List PA := [.one mI, .one mI]
abbrev F93_O : RO := ⟨[.v], [.sl .own (.int .u8)]⟩
noncomputable def Yh6 {β : Type} (k : Nat) (v w : Int) (K : KT β) : Ex → St → Option β := Be (Xk6 k) Tryz.f93 (PsT.put Xvq (v, w, ())) K
def X9i (v w : Int) (x0_0 x6_0 : Int) (m8000_0 : Aj) : St := ⟨(.one (vI x0_0)) :: dz 4 ((.one (.a (.cell 8000) 0 0 none)) :: (.one (vI x6_0)) :: dz 16 []), [eM 8000 (.s .own (.int .u8) m8000_0)]⟩
noncomputable def Vk {β : Type} (k : Nat) (v w : Int) (K : KT β) (n : Nat) (x0_0 x6_0 : Int) (m8000_0 : Aj) : Option β := A0 (Xk6 k) Tryz.f93 [1, 1, 0, 1, 0] 0 (Ad (Xk6 k) [1, 1, 0, 1, 0] (Ae Tryz.f93) 0 (Yh6 k v w K)) n (X9i v w x0_0 x6_0 m8000_0)
def Hf {β : Type} (NX : Int → Int → Aj → Option β) (RET : Aj → Option β) (k : Nat) (v w : Int) (x0_0 x6_0 : Int) (m8000_0 : Aj) : Option β := cond (decide (x6_0 ≥ 0)) (As x6_0 m8000_0 (NX (x0_0.fdiv (2 ^ (8))) (i64.wrap (x6_0 - 1)) (m8000_0.set x6_0.toNat (u8.wrap x0_0)))) (RET m8000_0)
def Jg (k : Nat) (v w : Int) : Nat → Int → Int → Aj → Option (Aj)
 | 0, _, _, _ => none
 | n + 1, x0_0, x6_0, m8000_0 => Hf (Jg k v w n) some k v w x0_0 x6_0 m8000_0
theorem Xne {β : Type} (k : Nat) (v w : Int) (K : KT β) (n : Nat) : ∀ (x0_0 x6_0 : Int) (m8000_0 : Aj), Vk k v w K n x0_0 x6_0 m8000_0 =
  (Jg k v w n x0_0 x6_0 m8000_0).bind fun r => K (F93_O.put r) := by
 induction n with
 | zero => intros; rfl
 | succ n ih =>
  intro x0_0 x6_0 m8000_0
  refine Eq.trans (b := Hf (Vk k v w K n) (fun r => K (F93_O.put r)) k v w x0_0 x6_0 m8000_0) (by kernel_rfl) ?_
  rw [Jg]
  simp only [Hf, z1, z2, z3, z4, z5, z6, z7, z8, ih]
def Xkk {β : Type} (LP0 : Int → Int → Aj → Option β) (k : Nat) (v w : Int) : Option β := cond (decide (0 ≤ w) && decide (w = w) && decide (w * (1 : Nat) ≤ 140737488355328)) (LP0 v (i64.wrap (w - 1)) (List.replicate w.toNat (Bl (.int .u8)))) none
def F93 (k : Nat) (v w : Int) : Option (Aj) := Xkk (Jg k v w k) k v w
theorem X7i {β : Type} (k : Nat) (v w : Int) (K : KT β) : Ag (Xk6 k) Tryz.f93 (PsT.put Xvq (v, w, ())) K = (F93 k v w).bind fun r => K (F93_O.put r) :=
 Eq.trans (b := Xkk (Vk k v w K k) k v w) (by kernel_rfl) (by simp only [F93, Xkk, z1, z2, z3, z4, z5, z6, z7, z8, Xne])
def Xcs (k : Nat) : FD := ⟨93, Xvq, F93_O, F93 k⟩
theorem Xkn (k : Nat) : (Xcs k).Ok Tryz.prog := ⟨fun x => Aa (Ai .none _ _ _ _) Ah Tryz.func93 rfl rfl (X7i k _ _ some), .of (by kernel_rfl)⟩
abbrev X9m (k : Nat) : Env := A6 Bn Ap .own [] k
abbrev Xqt : List PA := [.one (.nil (.int .u8)), .one mI]
abbrev F163_O : RO := ⟨[.v], [.sl .own (.int .u8)]⟩
def Xt {β : Type} (RET : Aj → Option β) (k : Nat) (v : Aj) (w : Int) : Option β := cond (decide (w < 0)) none (cond (decide ((i64.wrap (w - 0)) > 0)) (cond (decide (0 ≤ 0) && decide (0 ≤ ((0 : Nat) : Int))) (cond (decide (0 < (i64.wrap (w - 0))) && decide ((i64.wrap (w - 0)) * (1 : Nat) ≤ 140737488355328)) (cond (decide (0 ≤ 0) && decide (0 ≤ ((List.replicate ((i64.wrap (w - 0)).toNat) (Bl (.int .u8))).length : Int))) (RET (((List.replicate ((i64.wrap (w - 0)).toNat) (Bl (.int .u8))).take 0).drop 0)) none) none) none) (RET []))
def Xmc := Xt (β := Aj) some
theorem X0b {β : Type} (k : Nat) (v : Aj) (w : Int) (K : KT β) : Ag (X9m k) Tryz.f163 (PsT.put Xqt (v, w, ())) K = (Xmc k v w).bind fun r => K (F163_O.put r) :=
 Eq.trans (b := Xt (fun r => K (F163_O.put r)) k v w) (by kernel_rfl) (by simp only [Xmc, Xt, z1, z2, z3, z4, z5, z6, z7, z8])
def Xw5 (k : Nat) : FD := ⟨163, Xqt, F163_O, Xmc k⟩
theorem X68 (k : Nat) : (Xw5 k).Ok Tryz.prog := ⟨fun x => Aa (Ai .none _ _ _ _) Ah Tryz.func163 rfl rfl (X0b k _ _ some), .of (by kernel_rfl)⟩
def Yjj : Nat → Hint
 | 0 => ⟨pl 0 1 (pl 3 1 (pl 9 3 [])), []⟩
 | 2 => ⟨(6, .own .own (.int .u8) []) :: (pl 25 3 []), []⟩
 | _ => ⟨[], []⟩
abbrev Xd (k : Nat) : Env := A6 (Aw [Xw5 k]) Yjj .own [] k
abbrev Xpj : List PA := [.one (.sl .ro (.sl (.int .u8)))]
abbrev F92_O : RO := ⟨[.v], [.sl .own (.int .u8)]⟩
noncomputable def X6a {β : Type} (k : Nat) (v : Fq) (K : KT β) : Ex → St → Option β := Be (Xd k) Tryz.f92 (PsT.put Xpj (v, ())) K
def Ybz (v : Fq) (x27_2 : Int) (m6900_2 : Aj) : St := ⟨dz 6 ((.one (.a (.cell 6900) 0 0 none)) :: dz 18 ((.one (.s .ro (.sl (.int .u8)) v)) :: (.one (vI (v.length : Int))) :: (.one (vI x27_2)) :: dz 8 [])), [eM 6900 (.s .own (.int .u8) m6900_2)]⟩
noncomputable def S8 {β : Type} (k : Nat) (v : Fq) (K : KT β) (n : Nat) (x27_2 : Int) (m6900_2 : Aj) : Option β := A0 (Xd k) Tryz.f92 [1, 1, 1, 1, 0, 1, 0] 2 (Ad (Xd k) [1, 1, 1, 1, 0, 1, 0] (Ae Tryz.f92) 0 (X6a k v K)) n (Ybz v x27_2 m6900_2)
def Ns {β : Type} (NX : Int → Aj → Option β) (RET : Aj → Option β) (k : Nat) (v : Fq) (x27_2 : Int) (m6900_2 : Aj) : Option β := cond (decide (x27_2 < (v.length : Int))) (As x27_2 v (Bt (m6900_2.length) ((Ac v x27_2).length) 1 (NX (i64.wrap (x27_2 + 1)) (m6900_2 ++ (Ac v x27_2))))) (RET m6900_2)
def Pw (k : Nat) (v : Fq) : Nat → Int → Aj → Option (Aj)
 | 0, _, _ => none
 | n + 1, x27_2, m6900_2 => Ns (Pw k v n) some k v x27_2 m6900_2
theorem Xmm {β : Type} (k : Nat) (v : Fq) (K : KT β) (n : Nat) : ∀ (x27_2 : Int) (m6900_2 : Aj), S8 k v K n x27_2 m6900_2 =
  (Pw k v n x27_2 m6900_2).bind fun r => K (F92_O.put r) := by
 induction n with
 | zero => intros; rfl
 | succ n ih =>
  intro x27_2 m6900_2
  refine Eq.trans (b := Ns (S8 k v K n) (fun r => K (F92_O.put r)) k v x27_2 m6900_2) (by kernel_rfl) ?_
  rw [Pw]
  simp only [Ns, z1, z2, z3, z4, z5, z6, z7, z8, ih]
def Ycv (v : Fq) (x3_0 x11_0 : Int) : St := ⟨(.one (.s .ro (.sl (.int .u8)) v)) :: (.one .d) :: (.one .d) :: (.one (vI x3_0)) :: dz 5 ((.one (.s .ro (.sl (.int .u8)) v)) :: (.one (vI (v.length : Int))) :: (.one (vI x11_0)) :: dz 24 []), []⟩
noncomputable def Ud {β : Type} (k : Nat) (v : Fq) (K : KT β) (n : Nat) (x3_0 x11_0 : Int) : Option β := A0 (Xd k) Tryz.f92 [1, 1, 0, 1, 0] 0 (Ad (Xd k) [1, 1, 0, 1, 0] (Ae Tryz.f92) 0 (X6a k v K)) n (Ycv v x3_0 x11_0)
def N2 {β : Type} (NX : Int → Int → Option β) (LP2 : Int → Aj → Option β) (k : Nat) (v : Fq) (x3_0 x11_0 : Int) : Option β := cond (decide (x11_0 < (v.length : Int))) (As x11_0 v (cond (decide ((i64.wrap (x3_0 + ((Ac v x11_0).length : Int))) < 0)) none (NX (i64.wrap (x3_0 + ((Ac v x11_0).length : Int))) (i64.wrap (x11_0 + 1))))) ((Xmc k [] x3_0).bind fun b1 => LP2 0 b1)
def Qm (k : Nat) (v : Fq) : Nat → Int → Int → Option (Aj)
 | 0, _, _ => none
 | n + 1, x3_0, x11_0 => N2 (Qm k v n) (Pw k v k) k v x3_0 x11_0
theorem Xm1 {β : Type} (k : Nat) (v : Fq) (K : KT β) (n : Nat) : ∀ (x3_0 x11_0 : Int), Ud k v K n x3_0 x11_0 =
  (Qm k v n x3_0 x11_0).bind fun r => K (F92_O.put r) := by
 induction n with
 | zero => intros; rfl
 | succ n ih =>
  intro x3_0 x11_0
  refine Eq.trans (b := N2 (Ud k v K n) (S8 k v K k) k v x3_0 x11_0) (by kernel_rfl) ?_
  rw [Qm]
  simp only [N2, z1, z2, z3, z4, z5, z6, z7, z8, Xmm, ih]
def Xj9 {β : Type} (LP0 : Int → Int → Option β) (k : Nat) (v : Fq) : Option β := LP0 0 0
def F92 (k : Nat) (v : Fq) : Option (Aj) := Xj9 (Qm k v k) k v
theorem Yai {β : Type} (k : Nat) (v : Fq) (K : KT β) : Ag (Xd k) Tryz.f92 (PsT.put Xpj (v, ())) K = (F92 k v).bind fun r => K (F92_O.put r) :=
 Eq.trans (b := Xj9 (Ud k v K k) k v) (by kernel_rfl) (by simp only [F92, Xj9, z1, z2, z3, z4, z5, z6, z7, z8, Xm1])
def Xc3 (k : Nat) : FD := ⟨92, Xpj, F92_O, F92 k⟩
theorem Xj1 (k : Nat) : (Xc3 k).Ok Tryz.prog := ⟨fun x => Aa (Ai (Af (.c (X68 k) .n)) _ _ _ _) Ah Tryz.func92 rfl rfl (Yai k _ some), .of (by kernel_rfl)⟩
abbrev Yi1 (k : Nat) : Env := A6 (Aw [Xcs k, Xc3 k]) Ap .own [] k
abbrev X5x : List PA := [.one mI, .one mI]
abbrev F95_O : RO := ⟨[.v], [.sl .own (.int .u8)]⟩
def Xkv {β : Type} (RET : Aj → Option β) (k : Nat) (v w : Int) : Option β := (F93 k v 2).bind fun b1 => (F93 k w 2).bind fun b2 => (F92 k [b1, b2]).bind fun b3 => RET b3
def F95 := Xkv (β := Aj) some
theorem Ya5 {β : Type} (k : Nat) (v w : Int) (K : KT β) : Ag (Yi1 k) Tryz.f95 (PsT.put X5x (v, w, ())) K = (F95 k v w).bind fun r => K (F95_O.put r) :=
 Eq.trans (b := Xkv (fun r => K (F95_O.put r)) k v w) (by kernel_rfl) (by simp only [F95, Xkv, z1, z2, z3, z4, z5, z6, z7, z8])
def X5z (k : Nat) : FD := ⟨95, X5x, F95_O, F95 k⟩
theorem Yj0 (k : Nat) : (X5z k).Ok Tryz.prog := ⟨fun x => Aa (Ai (Af (.c (Xkn k) (.c (Xj1 k) .n))) _ _ _ _) Ah Tryz.func95 rfl rfl (Ya5 k _ _ some), .of (by kernel_rfl)⟩
def Ycl : Nat → Hint
 | 0 => ⟨pl 3 1 (pl 6 3 []), []⟩
 | _ => ⟨[], []⟩
abbrev Z3 (k : Nat) : Env := A6 Bn Ycl .own [] k
abbrev Xfm : List PA := [.one (.sl .ro (.int .i64))]
abbrev F165_O : RO := ⟨[.v], [mI]⟩
noncomputable def Yav {β : Type} (k : Nat) (v : Bq) (K : KT β) : Ex → St → Option β := Be (Z3 k) Tryz.f165 (PsT.put Xfm (v, ())) K
def Xyr (v : Bq) (x3_0 x8_0 : Int) : St := ⟨dz 3 ((.one (vI x3_0)) :: (.one .d) :: (.one .d) :: (.one (.s .ro (.int .i64) v)) :: (.one (vI (v.length : Int))) :: (.one (vI x8_0)) :: dz 12 []), []⟩
noncomputable def Ri {β : Type} (k : Nat) (v : Bq) (K : KT β) (n : Nat) (x3_0 x8_0 : Int) : Option β := A0 (Z3 k) Tryz.f165 [1, 1, 0, 1, 0] 0 (Ad (Z3 k) [1, 1, 0, 1, 0] (Ae Tryz.f165) 0 (Yav k v K)) n (Xyr v x3_0 x8_0)
def Ev {β : Type} (NX : Int → Int → Option β) (RET : Int → Option β) (k : Nat) (v : Bq) (x3_0 x8_0 : Int) : Option β := cond (decide (x8_0 < (v.length : Int))) (As x8_0 v (cond (decide ((i64.wrap (x3_0 + (Ac v x8_0))) > 65535)) (NX (i64.wrap ((i64.wrap (x3_0 + (Ac v x8_0))) - 65535)) (i64.wrap (x8_0 + 1))) (NX (i64.wrap (x3_0 + (Ac v x8_0))) (i64.wrap (x8_0 + 1))))) (RET x3_0)
def En (k : Nat) (v : Bq) : Nat → Int → Int → Option (Int)
 | 0, _, _ => none
 | n + 1, x3_0, x8_0 => Ev (En k v n) some k v x3_0 x8_0
theorem Xhd {β : Type} (k : Nat) (v : Bq) (K : KT β) (n : Nat) : ∀ (x3_0 x8_0 : Int), Ri k v K n x3_0 x8_0 =
  (En k v n x3_0 x8_0).bind fun r => K (F165_O.put r) := by
 induction n with
 | zero => intros; rfl
 | succ n ih =>
  intro x3_0 x8_0
  refine Eq.trans (b := Ev (Ri k v K n) (fun r => K (F165_O.put r)) k v x3_0 x8_0) (by kernel_rfl) ?_
  rw [En]
  simp only [Ev, z1, z2, z3, z4, z5, z6, z7, z8, ih]
def Xh4 {β : Type} (LP0 : Int → Int → Option β) (k : Nat) (v : Bq) : Option β := LP0 0 0
def Xcg (k : Nat) (v : Bq) : Option (Int) := Xh4 (En k v k) k v
theorem X3h {β : Type} (k : Nat) (v : Bq) (K : KT β) : Ag (Z3 k) Tryz.f165 (PsT.put Xfm (v, ())) K = (Xcg k v).bind fun r => K (F165_O.put r) :=
 Eq.trans (b := Xh4 (Ri k v K k) k v) (by kernel_rfl) (by simp only [Xcg, Xh4, z1, z2, z3, z4, z5, z6, z7, z8, Xhd])
def Xu4 (k : Nat) : FD := ⟨165, Xfm, F165_O, Xcg k⟩
theorem Ygb (k : Nat) : (Xu4 k).Ok Tryz.prog := ⟨fun x => Aa (Ai .none _ _ _ _) Ah Tryz.func165 rfl rfl (X3h k _ some), .of (by kernel_rfl)⟩
def Yj6 : Nat → Hint
 | 0 => ⟨pl 3 1 [], pl 3000 1 []⟩
 | _ => ⟨[], []⟩
abbrev Fp (k : Nat) : Env := A6 (Aw [Xu4 k]) Yj6 .own [] k
abbrev Xve : List PA := [.one (.sl .ro (.int .u8))]
abbrev F94_O : RO := ⟨[.v], [mI]⟩
noncomputable def Wd {β : Type} (k : Nat) (v : Aj) (K : KT β) : Ex → St → Option β := Be (Fp k) Tryz.f94 (PsT.put Xve (v, ())) K
def Q7 (v : Aj) (m3000_0 : Int) : St := ⟨dz 3 ((.one (.ptr (.cell 3000) 1 0)) :: dz 25 []), [iM 3000 m3000_0]⟩
def Fk (k : Nat) (v : Aj) : List Aj → Int → Option (Int)
 | [], m3000_0 => some (i64.wrap (65535 - m3000_0))
 | z0_0 :: r, m3000_0 => cond (decide (0 < (z0_0.length : Int))) (cond (decide ((z0_0.length : Int) > 1)) (cond (decide (1 < (z0_0.length : Int))) ((Xcg k [m3000_0, Di .or .i64 (i64.wrap ((i64.wrap (Ac z0_0 0)) * 2 ^ (8))) (i64.wrap (Ac z0_0 1))]).bind fun b1 => Fk k v r b1) none) ((Xcg k [m3000_0, i64.wrap ((i64.wrap (Ac z0_0 0)) * 2 ^ (8))]).bind fun b2 => Fk k v r b2)) none
theorem Xo9 {β : Type} (k : Nat) (v : Aj) (m3000_0 : Int) (K : KT β) :
  Fj (Fp k) Tryz.f94 [1, 1, 0, 1, 0] 0 8 (Ad (Fp k) [1, 1, 0, 1, 0] (Ae Tryz.f94) 0 (Wd k v K)) ([] : List Aj) (Q7 v m3000_0) =
  K (F94_O.put (i64.wrap (65535 - m3000_0))) := by kernel_rfl
theorem Xo2 {β : Type} (k : Nat) (v : Aj) (z0_0 : Aj) (r : List Aj) (m3000_0 : Int) (K : KT β) :
  Fj (Fp k) Tryz.f94 [1, 1, 0, 1, 0] 0 8 (Ad (Fp k) [1, 1, 0, 1, 0] (Ae Tryz.f94) 0 (Wd k v K)) (z0_0 :: r) (Q7 v m3000_0) =
  cond (decide (0 < (z0_0.length : Int))) (cond (decide ((z0_0.length : Int) > 1)) (cond (decide (1 < (z0_0.length : Int))) ((Xcg k [m3000_0, Di .or .i64 (i64.wrap ((i64.wrap (Ac z0_0 0)) * 2 ^ (8))) (i64.wrap (Ac z0_0 1))]).bind fun b1 => Fj (Fp k) Tryz.f94 [1, 1, 0, 1, 0] 0 8 (Ad (Fp k) [1, 1, 0, 1, 0] (Ae Tryz.f94) 0 (Wd k v K)) r (Q7 v b1)) none) ((Xcg k [m3000_0, i64.wrap ((i64.wrap (Ac z0_0 0)) * 2 ^ (8))]).bind fun b2 => Fj (Fp k) Tryz.f94 [1, 1, 0, 1, 0] 0 8 (Ad (Fp k) [1, 1, 0, 1, 0] (Ae Tryz.f94) 0 (Wd k v K)) r (Q7 v b2))) none := by kernel_rfl
theorem Xmb {β : Type} (k : Nat) (v : Aj) (K : KT β) (l : List Aj) : ∀ (m3000_0 : Int), Fj (Fp k) Tryz.f94 [1, 1, 0, 1, 0] 0 8 (Ad (Fp k) [1, 1, 0, 1, 0] (Ae Tryz.f94) 0 (Wd k v K)) l (Q7 v m3000_0) =
  (Fk k v l m3000_0).bind fun r => K (F94_O.put r) := by
 induction l with
 | nil => intros; rw [Xo9, Fk]; simp only [z1, z2, z3, z4, z5, z6, z7, z8]
 | cons z r ih =>
  intros
  rw [Xo2, Fk]
  simp only [z1, z2, z3, z4, z5, z6, z7, z8, ih]
def F94 (k : Nat) (v : Aj) : Option (Int) := cond (decide (1 ≤ 2) && decide (2 ≤ 9223372036854775807) && decide (v.length ≤ 140737488355328)) (Fk k v (Ca ((2 : Int).toNat) v) 0) none
theorem X8y {β : Type} (k : Nat) (v : Aj) (K : KT β) : Ag (Fp k) Tryz.f94 (PsT.put Xve (v, ())) K = (F94 k v).bind fun r => K (F94_O.put r) :=
 Eq.trans (b := cond (decide (1 ≤ 2) && decide (2 ≤ 9223372036854775807) && decide (v.length ≤ 140737488355328)) (Fj (Fp k) Tryz.f94 [1, 1, 0, 1, 0] 0 8 (Ad (Fp k) [1, 1, 0, 1, 0] (Ae Tryz.f94) 0 (Wd k v K)) (Ca ((2 : Int).toNat) v) (Q7 v 0)) none) (by kernel_rfl) (by simp only [F94, z1, z2, z3, z4, z5, z6, z7, z8, Xmb])
def Xrh (k : Nat) : FD := ⟨94, Xve, F94_O, F94 k⟩
theorem X6j (k : Nat) : (Xrh k).Ok Tryz.prog := ⟨fun x => Aa (Ai (Af (.c (Ygb k) .n)) _ _ _ _) Ah Tryz.func94 rfl rfl (X8y k _ some), .of (by kernel_rfl)⟩
abbrev Yh3 (k : Nat) : Env := { A6 (Aw [Xkz k, Mb k, X5z k, Xc3 k, Xrh k, Xcs k]) Ap .own [] k with frz := [34] }
abbrev X53 : List PA := [.agg (.pair mI (.pair mI Qj)), .one mI]
abbrev F33_O : RO := ⟨[.v], [.sl .own (.int .u8)]⟩
def Xk8 {β : Type} (RET : Aj → Option β) (k : Nat) (v : (den A5)) (w : Int) : Option β := Ff v fun v0 v1 v2 v3 => (F79 k v).bind fun b1 => cond (!b1) (RET []) ((F65 k w).bind fun b2 => cond (!b2) (RET []) (Bt ([u8.wrap v1, u8.wrap v2, u8.wrap (v3.length : Int)].length) (v3.length) 1 ((F95 k v0 w).bind fun b3 => (F92 k [b3, [u8.wrap v1, u8.wrap v2, u8.wrap (v3.length : Int)] ++ v3]).bind fun b4 => (F94 k b4).bind fun b5 => (F93 k b5 2).bind fun b6 => (F92 k [[u8.wrap v1, u8.wrap v2, u8.wrap (v3.length : Int)] ++ v3, b6]).bind fun b7 => RET b7)))
def F33 := Xk8 (β := Aj) some
theorem Yf2 {β : Type} (k : Nat) (v : (den A5)) (w : Int) (K : KT β) : Ag (Yh3 k) Tryz.f33 (PsT.put X53 (v, w, ())) K = (F33 k v w).bind fun r => K (F33_O.put r) :=
 Eq.trans (b := Xk8 (fun r => K (F33_O.put r)) k v w) (by kernel_rfl) (by simp only [F33, Xk8, z1, z2, z3, z4, z5, z6, z7, z8, Ff])
def Xrq (k : Nat) : FD := ⟨33, X53, F33_O, F33 k⟩
theorem X5e (k : Nat) : (Xrq k).Ok Tryz.prog := ⟨fun x => Aa (Ua [34] (Af (.c (Xv1 k) (.c (N0 k) (.c (Yj0 k) (.c (Xj1 k) (.c (X6j k) (.c (Xkn k) .n))))))) _ _ _ _) Ah Tryz.func33 rfl rfl (Yf2 k _ _ some), .of (by kernel_rfl)⟩
abbrev X8t (k : Nat) : Env := A6 (Aw [M0 k]) Ap .own [] k
abbrev Xq5 : List PA := [.agg (.pair mI Da)]
abbrev F214_O : RO := ⟨[.a], [.pair mI m_9]⟩
def Sj (k : Nat) (v : (den Al)) : Option ((den Al)) := A1 v fun v0 v1 v2 v3 v4 v5 v6 v7 v8 => (Pu k v8).bind fun b1 => some (v0, v1, v2, v3, v4, v5, v6, v7, b1)
theorem X2x {β : Type} (k : Nat) (v : (den Al)) (K : KT β) : Ag (X8t k) Tryz.f214 (PsT.put Xq5 (v, ())) K = (Sj k v).bind fun r => K (F214_O.put r) :=
 Eq.trans (b := (Pu k v.2.2.2.2.2.2.2.2).bind fun b1 => K (F214_O.put (v.1, v.2.1, v.2.2.1, v.2.2.2.1, v.2.2.2.2.1, v.2.2.2.2.2.1, v.2.2.2.2.2.2.1, v.2.2.2.2.2.2.2.1, b1))) (by kernel_rfl) (by simp only [Sj, z1, z2, z3, z4, z5, z6, z7, z8, A1])
def Qy (k : Nat) : FD := ⟨214, Xq5, F214_O, Sj k⟩
theorem Va (k : Nat) : (Qy k).Ok Tryz.prog := ⟨fun x => Aa (Ai (Af (.c (Qn k) .n)) _ _ _ _) Ah Tryz.func214 rfl rfl (X2x k _ some), .of (by kernel_rfl)⟩
abbrev Yiq (k : Nat) : Env := A6 (Aw [Mb k, Iv k]) Ap .own [] k
abbrev X6b : List PA := [.agg (.pair mI Da)]
abbrev F89_O : RO := ⟨[.v], [mB]⟩
def Xkq {β : Type} (RET : Bool → Option β) (k : Nat) (v : (den Al)) : Option β := A1 v fun v0 v1 v2 v3 v4 v5 v6 v7 v8 => (F65 k v0).bind fun b1 => cond b1 ((F65 k v1).bind fun b2 => cond b2 ((S6 k v2 0 255).bind fun b3 => cond b3 ((S6 k v3 0 255).bind fun b4 => cond b4 ((S6 k v4 0 255).bind fun b5 => cond b5 ((S6 k v5 0 255).bind fun b6 => cond b6 (cond (decide ((v8.length : Int) ≤ 48)) (cond (!v6) (cond (!v7) (RET true) (cond (v5 == 0) (RET (!v6)) (RET false))) (cond (decide ((v8.length : Int) > 0)) (cond (!v7) (RET true) (cond (v5 == 0) (RET (!v6)) (RET false))) (RET false))) (RET false)) (RET false)) (RET false)) (RET false)) (RET false)) (RET false)) (RET false)
def F89 := Xkq (β := Bool) some
theorem Ycw {β : Type} (k : Nat) (v : (den Al)) (K : KT β) : Ag (Yiq k) Tryz.f89 (PsT.put X6b (v, ())) K = (F89 k v).bind fun r => K (F89_O.put r) :=
 Eq.trans (b := Xkq (fun r => K (F89_O.put r)) k v) (by kernel_rfl) (by simp only [F89, Xkq, z1, z2, z3, z4, z5, z6, z7, z8, A1])
def Xc9 (k : Nat) : FD := ⟨89, X6b, F89_O, F89 k⟩
theorem Xk7 (k : Nat) : (Xc9 k).Ok Tryz.prog := ⟨fun x => Aa (Ai (Af (.c (N0 k) (.c (Je k) .n))) _ _ _ _) Ah Tryz.func89 rfl rfl (Ycw k _ some), .of (by kernel_rfl)⟩
def X9w : Nat → Hint
 | 0 => ⟨pl 7 1 (pl 30 3 []), []⟩
 | _ => ⟨[], []⟩
abbrev Z5 (k : Nat) : Env := A6 (Aw [Iv k]) X9w .own [] k
abbrev Xiy : List PA := [.one (.sl .ro (.int .u8)), .one mI, .one mI]
abbrev F201_O : RO := ⟨[.v], [mI]⟩
noncomputable def X7p {β : Type} (k : Nat) (v : Aj) (w p : Int) (K : KT β) : Ex → St → Option β := Be (Z5 k) Tryz.f201 (PsT.put Xiy (v, w, p, ())) K
def X1w (v : Aj) (w p : Int) (x7_0 x32_0 : Int) : St := ⟨dz 7 ((.one (vI x7_0)) :: dz 22 ((.one (.s .ro (.int .u8) ((v.take ((i64.wrap (w + p)).toNat)).drop w.toNat))) :: (.one (vI (((v.take ((i64.wrap (w + p)).toNat)).drop w.toNat).length : Int))) :: (.one (vI x32_0)) :: dz 10 [])), []⟩
noncomputable def Ro {β : Type} (k : Nat) (v : Aj) (w p : Int) (K : KT β) (n : Nat) (x7_0 x32_0 : Int) : Option β := A0 (Z5 k) Tryz.f201 [1, 1, 1, 0, 1, 0] 0 (Ad (Z5 k) [1, 1, 1, 0, 1, 0] (Ae Tryz.f201) 0 (X7p k v w p K)) n (X1w v w p x7_0 x32_0)
def E3 {β : Type} (NX : Int → Int → Option β) (RET : Int → Option β) (k : Nat) (v : Aj) (w p : Int) (x7_0 x32_0 : Int) : Option β := cond (decide (x32_0 < (((v.take ((i64.wrap (w + p)).toNat)).drop w.toNat).length : Int))) (As x32_0 ((v.take ((i64.wrap (w + p)).toNat)).drop w.toNat) (NX (Di .or .i64 (i64.wrap (x7_0 * 2 ^ (8))) (i64.wrap (Ac ((v.take ((i64.wrap (w + p)).toNat)).drop w.toNat) x32_0))) (i64.wrap (x32_0 + 1)))) (RET x7_0)
def Ga (k : Nat) (v : Aj) (w p : Int) : Nat → Int → Int → Option (Int)
 | 0, _, _ => none
 | n + 1, x7_0, x32_0 => E3 (Ga k v w p n) some k v w p x7_0 x32_0
theorem Xfy {β : Type} (k : Nat) (v : Aj) (w p : Int) (K : KT β) (n : Nat) : ∀ (x7_0 x32_0 : Int), Ro k v w p K n x7_0 x32_0 =
  (Ga k v w p n x7_0 x32_0).bind fun r => K (F201_O.put r) := by
 induction n with
 | zero => intros; rfl
 | succ n ih =>
  intro x7_0 x32_0
  refine Eq.trans (b := E3 (Ro k v w p K n) (fun r => K (F201_O.put r)) k v w p x7_0 x32_0) (by kernel_rfl) ?_
  rw [Ga]
  simp only [E3, z1, z2, z3, z4, z5, z6, z7, z8, ih]
def Z4 {β : Type} (LP0 : Int → Int → Option β) (RET : Int → Option β) (k : Nat) (v : Aj) (w p : Int) : Option β := (S6 k p 1 4).bind fun b1 => cond (!b1) (RET (-1)) (cond (decide (w < 0)) (RET (-1)) (cond (decide (w > (i64.wrap ((v.length : Int) - p)))) (RET (-1)) (cond (decide (0 ≤ (i64.wrap (w + p))) && decide ((i64.wrap (w + p)) ≤ (v.length : Int))) (cond (decide (0 ≤ w) && decide (w ≤ (i64.wrap (w + p)))) (LP0 0 0) none) none)))
def Xo8 (k : Nat) (v : Aj) (w p : Int) : Option (Int) := Z4 (Ga k v w p k) some k v w p
theorem X0r {β : Type} (k : Nat) (v : Aj) (w p : Int) (K : KT β) : Ag (Z5 k) Tryz.f201 (PsT.put Xiy (v, w, p, ())) K = (Xo8 k v w p).bind fun r => K (F201_O.put r) :=
 Eq.trans (b := Z4 (Ro k v w p K k) (fun r => K (F201_O.put r)) k v w p) (by kernel_rfl) (by simp only [Xo8, Z4, z1, z2, z3, z4, z5, z6, z7, z8, Xfy])
def Xub (k : Nat) : FD := ⟨201, Xiy, F201_O, Xo8 k⟩
theorem X9q (k : Nat) : (Xub k).Ok Tryz.prog := ⟨fun x => Aa (Ai (Af (.c (Je k) .n)) _ _ _ _) Ah Tryz.func201 rfl rfl (X0r k _ _ _ some), .of (by kernel_rfl)⟩
end
end Go.Proofs.YtdmepjjepogddaaGreat.Gn
end
