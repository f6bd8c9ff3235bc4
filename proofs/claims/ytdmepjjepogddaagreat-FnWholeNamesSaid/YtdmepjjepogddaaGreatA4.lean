/-
  What the proof of this row needs, part 4: the typed evaluator of the translated code, the functions that the law reaches as plain functions, and what they answer.
-/
import Derived.RangeFuncBox
import Derived.RangeFuncLeaves
import Derived.Shelf.Abstract
import Derived.WalkKit
import Derived.OwnWalkIn
import Derived.TacticsInMore
import Derived.LoopNIn
import Derived.LoopIn
import Derived.Test.YtdmepjjepogddaaGreatChecked
import Derived.KernelRfl
import Derived.RangeFuncNested
import Derived.Shelf.Spec.SlicesInsertGrow
import Derived.Shelf.RegionOpenPlain
import Derived.Deep.LoopGhost
import Derived.Deep.RegionLaw
import Derived.Lib.Walk
import Derived.Lib.SliceRun
import Derived.Lib.SlicesDelete
import Derived.Test.YtdmepjjepogddaaGreatA3
section
namespace Go.Proofs.YtdmepjjepogddaaGreat.It
open Go.RowKit Go.Shelf Go.Rf
attribute [local go_sem] Oper.semAt_some
set_option linter.unusedVariables false
set_option maxRecDepth 100000 in
set_option maxHeartbeats 2000000 in
theorem mk (w : World) (a : Option Addr) (len cap : Nat) (n : Int) (hn : 1 ≤ n) : CallsIn Fence.wide 1 Tryz.prog 164 #[.slice a len cap, .int .i64 n] w fun e w' =>
  e = .returned (.func (.func 229) #[] #[.pointer (some ⟨w.heap.size, 0, none⟩), .pointer (some ⟨w.heap.size + 1, 0, none⟩)]) ∧ w' = (w.alloc (.cells #[.slice a len cap] 23)).alloc (.cells #[.int .i64 n] 3) := by
 have hlt : (decide (n < 1)) = false := decide_eq_false (by omega)
 refine callsIn_of_wp Tryz.func164 rfl trivial ?_ rfl
 simp only [Tryz.ntmps164, List.size_toArray, List.length_cons, List.length_nil, Nat.reduceAdd, Nat.reduceSub, Array.replicate_succ, Array.replicate_zero, List.push_toArray, List.append_toArray, List.nil_append, List.cons_append]
 gi_wp2
 go_ret
 exact ⟨rfl, rfl⟩
set_option maxRecDepth 100000 in
set_option maxHeartbeats 4000000 in
theorem it (lp N : Nat) (a : Option Addr) (len cap b1 b2 : Nat) (J : Nat → World → Prop) (W : World) (hN : 1 ≤ N) (hl : len ≤ 140737488355328) (hN2 : (N : Int) ≤ 9223372036854775807) (hc : len ≤ cap) (ha : a = none → len = 0)
    (hJ : ∀ j W, J j W → W.cell? ⟨b1, 0, none⟩ = some (.slice a len cap) ∧ W.cell? ⟨b2, 0, none⟩ = some (.int .i64 (N : Int))) (hd : ∀ j W, J j W → J j { W with drawn := W.drawn + 1 })
    (hY : ∀ j W, j * N < len → J j W → YieldAt Fence.wide 0 Tryz.prog lp #[.slice (a.map (·.add (j * N * 1))) (min N (len - j * N)) (min N (len - j * N))] W fun e W' => e = .returned (.bool true) ∧ J (j + 1) W') (h0 : J 0 W) :
    CallsIn Fence.wide 1 Tryz.prog 229 #[.func (.yield lp) #[] #[], .pointer (some ⟨b1, 0, none⟩), .pointer (some ⟨b2, 0, none⟩)] W fun e W' => (∃ v, e = .returned v) ∧ J ((len + N - 1) / N) W' := by
  refine callsIn_of_wp Tryz.func229 rfl trivial ?_ rfl
  simp only [Tryz.ntmps229, List.size_toArray, List.length_cons, List.length_nil, Nat.reduceAdd, Nat.reduceSub, Array.replicate_succ, Array.replicate_zero, List.push_toArray, List.append_toArray, List.nil_append, List.cons_append]
  gi_wp2
  gi_loopw [4] (fun i wr => ∃ k : Nat, i = .int .i64 ((k * N : Nat) : Int) ∧ (k = 0 ∨ (k - 1) * N < len) ∧ J k wr) (fun i _ => len + N - (intOf i).toNat)
  case atStart => exact ⟨0, by simp, .inl rfl, h0⟩
  case round =>
    obtain ⟨k, rfl, hk, hJs⟩ := hrel
    obtain ⟨hc1, hc2⟩ := hJ k wr hJs
    by_cases hlt : k * N < len
    · obtain ⟨⟨ab, ao, asp⟩, rfl⟩ : ∃ ad, a = some ad := by
        cases a with
        | none => exact absurd (ha rfl) (by omega)
        | some ad => exact ⟨ad, rfl⟩
      have hkn : ((k : Int) * (N : Int)) < (len : Int) := by exact_mod_cast hlt
      have hkc : ((k : Int) * (N : Int)) ≤ (cap : Int) := by omega
      have hk0 : (0 : Int) ≤ (k : Int) * (N : Int) := by exact_mod_cast Nat.zero_le (k * N)
      gi_wp2
      gi_region
      have hm : (if len - k * N < N then ((len - k * N : Nat) : Int) else ((N : Nat) : Int)) = ((min N (len - k * N) : Nat) : Int) := by split <;> omega
      first | rw [hm] | rw [show min (N : Int) ((len - k * N : Nat) : Int) = ((min N (len - k * N) : Nat) : Int) by omega]
      obtain ⟨hc3, hc4⟩ := hJ k wr.drew (hd k wr hJs)
      obtain ⟨fn, tmps, assign, body, hy, hR⟩ := hY k wr.drew hlt (hd k wr hJs)
      simp only [Option.map_some, Nat.mul_one] at hy
      have he1 : 1 ≤ min N (len - k * N) := by omega
      have he2 : k * N + min N (len - k * N) ≤ len := by omega
      have he3 : min N (len - k * N) ≤ N := by omega
      generalize min N (len - k * N) = e at *
      have he4 : ((k : Int) * (N : Int)) + (e : Int) ≤ (cap : Int) := by have : ((k * N + e : Nat) : Int) ≤ (len : Int) := by exact_mod_cast he2
                                                                         push_cast at this; omega
      gi_wp2
      refine hR.mono ?_
      rintro e' W3 ⟨rfl, hJ3⟩
      obtain ⟨hc5, hc6⟩ := hJ (k + 1) W3 hJ3
      have hk2 : k = 0 ∨ ((k : Int) * (N : Int)) + (N : Int) ≤ 9223372036854775807 := by
        rcases Nat.eq_zero_or_pos k with h | h
        · exact .inl h
        · right
          have : N ≤ k * N := Nat.le_mul_of_pos_left N h
          have : ((k * N : Nat) : Int) + (N : Int) ≤ 9223372036854775807 := by omega
          push_cast at this
          exact this
      have hk3 : ((k : Int) * (N : Int)) + (N : Int) ≤ 9223372036854775807 := by
        rcases hk2 with rfl | h
        · simpa using hN2
        · exact h
      gi_wp2
      go_roundw
      case rel =>
        refine ⟨k + 1, ?_, .inr (by simpa using hlt), hJ3⟩
        congr 1
        rw [Nat.add_mul]
        push_cast
        omega
      case measure =>
        simp [RowKit.intOf]
        have e1 : ((k : Int) * (N : Int)) = ((k * N : Nat) : Int) := by push_cast; rfl
        rw [e1]
        generalize k * N = q at *
        omega
    · have hkn : ¬ ((k : Int) * (N : Int)) < (len : Int) := by exact_mod_cast hlt
      gi_wp2
      go_end0
      refine ⟨⟨_, rfl⟩, ?_⟩
      have : (len + N - 1) / N = k := by
        rcases hk with rfl | hk
        · have : len = 0 := by omega
          subst this
          rw [Nat.zero_add]
          exact Nat.div_eq_of_lt (by omega)
        · have h1 : 1 ≤ k := by
            rcases Nat.eq_zero_or_pos k with rfl | h
            · simp at hk hlt; omega
            · exact h
          obtain ⟨m, rfl⟩ : ∃ m, k = m + 1 := ⟨k - 1, by omega⟩
          rw [Nat.add_sub_cancel] at hk
          have h2 : (m + 1) * N = m * N + N := Nat.succ_mul m N
          rw [h2] at hlt
          refine Nat.div_eq_of_lt_le ?_ ?_
          · rw [h2]; omega
          · rw [Nat.succ_mul, h2]; omega
      rw [this]
      exact hJs
theorem mkOk : ItMk Tryz.prog 164 229 := ⟨FnOk.of (by kernel_rfl), fun w a len cap n hn => Calls.mono (callsIn_wide.1 (mk w a len cap n hn)) fun e w' ⟨h1, h2⟩ => by
 subst h2
 have hs : ((w.alloc (.cells #[.slice a len cap] 23)).alloc (.cells #[.int .i64 n] 3)).heap.size = w.heap.size + 2 := by simp
 have c1 : (w.alloc (.cells #[.slice a len cap] 23)).heap[w.heap.size]? = some (.cells #[.slice a len cap] 23) := World.alloc_heap_new w _
 have c2 : ((w.alloc (.cells #[.slice a len cap] 23)).alloc (.cells #[.int .i64 n] 3)).heap[w.heap.size + 1]? = some (.cells #[.int .i64 n] 3) := by
  have := World.alloc_heap_new (w.alloc (.cells #[.slice a len cap] 23)) (.cells #[.int .i64 n] 3); rwa [World.size_alloc] at this
 have c3 : ((w.alloc (.cells #[.slice a len cap] 23)).alloc (.cells #[.int .i64 n] 3)).heap[w.heap.size]? = some (.cells #[.slice a len cap] 23) := (Below.heap_alloc _ _ _ (by simp)).trans c1
 refine ⟨w.heap.size, w.heap.size + 1, h1, ⟨by omega, by omega⟩, ⟨by omega, by omega⟩, by simp only [cellAt, World.cell?]; rw [c3]; rfl, by simp only [cellAt, World.cell?]; rw [c2]; rfl, fun q hq => (Below.heap_alloc _ _ _ (by simp; omega)).trans (Below.heap_alloc _ _ _ hq), by omega, ⟨rfl, rfl, rfl⟩⟩⟩
theorem itOk : ItOk Tryz.prog 229 (.int .u8) := ⟨FnOk.of (by kernel_rfl), fun lp n a len cap b1 b2 J W hn hl hc ha hJ hd hY h0 => by
 obtain ⟨N, rfl⟩ := Int.eq_ofNat_of_zero_le (show 0 ≤ n by have := hn.1; omega)
 exact it lp N a len cap b1 b2 J W (by have := hn.1; omega) hl hn.2 hc ha hJ hd hY h0⟩
end Go.Proofs.YtdmepjjepogddaaGreat.It
end

section
set_option linter.unusedVariables false
set_option linter.unusedSimpArgs false
namespace Go.Proofs.YtdmepjjepogddaaGreat.Gr
open Go.Rf IntKind
noncomputable section
abbrev Ci : Ty := (.pair (.int .i64) (.pair (.int .i64) (.pair (.int .i64) (.int .i64))))
abbrev Q0 : MT := .pair mI (.pair mI (.pair mI mI))
abbrev Dg {β : Type} (e : (den Ci)) (f : Int → Int → Int → Int → β) : β := f e.1 e.2.1 e.2.2.1 e.2.2.2
def tyT : List (Nat × TyI) := [(3, ⟨(.int .i64), false, 0⟩), (4, ⟨.bool, false, 0⟩), (114, ⟨Ci, true, 0⟩)]
def Xcx : Xku := [(114, [(0, 1, false), (1, 1, false), (2, 1, false), (3, 1, false)])]
def eqT : List Nat := []
def Bd (tab : Tab) (hint : Nat → Hint) (rm : Rf.Mode) (pins : List (Bool × Nat)) (k : Nat) : Env :=
 { tab := tab, lend := (fun _ => []), lent := (fun _ => []), pins := pins, ty := asc tyT, fld := Nc Xcx, pw := fun _ => none, cw := fun _ => [], hint := hint, eqt := B6 eqT, rm := rm, fuel := k }
theorem tyOk : AllT (TyOk Tryz.prog) tyT :=
 ⟨.ofInt (b := 8) (by kernel_rfl) (by kernel_rfl), .ofBool (b := 1) (by kernel_rfl) (by kernel_rfl), .ofAgg (b := 32) (by kernel_rfl) (by kernel_rfl), trivial⟩
theorem fldOk : AllF Tryz.prog Xcx :=
 ⟨⟨⟨by kernel_rfl, by kernel_rfl⟩, ⟨by kernel_rfl, by kernel_rfl⟩, ⟨by kernel_rfl, by kernel_rfl⟩, ⟨by kernel_rfl, by kernel_rfl⟩, trivial⟩, trivial⟩
theorem Ag : Tryz.prog.follows .mixedOrders = true := by kernel_rfl
theorem bldOk : AllT (fun t i => i.agg = true → BldOk Tryz.prog t (Nc Xcx t)) tyT :=
 ⟨nofun, nofun, fun _ => D6 (row := [(0, 1, false), (1, 1, false), (2, 1, false), (3, 1, false)]) rfl (by kernel_rfl) (by kernel_rfl), trivial⟩
theorem eqOkT : AllT (fun t i => B6 eqT t = true → EqOk Tryz.prog t i.ty) tyT :=
 ⟨fun h => absurd h (by decide), fun h => absurd h (by decide), fun h => absurd h (by decide), trivial⟩
theorem Xrg (tab : Tab) (hint : Nat → Hint) (rm : Rf.Mode) (pins : List (Bool × Nat)) (k : Nat) : TysOk Tryz.prog (Bd tab hint rm pins k) :=
 ⟨fun t i h => tyOk.get h, fun s f z h => fldOk.get h, fun t i h => bldOk.get h, fun t i h h2 => eqOkT.get h2 h, fun _ h => by cases h⟩
theorem Aj {tab : Tab} (h : TabFn Tryz.prog tab) (hint : Nat → Hint) (rm : Rf.Mode) (pins : List (Bool × Nat)) (k : Nat) : EnvOk Tryz.prog (Bd tab hint rm pins k) := EnvOk.of (Xrg tab hint rm pins k) h
def Bq : Tab := fun _ _ => none
def Am : Nat → Hint := fun _ => ⟨[], []⟩
abbrev X1t (k : Nat) : Env := Bd Bq Am .own [] k
abbrev Xr1 : List PA := [.agg Q0, .one mI]
abbrev F146_O : RO := ⟨[.v], [mB]⟩
def Xy {β : Type} (RET : Bool → Option β) (k : Nat) (v : (den Ci)) (w : Int) : Option β := Dg v fun v0 v1 _ _ => cond (decide ((i64.wrap (16 - v1)) < 0)) none (cond (decide ((i64.wrap (16 - v1)) < 0)) none (RET ((w.fdiv (2 ^ (min (i64.wrap (16 - v1)).toNat 64))) == (v0.fdiv (2 ^ (min (i64.wrap (16 - v1)).toNat 64))))))
def Xj7 := Xy (β := Bool) some
theorem Xvp {β : Type} (k : Nat) (v : (den Ci)) (w : Int) (K : KT β) : Af (X1t k) Tryz.f146 (PsT.put Xr1 (v, w, ())) K = (Xj7 k v w).bind fun r => K (F146_O.put r) :=
 Eq.trans (b := Xy (fun r => K (F146_O.put r)) k v w) (by kernel_rfl) (by simp only [Xj7, Xy, z1, z2, z3, z4, z5, z6, z7, z8, Dg])
def X7v (k : Nat) : FD := ⟨146, Xr1, F146_O, Xj7 k⟩
theorem X7c (k : Nat) : (X7v k).Ok Tryz.prog := ⟨fun x => Ab (Aj .none _ _ _ _) Ag Tryz.func146 rfl rfl (Xvp k _ _ some), .of (by kernel_rfl)⟩
end
end Go.Proofs.YtdmepjjepogddaaGreat.Gr
end

section
namespace Go.Proofs.YtdmepjjepogddaaGreat.Rt
open Go.RowKit Go.Shelf Go.Rf
attribute [local go_sem] Oper.semAt_some
set_option linter.unusedVariables false
abbrev E : Ty := .pair (.int .i64) (.pair (.int .i64) (.pair (.int .i64) (.int .i64)))
def okB (r : den E) : Bool := decide (0 ≤ (r.2.1 : Int)) && decide ((r.2.1 : Int) ≤ 16)
def Uu (w : Int) (r : den E) : Bool := w.fdiv (2 ^ (16 - r.2.1 : Int).toNat) == (r.1 : Int).fdiv (2 ^ (16 - r.2.1 : Int).toNat)
def B1 (w p : Int) : List (den E) → den E × Bool
 | [] => ((0, 0, 0, 0), false)
 | r :: l => cond (decide ((r.2.1 : Int) < p) && Uu w r) (r, true) (B1 w p l)
def to (v : List (den E)) (w p : Int) : Option (den E × Bool) := cond (v.all okB && decide (v.length ≤ 1000000)) (some (B1 w p v.reverse)) none
set_option maxRecDepth 100000 in
set_option maxHeartbeats 1000000 in
theorem mk (F : Fence) (n : Nat) (hF : F.fn 145) (hro : F.round = none) (w : World) (a : Option Addr) (len cap : Nat) : CallsIn F n Tryz.prog 145 #[.slice a len cap] w fun e w' =>
  e = .returned (.func (.func 223) #[] #[.pointer (some ⟨w.heap.size, 0, none⟩)]) ∧ w' = w.alloc (.cells #[.slice a len cap] 50) := by
 refine callsIn_of_wp Tryz.func145 rfl hF ?_ hro
 simp only [Tryz.ntmps145, List.size_toArray, List.length_cons, List.length_nil, Nat.reduceAdd, Nat.reduceSub, Array.replicate_succ, Array.replicate_zero, List.push_toArray, List.append_toArray, List.nil_append, List.cons_append]
 gi_wp2
 go_ret
 exact ⟨rfl, rfl⟩
def rv (r : den E) : Value := .agg #[.int .i64 r.1, .int .i64 r.2.1, .int .i64 r.2.2.1, .int .i64 r.2.2.2]
def zr : den E := (0, 0, 0, 0)
def Mz {α : Type} (f : Nat → α) (k : Nat) : List α := (List.range k).map f
theorem Vj {α : Type} (f : Nat → α) (k : Nat) : Mz f (k + 1) = Mz f k ++ [f k] := by simp [Mz, List.range_succ]
theorem Xby {α : Type} (f : Nat → α) (k : Nat) : (Mz f k).length = k := by simp [Mz]
def bk (zs : List (den E)) (j : Nat) : Nat × den E := (zs.length - 1 - j, zs[zs.length - 1 - j]?.getD zr)
abbrev RT : Type := { x : Nat × den E // okB x.2 = true }
theorem X9a {zs : List (den E)} (h : zs.all okB = true) (j : Nat) : okB (bk zs j).2 = true := by
 unfold bk
 by_cases hj : zs.length - 1 - j < zs.length
 ·rw [List.getElem?_eq_getElem hj, Option.getD_some]
  exact List.all_eq_true.1 h _ (List.getElem_mem hj)
 ·rw [List.getElem?_eq_none (by omega)]; rfl
def bks (zs : List (den E)) (h : zs.all okB = true) (j : Nat) : RT := ⟨bk zs j, X9a h j⟩
set_option maxRecDepth 100000 in
set_option maxHeartbeats 2000000 in
theorem X88 (F : Fence) (n : Nat) (hF : F.fn 223) (hro : F.round = none) (hn : 1 ≤ n) (l Bs n₀ b off cap : Nat) (zs : List (den E)) (hz : zs.all okB = true) (hreach : zs.length ≤ 1000000) (hcap : zs.length ≤ cap) (hb : b < n₀) (J Jx : List RT → World → Prop)
  (hY : ∀ pre x W, J pre W → pre.length < zs.length → YieldAt F (n - 1) Tryz.prog l #[.int .i64 (x.1.1 : Int), rv x.1.2] W fun e W' =>
   (e = .returned (.bool true) ∧ J (pre ++ [x]) W' ∧ (Below n₀ W W' ∧ W'.cell? ⟨Bs, 0, none⟩ = W.cell? ⟨Bs, 0, none⟩)) ∨ (e = .returned (.bool false) ∧ Jx (pre ++ [x]) W'))
  (W : World) (hBs : W.cell? ⟨Bs, 0, none⟩ = some (.slice (some ⟨b, off, none⟩) zs.length cap))
  (hc : ∀ i, i < zs.length → W.cell? ⟨b, off + i * 4, none⟩ = some (.int .i64 (zs[i]?.getD zr).1) ∧ W.cell? ⟨b, off + i * 4 + 1, none⟩ = some (.int .i64 (zs[i]?.getD zr).2.1) ∧ W.cell? ⟨b, off + i * 4 + 2, none⟩ = some (.int .i64 (zs[i]?.getD zr).2.2.1) ∧ W.cell? ⟨b, off + i * 4 + 3, none⟩ = some (.int .i64 (zs[i]?.getD zr).2.2.2)) (h0 : J [] W) :
  CallsIn F n Tryz.prog 223 #[.func (.yield l) #[] #[], .pointer (some ⟨Bs, 0, none⟩)] W fun e W' => (∃ v, e = .returned v) ∧
   ((∃ ys, ys = Mz (bks zs hz) zs.length ∧ J ys W') ∨ (∃ pre, (∃ k, k ≤ zs.length ∧ pre = Mz (bks zs hz) k) ∧ Jx pre W')) := by
 refine callsIn_of_wp Tryz.func223 rfl hF ?_ hro
 simp only [Tryz.ntmps223, List.size_toArray, List.length_cons, List.length_nil, Nat.reduceAdd, Nat.reduceSub, Array.replicate_succ, Array.replicate_zero, List.push_toArray, List.append_toArray, List.nil_append, List.cons_append]
 gi_wp2
 gi_loopw [3] (fun i wr => ∃ k : Nat, k ≤ zs.length ∧ i = .int .i64 ((zs.length : Int) - 1 - k) ∧ J (Mz (bks zs hz) k) wr ∧ (Below n₀ W wr ∧ wr.cell? ⟨Bs, 0, none⟩ = W.cell? ⟨Bs, 0, none⟩))
  (fun i _ => (RowKit.intOf i + 1).toNat)
 case atStart => exact ⟨0, Nat.zero_le _, by simp, h0, Below.refl _ _, rfl⟩
 case round =>
  obtain ⟨k, hk, rfl, hJs, hnx, hbs⟩ := hrel
  rw [hBs] at hbs
  by_cases hlt : k < zs.length
  ·obtain ⟨fn, tmps, assign, body, hy, hR⟩ := hY _ (bks zs hz k) wr hJs (by rw [Xby]; exact hlt)
   obtain ⟨c0, c1, c2, c3⟩ := hc (zs.length - 1 - k) (by omega)
   have d0 := (hnx.cell (p := ⟨b, off + (zs.length - 1 - k) * 4, none⟩) hb).trans c0
   have d1 := (hnx.cell (p := ⟨b, off + (zs.length - 1 - k) * 4 + 1, none⟩) hb).trans c1
   have d2 := (hnx.cell (p := ⟨b, off + (zs.length - 1 - k) * 4 + 2, none⟩) hb).trans c2
   have d3 := (hnx.cell (p := ⟨b, off + (zs.length - 1 - k) * 4 + 3, none⟩) hb).trans c3
   have e1 : ((zs.length : Int) - 1 - (k : Int)) = ((zs.length - 1 - k : Nat) : Int) := by omega
   rw [e1]
   simp only [bks, bk] at hy
   have hj : zs.length - 1 - k < zs.length := by omega
   generalize hjj : zs.length - 1 - k = j at *
   simp only [rv, List.getElem?_eq_getElem hj, Option.getD_some] at hy
   gi_wp2
   refine hR.mono ?_
   rintro e W3 (⟨rfl, hJ3, hk3, hk4⟩ | ⟨rfl, hJx3⟩)
   ·gi_wp2
    go_roundw
    case rel => exact ⟨k + 1, by omega, by congr 1; omega, by rw [Vj]; exact hJ3, hnx.trans hk3, by rw [hk4, hbs, hBs]⟩
    case measure => simp [RowKit.intOf]
   ·gi_wp2
    refine bodyPost_ret (results_none rfl _ _ _) rfl ?_
    exact ⟨⟨_, rfl⟩, .inr ⟨_, ⟨k + 1, by omega, (Vj _ _).symm⟩, hJx3⟩⟩
  ·obtain rfl : k = zs.length := by omega
   gi_wp2
   go_end0
   exact ⟨⟨_, rfl⟩, .inl ⟨_, rfl, hJs⟩⟩
set_option maxRecDepth 100000 in
set_option maxHeartbeats 1000000 in
theorem X8n (F : Fence) (n : Nat) (hF : F.fn 223) (hro : F.round = none) (l Bs cap : Nat) (ad : Option Addr) (J : List RT → World → Prop) (W : World) (hBs : W.cell? ⟨Bs, 0, none⟩ = some (.slice ad 0 cap)) (h0 : J [] W) :
  CallsIn F n Tryz.prog 223 #[.func (.yield l) #[] #[], .pointer (some ⟨Bs, 0, none⟩)] W fun e W' => (∃ v, e = .returned v) ∧ J [] W' := by
 refine callsIn_of_wp Tryz.func223 rfl hF ?_ hro
 simp only [Tryz.ntmps223, List.size_toArray, List.length_cons, List.length_nil, Nat.reduceAdd, Nat.reduceSub, Array.replicate_succ, Array.replicate_zero, List.push_toArray, List.append_toArray, List.nil_append, List.cons_append]
 gi_wp2
 gi_loopw [3] (fun i wr => i = .int .i64 (-1) ∧ J [] wr) (fun _ _ => 0)
 case atStart => exact ⟨rfl, h0⟩
 case round =>
  obtain ⟨rfl, hJs⟩ := hrel
  gi_wp2
  go_end0
  exact ⟨⟨_, rfl⟩, hJs⟩
def Rts (n₀ : Nat) (W : World) (sv : Value) (zs : List (den E)) : Prop :=
 (∃ ad c, sv = .slice ad 0 c ∧ zs = []) ∨ ∃ b off cap, sv = .slice (some ⟨b, off, none⟩) zs.length cap ∧ zs.length ≤ cap ∧ b < n₀ ∧
  ∀ i, i < zs.length → W.cell? ⟨b, off + i * 4, none⟩ = some (.int .i64 (zs[i]?.getD zr).1) ∧ W.cell? ⟨b, off + i * 4 + 1, none⟩ = some (.int .i64 (zs[i]?.getD zr).2.1) ∧ W.cell? ⟨b, off + i * 4 + 2, none⟩ = some (.int .i64 (zs[i]?.getD zr).2.2.1) ∧ W.cell? ⟨b, off + i * 4 + 3, none⟩ = some (.int .i64 (zs[i]?.getD zr).2.2.2)
theorem Rts.below {n₀ : Nat} {A B : World} (h : Below n₀ A B) {sv : Value} {zs : List (den E)} : Rts n₀ A sv zs → Rts n₀ B sv zs
 | .inl e => .inl e
 | .inr ⟨b, off, cap, e, hl, hb, hc⟩ => .inr ⟨b, off, cap, e, hl, hb, fun i hi => by
  obtain ⟨c0, c1, c2, c3⟩ := hc i hi
  exact ⟨(h.cell (p := ⟨b, _, none⟩) hb).trans c0, (h.cell (p := ⟨b, _, none⟩) hb).trans c1, (h.cell (p := ⟨b, _, none⟩) hb).trans c2, (h.cell (p := ⟨b, _, none⟩) hb).trans c3⟩⟩
def KP (n₀ Bs : Nat) (A B : World) : Prop := Below n₀ A B ∧ B.cell? ⟨Bs, 0, none⟩ = A.cell? ⟨Bs, 0, none⟩
theorem KP.t {n₀ Bs : Nat} {A B C : World} (h : KP n₀ Bs A B) (k : KP n₀ Bs B C) : KP n₀ Bs A C := ⟨h.1.trans k.1, k.2.trans h.2⟩
theorem Xr8 {W : World} {l q : Nat} {o' : Obj} (h : q ≠ l) : (W.putObj l o').cell? ⟨q, 0, none⟩ = W.cell? ⟨q, 0, none⟩ := by
 simp only [World.cell?, World.putObj_heap_other h]
theorem KP.b {n₀ Bs : Nat} {w : World} (hn : n₀ ≤ w.heap.size) (hB : Bs < w.heap.size) (W : World) (l : Nat) (o o' : Obj) (hl : w.heap.size ≤ l) (h : W.heap[l]? = some o) (h1 : o.isCells = false) (h2 : o.isWalk = false) : KP n₀ Bs W (W.putObj l o') :=
 ⟨belowK_b hn W l o o' hl h h1 h2, Xr8 (by omega)⟩
theorem stops (F : Fence) (n : Nat) (hF : F.fn 223) (hro : F.round = none) (hn : 1 ≤ n) (Bs n₀ : Nat) (sv : Value) (zs : List (den E)) (hz : zs.all okB = true) (hreach : zs.length ≤ 1000000) (w : World) (hBs : Bs < w.heap.size) (hn₀ : n₀ ≤ w.heap.size)
  (hc : w.cell? ⟨Bs, 0, none⟩ = some sv) (hI : Rts n₀ w sv zs) :
  SeqStopsK F n Tryz.prog 223 #[.pointer (some ⟨Bs, 0, none⟩)] (fun x : RT => #[Value.int .i64 (x.1.1 : Int), rv x.1.2]) (KP n₀ Bs) (fun ys => ys = Mz (bks zs hz) zs.length)
   (fun pre => ∃ k, k ≤ zs.length ∧ pre = Mz (bks zs hz) k) zs.length w := fun l J Jx W hW _ _ hY h0 => by
 have hc' := (hW.cell (p := ⟨Bs, 0, none⟩) hBs).trans hc
 rcases hI.below (hW.mono hn₀) with ⟨ad, c, rfl, rfl⟩ | ⟨b, off, cap, rfl, hl, hb, hcs⟩
 ·exact (X8n F n hF hro l Bs c ad J W hc' h0).mono fun e W' ⟨he, hj⟩ => ⟨he, .inl ⟨_, rfl, hj⟩⟩
 ·exact X88 F n hF hro hn l Bs n₀ b off cap zs hz hreach hl hb J Jx hY W hc' hcs h0
theorem c146 (r : den E) (w : Int) : Contract Tryz.prog 146 [.agg [.l (.v (.int .i64 r.1)), .l (.v (.int .i64 r.2.1)), .l (.v (.int .i64 r.2.2.1)), .l (.v (.int .i64 r.2.2.2))], .one (.l (.v (.int .i64 w)))] ⟨Gr.Xj7 0 r w, fun b => (.one (.v (.bool b)), [])⟩ := (Gr.X7c 0).con (r, w, ())
theorem L2 (F : Fence) (hF : Fw F) (n : Nat) (r : den E) (w : Int) (hr : okB r = true) (W : World) : CallsIn F n Tryz.prog 146 #[rv r, .int .i64 w] W fun e W' => e = .returned (.bool (Uu w r)) ∧ Below W.heap.size W W' := by
 obtain ⟨r0, r1, r2, r3⟩ := r
 simp only [okB, Bool.and_eq_true, decide_eq_true_eq] at hr
 obtain ⟨q0, q1⟩ := hr
 have q0 : @LE.le Int _ 0 r1 := q0
 have q1 : @LE.le Int _ r1 16 := q1
 have hF146 : Gr.Xj7 0 (r0, r1, r2, r3) w = some (Uu w (r0, r1, r2, r3)) := by
  unfold Gr.Xj7 Gr.Xy Uu
  dsimp only [Gr.Dg]
  have e : IntKind.i64.wrap (16 - r1) = 16 - r1 := by rw [IntKind.wrap_i64]; omega
  rw [e, decide_eq_false (by omega), cond_false, cond_false, Nat.min_eq_left (by omega)]
 have c := c146 (r0, r1, r2, r3) w W (fun _ => False) [rv (r0, r1, r2, r3), .int .i64 w] [[], []]
  ⟨⟨[.int .i64 r0, .int .i64 r1, .int .i64 r2, .int .i64 r3], [[], [], [], []], rfl, ⟨⟨rfl, rfl⟩, ⟨rfl, rfl⟩, ⟨rfl, rfl⟩, ⟨rfl, rfl⟩, trivial⟩, rfl⟩, ⟨rfl, rfl⟩, trivial⟩
  (by simp) (by simp) (fun _ h => h.elim) (List.nodup_nil (α := Nat × Nat)) (fun a ha => by cases ha) (Uu w (r0, r1, r2, r3)) hF146
 have c2 : Calls Tryz.prog 146 #[rv (r0, r1, r2, r3), .int .i64 w] W fun e W' => e = .returned (.bool (Uu w (r0, r1, r2, r3))) ∧ Below W.heap.size W W' := by
  refine Calls.mono c ?_
  rintro e W' ⟨v, rfl, hP⟩
  obtain ⟨S', bs, bbs, h1, _⟩ := hP.ex
  obtain ⟨rfl, _⟩ := (h1 : v = .bool (Uu w (r0, r1, r2, r3)) ∧ bs = [])
  refine ⟨rfl, hP.io.os, hP.io.tape, hP.io.output, hP.sz, fun q hq => ?_⟩
  exact (hP.frm q hq (by simp)).eq fun o ho => by cases ho
 exact hF.calls c2
def Row4 (W : World) (B : Nat) (r : den E) : Prop := W.heap[B]? = some (.cells #[.int .i64 r.1, .int .i64 r.2.1, .int .i64 r.2.2.1, .int .i64 r.2.2.2] 114 (0, 0))
theorem Row4.lt {W : World} {B : Nat} {r : den E} (h : Row4 W B r) : B < W.heap.size := (Array.getElem?_eq_some_iff.1 h).1
theorem Row4.c {W : World} {B : Nat} {r : den E} (h : Row4 W B r) : W.cell? ⟨B, 0, none⟩ = some (.int .i64 r.1) ∧ W.cell? ⟨B, 1, none⟩ = some (.int .i64 r.2.1) ∧ W.cell? ⟨B, 2, none⟩ = some (.int .i64 r.2.2.1) ∧ W.cell? ⟨B, 3, none⟩ = some (.int .i64 r.2.2.2) := by
 unfold Row4 at h
 simp [World.cell?, h]
theorem Row4.f {W : World} {B : Nat} {r : den E} (h : Row4 W B r) : W.frozen? ⟨B, 0, none⟩ = false ∧ W.frozen? ⟨B, 1, none⟩ = false ∧ W.frozen? ⟨B, 2, none⟩ = false ∧ W.frozen? ⟨B, 3, none⟩ = false := by
 unfold Row4 at h
 simp [World.frozen?, h]
theorem Vh (w p : Int) : ∀ (l : List (den E)), (∀ r ∈ l, (decide ((r.2.1 : Int) < p) && Uu w r) = false) → B1 w p l = ((0, 0, 0, 0), false)
 | [], _ => rfl
 | r :: l, h => by
  rw [B1, h r List.mem_cons_self, cond_false]
  exact Vh w p l fun x hx => h x (List.mem_cons_of_mem _ hx)
theorem Vv (w p : Int) (r : den E) (b : List (den E)) (hr : (decide ((r.2.1 : Int) < p) && Uu w r) = true) : ∀ (a : List (den E)), (∀ r ∈ a, (decide ((r.2.1 : Int) < p) && Uu w r) = false) → B1 w p (a ++ r :: b) = (r, true)
 | [], _ => by rw [List.nil_append, B1, hr]; rfl
 | x :: a, h => by
  rw [List.cons_append, B1, h x List.mem_cons_self, cond_false]
  exact Vv w p r b hr a fun y hy => h y (List.mem_cons_of_mem _ hy)
theorem Xav (v : List (den E)) (hz : v.all okB = true) (k : Nat) (hk : k ≤ v.length) : (Mz (bks v hz) k).map (fun x => x.1.2) = v.reverse.take k := by
 apply List.ext_getElem
 ·simp [Mz]; omega
 ·intro i h1 h2
  have hi : i < k := by simpa [Mz] using h1
  simp only [Mz, List.map_map, List.getElem_map, List.getElem_range, Function.comp_apply, bks, bk, List.getElem_take, List.getElem_reverse]
  rw [List.getElem?_eq_getElem (by omega), Option.getD_some]
theorem J2 {W : World} {B : Nat} {cs : Array Value} {te : TypeId} {fr : Nat × Nat} (h : W.heap[B]? = some (.cells cs te fr)) (o : Nat) (v : Value) : (W.setCell ⟨B, o, none⟩ v).heap[B]? = some (.cells (cs.setIfInBounds o v) te fr) := by
 show (W.heap.modify B _)[B]? = _
 rw [Array.getElem?_modify, if_pos rfl, h]
 rfl
theorem Row4.set {W : World} {B : Nat} {r : den E} (h : Row4 W B r) (r' : den E) : Row4 ((((W.setCell ⟨B, 0, none⟩ (.int .i64 r'.1)).setCell ⟨B, 1, none⟩ (.int .i64 r'.2.1)).setCell ⟨B, 2, none⟩ (.int .i64 r'.2.2.1)).setCell ⟨B, 3, none⟩ (.int .i64 r'.2.2.2)) B r' := by
 have := J2 (J2 (J2 (J2 h 0 (.int .i64 r'.1)) 1 (.int .i64 r'.2.1)) 2 (.int .i64 r'.2.2.1)) 3 (.int .i64 r'.2.2.2)
 simpa [Row4] using this
structure Inv (A : Nat) (w p : Int) (W : World) (sv : Value) (X : World) : Prop where
 b0 : Boxed X A 3 (.int .i64 w)
 b1 : Boxed X (A + 1) 3 (.int .i64 p)
 b2 : ∃ r, Row4 X (A + 1 + 1) r
 b3 : ∃ c, Boxed X (A + 1 + 1 + 1) 4 (.bool c)
 b4 : Boxed X (A + 1 + 1 + 1 + 1) 50 sv
 bel : Below A W X
theorem Inv.heap {A : Nat} {w p : Int} {W : World} {sv : Value} {X Y : World} (h : Inv A w p W sv X) (hs : ∀ k, A ≤ k → k < A + 5 → Y.heap[k]? = X.heap[k]?) (hb : Below A W Y) : Inv A w p W sv Y :=
 ⟨(hs _ (by omega) (by omega)).trans h.b0, (hs _ (by omega) (by omega)).trans h.b1, h.b2.imp fun _ h => (hs _ (by omega) (by omega)).trans h, h.b3.imp fun _ h => (hs _ (by omega) (by omega)).trans h, (hs _ (by omega) (by omega)).trans h.b4, hb⟩
theorem Inv.lt {A : Nat} {w p : Int} {W : World} {sv : Value} {X : World} (h : Inv A w p W sv X) : A + 5 ≤ X.heap.size := by have := h.b4.lt; omega
theorem Inv.own {A : Nat} {w p : Int} {W : World} {sv : Value} (hA : A ≤ W.heap.size) {β : Type} (B : Nat) (hB : A + 5 ≤ B) : OwnFrom B (fun (_ : β) X => Inv A w p W sv X) := fun s X Y row hs hg hr =>
 hs.heap (fun k _ hk => hg.block k (by have := hs.lt; omega) (fun e => by have := (hr k e.symm).1; omega)) (hs.bel.grown hg (by have := hs.lt; omega) (fun k e => by have := (hr k e).1; omega))
theorem Inv.alloc {A : Nat} {w p : Int} {W : World} {sv : Value} {X : World} (h : Inv A w p W sv X) (o : Obj) : Inv A w p W sv (X.alloc o) :=
 h.heap (fun k _ hk => Below.heap_alloc _ _ _ (by have := h.lt; omega)) (h.bel.trans ((Below.refl A X).alloc (by have := h.lt; omega) o))
theorem Inv.call {A : Nat} {w p : Int} {W : World} {sv : Value} {X Y : World} (h : Inv A w p W sv X) (hB : Below X.heap.size X Y) : Inv A w p W sv Y :=
 h.heap (fun k _ hk => hB.block k (by have := h.lt; omega)) (h.bel.trans (hB.mono (by have := h.lt; omega)))
set_option maxRecDepth 100000 in
set_option maxHeartbeats 4000000 in
theorem X8y (v : List (den E)) (hv : v.length ≤ 1000000) (hok : v.all okB = true) (sv : Value) (w p : Int) (ad : Option Addr) (cap : Nat) (hsv : sv = .slice ad v.length cap) (W : World) (hI : Rts W.heap.size W sv v) :
  CallsIn Fence.wide 3 Tryz.prog 74 #[sv, .int .i64 w, .int .i64 p] W fun e W' => e = .returned (.tuple #[rv (B1 w p v.reverse).1, .bool (B1 w p v.reverse).2]) ∧ Below W.heap.size W W' := by
 subst hsv
 have h1 : 1 ≤ 3 := by omega
 refine callsIn_of_wp_marks Tryz.func74 rfl trivial ?_ rfl
 simp only [Tryz.ntmps74, List.size_toArray, List.length_cons, List.length_nil, Nat.reduceAdd, Nat.reduceSub, Array.replicate_succ, Array.replicate_zero, List.push_toArray, List.append_toArray, List.nil_append, List.cons_append]
 gi_wp2
 refine ⟨trivial, (mk Fence.wide 2 trivial rfl _ _ _ _).mono ?_⟩
 rintro e w' ⟨rfl, rfl⟩
 dsimp only
 gi_wp2
 have hIw := hI
 obtain ⟨w1, hw1⟩ : ∃ w1, (((((W.alloc (Obj.cells #[Value.int IntKind.i64 w] 3)).alloc (Obj.cells #[Value.int IntKind.i64 p] 3)).alloc (Obj.cells #[Value.int IntKind.i64 0, Value.int IntKind.i64 0, Value.int IntKind.i64 0, Value.int IntKind.i64 0] 114)).alloc (Obj.cells #[Value.bool false] 4)).alloc (Obj.cells #[Value.slice ad v.length cap] 50)) = w1 := ⟨_, rfl⟩
 have b0 := Boxed.new W 3 (.int .i64 w)
 have b1 := Boxed.new (W.alloc (Obj.cells #[Value.int IntKind.i64 w] 3)) 3 (.int .i64 p)
 have b2 : Row4 (((W.alloc (Obj.cells #[Value.int IntKind.i64 w] 3)).alloc (Obj.cells #[Value.int IntKind.i64 p] 3)).alloc (Obj.cells #[Value.int IntKind.i64 0, Value.int IntKind.i64 0, Value.int IntKind.i64 0, Value.int IntKind.i64 0] 114)) _ zr := World.alloc_heap_new _ _
 have b3 := Boxed.new (((W.alloc (Obj.cells #[Value.int IntKind.i64 w] 3)).alloc (Obj.cells #[Value.int IntKind.i64 p] 3)).alloc (Obj.cells #[Value.int IntKind.i64 0, Value.int IntKind.i64 0, Value.int IntKind.i64 0, Value.int IntKind.i64 0] 114)) 4 (.bool false)
 have b4 := Boxed.new ((((W.alloc (Obj.cells #[Value.int IntKind.i64 w] 3)).alloc (Obj.cells #[Value.int IntKind.i64 p] 3)).alloc (Obj.cells #[Value.int IntKind.i64 0, Value.int IntKind.i64 0, Value.int IntKind.i64 0, Value.int IntKind.i64 0] 114)).alloc (Obj.cells #[Value.bool false] 4)) 50 (.slice ad v.length cap)
 simp only [World.size_alloc] at b1 b2 b3 b4
 have hB0 : Below W.heap.size W w1 := by
  rw [← hw1]
  exact ((((((Below.refl _ W).alloc (Nat.le_refl _) _).alloc (by simp) _).alloc (by simp; omega) _).alloc (by simp; omega) _).alloc (by simp; omega) _)
 have hs1 : w1.heap.size = W.heap.size + 5 := by rw [← hw1]; simp
 have c0 := (((b0.alloc (Obj.cells #[Value.int IntKind.i64 p] 3)).alloc (Obj.cells #[Value.int IntKind.i64 0, Value.int IntKind.i64 0, Value.int IntKind.i64 0, Value.int IntKind.i64 0] 114)).alloc (Obj.cells #[Value.bool false] 4)).alloc (Obj.cells #[Value.slice ad v.length cap] 50)
 have c1 := ((b1.alloc (Obj.cells #[Value.int IntKind.i64 0, Value.int IntKind.i64 0, Value.int IntKind.i64 0, Value.int IntKind.i64 0] 114)).alloc (Obj.cells #[Value.bool false] 4)).alloc (Obj.cells #[Value.slice ad v.length cap] 50)
 have c3 := b3.alloc (Obj.cells #[Value.slice ad v.length cap] 50)
 have c2 : Row4 w1 (W.heap.size + 1 + 1) zr := by
  rw [← hw1]
  exact (Below.heap_alloc _ _ _ (by simp)).trans ((Below.heap_alloc _ _ _ (by simp)).trans b2)
 rw [hw1] at c0 c1 c3 b4
 rw [hw1]
 simp only [World.size_alloc]
 clear hw1 b0 b1 b2 b3 hI
 generalize hA : W.heap.size = A at *
 have O5 : ∀ {r : den E} {c : Bool} {D : Nat} {Y : World} {t8 t9 t12 t13 t14 t15 t16 t17 t18 t19 t20 t21 t22 t23 t24 : Value}, B1 w p v.reverse = (r, c) → A + 5 ≤ D → Row4 Y (A + 1 + 1) r → Boxed Y (A + 1 + 1 + 1) 4 (.bool c) → Y.heap[D]? = some (.deferred (some [])) → Below W.heap.size W Y →
   bodyPostM Fence.wide 3 Tryz.prog Tryz.f74 (fun e W' => e = .returned (.tuple #[rv (B1 w p v.reverse).1, .bool (B1 w p v.reverse).2]) ∧ Below W.heap.size W W') .ret
    { tmps := #[.slice ad v.length cap, .int .i64 w, .int .i64 p, undef, .pointer (some ⟨A, 0, none⟩), .pointer (some ⟨A + 1, 0, none⟩), .pointer (some ⟨A + 1 + 1, 0, none⟩), .pointer (some ⟨A + 1 + 1 + 1, 0, none⟩), t8, t9, .slice ad v.length cap, .func (.func 223) #[] #[.pointer (some ⟨A + 1 + 1 + 1 + 1, 0, none⟩)], t12, t13, t14, t15, t16, t17, t18, t19, t20, t21, t22, t23, t24], defers := [{ target := .collected D, args := #[] }] } Y := by
  intro r c D Y t8 t9 t12 t13 t14 t15 t16 t17 t18 t19 t20 t21 t22 t23 t24 hf hD h4 h3 hK hb
  rw [hf]
  refine ⟨by simp, .inl ⟨_, _, rfl, run_takeDeferred hK, ?_⟩⟩
  have r4 : Row4 (Y.putObj D (.deferred none)) (A + 1 + 1) r := (World.putObj_heap_other (by omega)).trans h4
  have r3 : Boxed (Y.putObj D (.deferred none)) (A + 1 + 1 + 1) 4 (.bool c) := (World.putObj_heap_other (by omega)).trans h3
  obtain ⟨q0, q1, q2, q3⟩ := r4.c
  have q4 := r3.cell
  refine ⟨.tuple #[rv r, .bool c], ?_, rfl, hb.trans (belowK_b (w := W) (Nat.le_refl _) Y D _ _ (by omega) hK rfl rfl)⟩
  simp [results, Tryz.f74, go_sem, q0, q1, q2, q3, q4, rv]
 refine wpIn_rangeFunc_ownH rfl h1 (gf := 223) (lb := #[.pointer (some ⟨A + 1 + 1 + 1 + 1, 0, none⟩)]) rfl trivial (enters_of Tryz.func223 (by kernel_rfl) rfl)
  (stops Fence.wide 2 trivial rfl (by omega) (A + 1 + 1 + 1 + 1) A (.slice ad v.length cap) v hok hv w1 (by omega) (by omega) b4.cell (hIw.below hB0)) KP.t (KP.b (by omega) (by omega)) (Below.refl _ _) (fun _ => rfl)
  (fun pre X => (∀ x ∈ pre, (decide ((x.1.2.2.1 : Int) < p) && Uu w x.1.2) = false) ∧ Inv A w p W (.slice ad v.length cap) X)
  (fun c pre X => c = .ret ∧ ∃ ini last, pre = ini ++ [last] ∧ (∀ x ∈ ini, (decide ((x.1.2.2.1 : Int) < p) && Uu w x.1.2) = false) ∧ (decide ((last.1.2.2.1 : Int) < p) && Uu w last.1.2) = true ∧ Row4 X (A + 1 + 1) last.1.2 ∧ Boxed X (A + 1 + 1 + 1) 4 (.bool true) ∧ Below A W X)
  ?ownI ?ownX ?h0
  (fun x a' X => ∃ R, A + 5 ≤ R ∧ Row4 X R x.1.2 ∧ a' = { tmps := #[.slice ad v.length cap, .int .i64 w, .int .i64 p, undef, .pointer (some ⟨A, 0, none⟩), .pointer (some ⟨A + 1, 0, none⟩), .pointer (some ⟨A + 1 + 1, 0, none⟩), .pointer (some ⟨A + 1 + 1 + 1, 0, none⟩), undef, .pointer (some ⟨R, 0, none⟩), .slice ad v.length cap, .func (.func 223) #[] #[.pointer (some ⟨A + 1 + 1 + 1 + 1, 0, none⟩)], .int .i64 (x.1.1 : Int), rv x.1.2, undef, undef, undef, undef, undef, undef, undef, undef, undef, undef, undef], defers := [] }) ?ownA ?assign ?body ?done ?stop
 case ownI => exact OwnFrom.and (ownFrom_pure _ _) (Inv.own (by omega) _ (by omega))
 case ownX =>
  intro c s X Y row ⟨h0, ini, last, h1, h2, h3, h4, h5, h6⟩ hg hr
  have l4 := h4.lt
  have l5 := h5.lt
  exact ⟨h0, ini, last, h1, h2, h3, (hg.block _ l4 (fun e => by have := (hr _ e.symm).1; omega)).trans h4, (hg.block _ l5 (fun e => by have := (hr _ e.symm).1; omega)).trans h5, h6.grown hg (by omega) (fun k e => by have := (hr k e).1; omega)⟩
 case h0 => exact ⟨by simp, c0, c1, ⟨_, c2⟩, ⟨_, c3⟩, b4, hB0⟩
 case ownA =>
  intro x a' s X Y row ⟨R, h1, h2, h3⟩ hg hr
  have l2 := h2.lt
  refine ⟨R, h1, (hg.block _ l2 (fun e => ?_)).trans h2, h3⟩
  obtain ⟨_, o, h4, h5⟩ := hr _ e.symm
  rw [show X.heap[R]? = _ from h2] at h4
  cases h4; cases h5
 case assign =>
  intro l pre x X K ⟨hX0, hX⟩ hK
  simp only [rv]
  gi_wp2
  have hl := hX.lt
  refine hK _ _ (KeepsFrom.of_grownBy (World.grownBy_alloc X _ none) (fun j e => by cases e)) ⟨(Below.refl A X).alloc (by omega) _, ?_⟩ ⟨hX0, hX.alloc _⟩ ⟨X.heap.size, hl, World.alloc_heap_new X _, rfl⟩
  rw [(hX.alloc _).b4.cell, hX.b4.cell]
 case body =>
  rintro l pre x a' X hl hr ⟨i0, hX⟩ ⟨R, hR, hRr, rfl⟩ hlen
  obtain ⟨d0, d1, d2, d3⟩ := hRr.c
  have k1 := hX.b0.cell
  have k2 := hX.b1.cell
  have hlX := hX.lt
  have hRX := hRr.lt
  have stay : ∀ {Y : World} (a' : Act), Below X.heap.size X Y → (decide ((x.1.2.2.1 : Int) < p) && Uu w x.1.2) = false → ownPostG w1.heap.size (KP A (A + 1 + 1 + 1 + 1)) (fun pre X => (∀ x ∈ pre, (decide ((x.1.2.2.1 : Int) < p) && Uu w x.1.2) = false) ∧ Inv A w p W (.slice ad v.length cap) X) (fun c pre X => c = .ret ∧ ∃ ini last, pre = ini ++ [last] ∧ (∀ x ∈ ini, (decide ((x.1.2.2.1 : Int) < p) && Uu w x.1.2) = false) ∧ (decide ((last.1.2.2.1 : Int) < p) && Uu w last.1.2) = true ∧ Row4 X (A + 1 + 1) last.1.2 ∧ Boxed X (A + 1 + 1 + 1) 4 (.bool true) ∧ Below A W X) (pre ++ [x]) X .normal a' Y := fun {Y} a' hB hc =>
   ⟨⟨hB.size, fun k o _ h0 _ => (hB.block k (Array.getElem?_eq_some_iff.1 h0).1).trans h0⟩, ⟨hB.mono (by omega), by rw [(hX.call hB).b4.cell, hX.b4.cell]⟩, fun y hy => (List.mem_append.1 hy).elim (i0 y) (fun e => by rw [List.mem_singleton.1 e]; exact hc), hX.call hB⟩
  simp only [rv]
  gi_wp2
  ·refine ⟨trivial, (L2 _ (.inr ⟨l, rfl⟩) 0 x.1.2 w x.2 X).mono ?_⟩
   rintro e w' ⟨rfl, hB⟩
   dsimp only
   have hRr' : Row4 w' R x.1.2 := (hB.block _ hRX).trans hRr
   obtain ⟨e0, e1, e2, e3⟩ := hRr'.c
   have hX' := hX.call hB
   obtain ⟨r0, hr0⟩ := hX'.b2
   obtain ⟨f0, f1, f2, f3⟩ := hr0.c
   obtain ⟨g0, g1, g2, g3⟩ := hr0.f
   obtain ⟨cb, hcb⟩ := hX'.b3
   have m0 := hcb.cell
   have m1 := hcb.frozen
   cases hf : Uu w x.1.2 with
   | false =>
    gi_wp2
    exact stay _ hB (by rw [hf, Bool.and_false])
   | true =>
    gi_wp2
    rename_i hlt
    have h5 := hr0.set x.1.2
    have nb : ∀ (q : Nat), q ≠ A + 1 + 1 → ((((w'.setCell ⟨A + 1 + 1, 0, none⟩ (.int .i64 x.1.2.1)).setCell ⟨A + 1 + 1, 1, none⟩ (.int .i64 x.1.2.2.1)).setCell ⟨A + 1 + 1, 2, none⟩ (.int .i64 x.1.2.2.2.1)).setCell ⟨A + 1 + 1, 3, none⟩ (.int .i64 x.1.2.2.2.2)).heap[q]? = w'.heap[q]? := fun q hq => by
     rw [Au hq, Au hq, Au hq, Au hq]
    have h6 : Boxed ((((w'.setCell ⟨A + 1 + 1, 0, none⟩ (.int .i64 x.1.2.1)).setCell ⟨A + 1 + 1, 1, none⟩ (.int .i64 x.1.2.2.1)).setCell ⟨A + 1 + 1, 2, none⟩ (.int .i64 x.1.2.2.2.1)).setCell ⟨A + 1 + 1, 3, none⟩ (.int .i64 x.1.2.2.2.2)) (A + 1 + 1 + 1) 4 (.bool cb) := (nb _ (by omega)).trans hcb
    refine ⟨(KeepsFrom.mk hB.size fun k o _ h0 _ => (hB.block k (Array.getElem?_eq_some_iff.1 h0).1).trans h0).trans ((((((KeepsOthers.setCell _ _ _).from _).trans ((KeepsOthers.setCell _ _ _).from _)).trans ((KeepsOthers.setCell _ _ _).from _)).trans ((KeepsOthers.setCell _ _ _).from _)).trans ((KeepsOthers.setCell _ _ _).from _)), rfl, pre, x, rfl, i0, by rw [hf, Bool.and_true]; exact decide_eq_true hlt, ?_, h6.set _, ?_⟩
    ·exact (Au (by omega)).trans h5
    ·exact ((((hX'.bel.setCell (p := ⟨A + 1 + 1, 0, none⟩) (by show A ≤ A + 1 + 1; omega) _).setCell (p := ⟨A + 1 + 1, 1, none⟩) (by show A ≤ A + 1 + 1; omega) _).setCell (p := ⟨A + 1 + 1, 2, none⟩) (by show A ≤ A + 1 + 1; omega) _).setCell (p := ⟨A + 1 + 1, 3, none⟩) (by show A ≤ A + 1 + 1; omega) _).setCell (p := ⟨A + 1 + 1 + 1, 0, none⟩) (by show A ≤ A + 1 + 1 + 1; omega) _
  ·refine ⟨trivial, ?_⟩
   gi_wp2
   rename_i hge
   exact stay _ (Below.refl _ _) (by rw [decide_eq_false (Int.not_lt.2 hge), Bool.false_and])
 case done =>
  rintro D xs X hD rfl ⟨hne, hX⟩ hK
  obtain ⟨r0, hr0⟩ := hX.b2
  obtain ⟨f0, f1, f2, f3⟩ := hr0.c
  obtain ⟨g0, g1, g2, g3⟩ := hr0.f
  obtain ⟨cb, hcb⟩ := hX.b3
  have m0 := hcb.cell
  have m1 := hcb.frozen
  have hfd : B1 w p v.reverse = ((0, 0, 0, 0), false) := Vh w p _ fun r hr => by
   rw [← List.take_length (l := v.reverse), List.length_reverse, ← Xav v hok _ (Nat.le_refl _)] at hr
   obtain ⟨x, hx, rfl⟩ := List.mem_map.1 hr
   exact hne x hx
  gi_wp2
  have nb : ∀ (q : Nat), q ≠ A + 1 + 1 → ((((X.setCell ⟨A + 1 + 1, 0, none⟩ (.int .i64 0)).setCell ⟨A + 1 + 1, 1, none⟩ (.int .i64 0)).setCell ⟨A + 1 + 1, 2, none⟩ (.int .i64 0)).setCell ⟨A + 1 + 1, 3, none⟩ (.int .i64 0)).heap[q]? = X.heap[q]? := fun q hq => by
   rw [Au hq, Au hq, Au hq, Au hq]
  have h6 : Boxed ((((X.setCell ⟨A + 1 + 1, 0, none⟩ (.int .i64 0)).setCell ⟨A + 1 + 1, 1, none⟩ (.int .i64 0)).setCell ⟨A + 1 + 1, 2, none⟩ (.int .i64 0)).setCell ⟨A + 1 + 1, 3, none⟩ (.int .i64 0)) (A + 1 + 1 + 1) 4 (.bool cb) := (nb _ (by omega)).trans hcb
  have h5 := hr0.set zr
  have hbel := ((((hX.bel.setCell (p := ⟨A + 1 + 1, 0, none⟩) (by show A ≤ A + 1 + 1; omega) (.int .i64 0)).setCell (p := ⟨A + 1 + 1, 1, none⟩) (by show A ≤ A + 1 + 1; omega) (.int .i64 0)).setCell (p := ⟨A + 1 + 1, 2, none⟩) (by show A ≤ A + 1 + 1; omega) (.int .i64 0)).setCell (p := ⟨A + 1 + 1, 3, none⟩) (by show A ≤ A + 1 + 1; omega) (.int .i64 0)).setCell (p := ⟨A + 1 + 1 + 1, 0, none⟩) (by show A ≤ A + 1 + 1 + 1; omega) (.bool false)
  exact O5 hfd (by omega) ((Au (by omega)).trans h5) (h6.set _) ((Au (by omega)).trans ((nb D (by omega)).trans hK)) (by rw [hA]; exact hbel)
 case stop =>
  rintro D c pre X hD ⟨k, hk, rfl⟩ ⟨rfl, ini, last, e1, e2, e3, hr4, hb3, hbel⟩ hK
  have hfd : B1 w p v.reverse = (last.1.2, true) := by
   have h2 := Xav v hok k hk
   rw [e1, List.map_append, List.map_singleton] at h2
   have h3 : v.reverse = ini.map (fun x => x.1.2) ++ last.1.2 :: v.reverse.drop k := by
    conv => lhs; rw [← List.take_append_drop k v.reverse, ← h2]
    simp
   rw [h3]
   refine Vv w p _ _ e3 _ fun r hr => ?_
   obtain ⟨x, hx, rfl⟩ := List.mem_map.1 hr
   exact e2 x hx
  gi_wp2
  exact O5 hfd (by omega) hr4 hb3 hK (by rw [hA]; exact hbel)
theorem Xoh {w : World} {S : Nat → Prop} {a b c : Arg} {vals : List Value} {bss : List (List Nat)} (h : ArgsV w S [a, b, c] vals bss) :
  ∃ y iv z bl bi bv, vals = [y, iv, z] ∧ bss = [bl, bi, bv] ∧ ArgV w S a y bl ∧ ArgV w S b iv bi ∧ ArgV w S c z bv := by
 rcases vals with _ | ⟨y, _ | ⟨iv, _ | ⟨z, _ | _⟩⟩⟩ <;> rcases bss with _ | ⟨bl, _ | ⟨bi, _ | ⟨bv, _ | _⟩⟩⟩ <;> simp only [ArgsV, and_false] at h
 exact ⟨_, _, _, _, _, _, rfl, rfl, h.1, h.2.1, h.2.2.1⟩
theorem X9f {w : World} {S : Nat → Prop} {m : Rf.Mode} {x : den E} {u : List Value} {b : List Nat} (h : Rd w S E m x u b) : u = [.int .i64 x.1, .int .i64 x.2.1, .int .i64 x.2.2.1, .int .i64 x.2.2.2] := by
 obtain ⟨_, _, _, _, rfl, rfl, ⟨rfl, rfl⟩, _, _, _, _, rfl, rfl, ⟨rfl, rfl⟩, _, _, _, _, rfl, rfl, ⟨rfl, rfl⟩, ⟨rfl, rfl⟩⟩ := h
 rfl
theorem X3x {w : World} {S : Nat → Prop} {v : List (den E)} {y : Value} {bs : List Nat} (h : Rd w S (.sl E) .ro v [y] bs) (hS : ∀ b, S b → b < w.heap.size) :
  (∃ ad cap, y = .slice ad v.length cap) ∧ Rts w.heap.size w y v ∧ bs = [] := by
 obtain ⟨y', hy, ad, c, rfl, hc, _, hr⟩ := h
 simp only [List.cons.injEq, and_true] at hy
 subst hy
 refine ⟨⟨_, _, rfl⟩, ?_, ?_⟩
 ·cases v with
  | nil => exact .inl ⟨_, _, rfl, rfl⟩
  | cons r0 v =>
   rcases hr with ⟨_, h, _⟩ | ⟨b, o, bss, rfl, hl, _, h2, _, hel⟩
   ·cases h
   ·obtain ⟨_, _, h3⟩ := h2 rfl
    refine .inr ⟨b, o, c, rfl, hc, hS _ (h3 (by simp)), fun i hi => ?_⟩
    obtain ⟨vs, hvl, hcell, hrd⟩ := hel i ((r0 :: v)[i]) (bss[i]'(by omega)) (by simp) (List.getElem?_eq_getElem hi) (List.getElem?_eq_getElem (by omega))
    have he := X9f hrd
    subst he
    rw [List.getElem?_eq_getElem hi, Option.getD_some]
    exact ⟨hcell 0 (by decide), hcell 1 (by decide), hcell 2 (by decide), hcell 3 (by decide)⟩
 ·rcases hr with ⟨_, _, _, h⟩ | ⟨b, o, bss, rfl, hl, _, h2, _, hel⟩
  ·exact h
  ·exact (h2 rfl).1
set_option maxRecDepth 100000 in
theorem con (v : List (den E)) (w p : Int) : Contract Tryz.prog 74 [.one (.l (.s .ro E v)), .one (.l (.v (.int .i64 w))), .one (.l (.v (.int .i64 p)))]
  ⟨to v w p, fun r => (.tup [(true, enc .own E r.1), (false, [.v (.bool r.2)])], [])⟩ := by
 intro W S vals bss hA hnd hown hS _ _ r hr
 obtain ⟨y, iv, z, bl, bi, bv, rfl, rfl, h1, h2, h3⟩ := Xoh hA
 obtain ⟨rfl, rfl⟩ : iv = .int .i64 w ∧ bi = [] := h2
 obtain ⟨rfl, rfl⟩ : z = .int .i64 p ∧ bv = [] := h3
 have hr : to v w p = some r := hr
 unfold to at hr
 cases hk : (v.all okB && decide (v.length ≤ 1000000)) with
 | false => rw [hk] at hr; cases hr
 | true =>
  rw [hk, cond_true, Option.some.injEq] at hr
  simp only [Bool.and_eq_true, decide_eq_true_eq] at hk
  obtain ⟨⟨ad, cap, hy⟩, hI, rfl⟩ := X3x (show Rd W S (.sl E) .ro v [y] bl from h1) hS
  have c := callsIn_wide.1 (X8y v hk.2 hk.1 y w p ad cap hy W hI)
  rw [hr] at c
  refine c.mono ?_
  rintro e W' ⟨rfl, hB⟩
  refine ⟨_, rfl, ⟨S, [], [], ⟨[rv r.1, .bool r.2], [[], []], rfl, ⟨⟨_, [[], [], [], []], rfl, ⟨⟨rfl, rfl⟩, ⟨rfl, rfl⟩, ⟨rfl, rfl⟩, ⟨rfl, rfl⟩, trivial⟩, rfl⟩, ⟨rfl, rfl⟩, trivial⟩, rfl⟩, trivial, by simp, by simp, fun _ h => h, fun q h => Nat.lt_of_lt_of_le (hS q h) hB.size, fun q h => .inl h, by simp, by simp [resBk, T8]⟩, hB.size, ⟨hB.os, hB.tape, hB.output⟩, fun q h1 h2 => .inl (hB.block q h1).symm⟩
#print axioms con
end Go.Proofs.YtdmepjjepogddaaGreat.Rt
end

section
namespace Go.Proofs.YtdmepjjepogddaaGreat.De
open Go.RowKit Go.Shelf Go.Lib Go.Proofs
set_option linter.unusedVariables false
set_option linter.unusedSimpArgs false
theorem u100 : Tryz.prog.underlying 100 = some (.slice 196) := by kernel_rfl
abbrev Z : Value := .agg #[.slice none 0 0, .int .i64 0]
theorem Xi1 : ∃ i, Tryz.prog.info? 196 = some i ∧ i.zero = some Z ∧ i.size = 2 ∧ i.bytes = 32 := info_parts (by kernel_rfl)
theorem X83 (w : World) : (zeroValue 196).run Tryz.prog w = .ok Z w := by
 obtain ⟨i, h1, h2, _⟩ := Xi1
 simp [zeroValue, typeInfo, h1, h2]
abbrev zz : List Value := [.slice none 0 0, .int .i64 0]
theorem X2s (w : World) (ty : TypeId) (b o c : Nat) (hc : ∀ j, j < 2 → (w.cell? ⟨b, o + j, none⟩).isSome = true) (hf : ∀ j, j < 2 → w.frozen? ⟨b, o + j, none⟩ = false) :
  (Builtin.clear_ #[100] ty #[.slice (some ⟨b, o, none⟩) 1 c]).run Tryz.prog w = .ok (.tuple #[]) (w.setCells b o zz) := by
 have hst := run_storeCells_cells (P := Tryz.prog) b o zz 0 w (by simpa using hc) (by simpa using hf) (by intro v hv; simp at hv; rcases hv with rfl | rfl <;> rfl)
 simp only [Nat.add_zero] at hst
 have hzc : (Builtin.zeroCells Z.cells 1).toList = zz := by
  simp [Builtin.zeroCells, Value.cells]
  rfl
 simp [Builtin.clear_, run_underlying u100, X83, hzc, hst]
set_option maxHeartbeats 4000000 in
set_option maxRecDepth 1000000 in
theorem del1 (b o c : Nat) (w : World) (hc1 : 1 ≤ c) (hc : ∀ j, j < 2 → (w.cell? ⟨b, o + j, none⟩).isSome = true) (hf : ∀ j, j < 2 → w.frozen? ⟨b, o + j, none⟩ = false) :
  Calls Tryz.prog 219 #[.slice (some ⟨b, o, none⟩) 1 c, .int .i64 0, .int .i64 1] w fun e w' => e = .returned (.slice (some ⟨b, o, none⟩) 0 c) ∧ w' = w.drew.setCells b o zz := by
 have Ag : Tryz.prog.follows .mixedOrders = true := by kernel_rfl
 obtain ⟨i0, hi0, hz0, hz1, hz2⟩ := Xi1
 have hcl := fun ty cc => X2s w.drew ty b o cc hc hf
 obtain ⟨A, hA⟩ : ∃ A : Addr, (if c = 1 then some (⟨b, o, none⟩ : Addr) else some ⟨b, o + 2, none⟩) = some A := by
  by_cases h : c = 1
  ·exact ⟨_, by rw [if_pos h]⟩
  ·exact ⟨_, by rw [if_neg h]⟩
 go_enter Tryz.func219, Tryz.ntmps219
 go_wp2_with fail
 go_region_law_o (refine step_append_room rfl (.tmp 22) (.tmp 25) 100 rfl 196 i0 2 u100 hi0 hz1 b o 0 c (by simp [Act.eval, Act.put]) A 0 (c - 1) [] (by simp [Act.eval, Act.put]; try exact hA) rfl (by intro j u h; simp at h) (by intro u h; cases h) (by omega) (by intro j h; simp at h) ?_)
 rw [show w.drew.setCells b o [] = w.drew from rfl]
 go_wp2
 go_ret
 exact ⟨rfl, rfl⟩
open Go.Rf
abbrev E : Ty := .pair (.sl (.pair (.int .i64) (.pair (.int .i64) (.pair (.int .i64) (.pair (.int .i64) (.pair (.int .i64) (.pair (.int .i64) (.pair .bool (.pair .bool (.sl (.int .u8))))))))))) (.int .i64)
def del (l : List (den E)) (i j : Int) : Option (List (den E)) := cond (decide (i = 0) && decide (j = 1) && decide (l.length = 1)) (some []) none
theorem Lc {b : Nat} : ∀ {vs : List Value} {o : Nat} {w : World}, BlkOk w b (o + vs.length) →
  (∀ q, q ≠ b → (w.setCells b o vs).heap[q]? = w.heap[q]?) ∧ (∀ n, BlkOk w b n → BlkOk (w.setCells b o vs) b n) ∧
   (∀ p, cellAt (w.setCells b o vs) b p = if o ≤ p ∧ p < o + vs.length then vs[p - o]? else cellAt w b p) ∧ (w.setCells b o vs).heap.size = w.heap.size ∧ Io w (w.setCells b o vs)
 | [], o, w, hb => ⟨fun _ _ => rfl, fun _ h => h, fun p => by rw [if_neg (by simp only [List.length_nil]; omega)]; rfl, rfl, Io.refl _⟩
 | v :: vs, o, w, hb => by
  have hb1 : BlkOk w b (o + 1) := by obtain ⟨cs, te, h2, h3⟩ := hb; exact ⟨cs, te, h2, by simp at h3; omega⟩
  obtain ⟨hq, hblk, hcell, hsz, hio⟩ := Lc (b := b) (vs := vs) (o := o + 1) (w := w.setCell ⟨b, o, none⟩ v)
   (Ce (by obtain ⟨cs, te, h2, h3⟩ := hb; exact ⟨cs, te, h2, by simp at h3; omega⟩))
  refine ⟨fun q hne => (hq q hne).trans (Au hne), fun n hn => hblk n (Ce hn), fun p => ?_, hsz.trans (B4 _ _ _), (show Io w (w.setCell ⟨b, o, none⟩ v) from ⟨rfl, rfl, rfl⟩).trans hio⟩
  rw [World.setCells, hcell p]
  by_cases h2 : o + 1 ≤ p ∧ p < o + 1 + vs.length
  ·rw [if_pos h2, if_pos (by simp; omega)]
   rw [show p - o = (p - (o + 1)) + 1 by omega, List.getElem?_cons_succ]
  ·rw [if_neg h2, Dd hb1 (by omega)]
   by_cases h3 : p = o
   ·subst h3
    simp
   ·rw [if_neg (by simp [h3]), if_neg (by simp; omega)]
theorem Xoh {w : World} {S : Nat → Prop} {a b c : Arg} {vals : List Value} {bss : List (List Nat)} (h : ArgsV w S [a, b, c] vals bss) :
  ∃ y iv z bl bi bv, vals = [y, iv, z] ∧ bss = [bl, bi, bv] ∧ ArgV w S a y bl ∧ ArgV w S b iv bi ∧ ArgV w S c z bv := by
 rcases vals with _ | ⟨y, _ | ⟨iv, _ | ⟨z, _ | _⟩⟩⟩ <;> rcases bss with _ | ⟨bl, _ | ⟨bi, _ | ⟨bv, _ | _⟩⟩⟩ <;> simp only [ArgsV, and_false] at h
 exact ⟨_, _, _, _, _, _, rfl, rfl, h.1, h.2.1, h.2.2.1⟩
theorem Xpk {w : World} {b n p : Nat} (h : BlkOk w b n) (hp : p < n) : (w.cell? ⟨b, p, none⟩).isSome = true ∧ w.frozen? ⟨b, p, none⟩ = false := by
 obtain ⟨cs, te, h1, h2⟩ := h
 unfold World.cell? World.frozen?
 simp only [h1, Option.isSome_none, Bool.false_eq_true, if_false]
 rw [Array.getElem?_eq_getElem (by omega)]
 exact ⟨rfl, by simp⟩
theorem O5 {w w' : World} {S : Nat → Prop} {l : List (den E)} {y : Value} {b : Nat} {own : List Nat} (hR : Rd w' S (.sl E) .own l [y] [b]) (hb : b ∈ own ∨ w.heap.size ≤ b) (hown : ∀ q ∈ own, ¬ S q) (hS : ∀ q, S q → q < w.heap.size)
  (hsz : w.heap.size ≤ w'.heap.size) (hio : Io w w') (hfr : ∀ q, q < w.heap.size → q ∉ own → w'.heap[q]? = w.heap[q]?) : Post w S [] own w' (.one (.s .own E l), []) y := by
 refine ⟨⟨S, [b], [], hR, trivial, by simp, ?_, fun _ h => h, fun q h => Nat.lt_of_lt_of_le (hS q h) hsz, fun q h => .inl h, ?_, ?_⟩, hsz, hio, fun q h1 h2 => .inl (hfr q h1 h2).symm⟩
 ·intro q hq
  simp only [List.flatten_nil, List.append_nil, List.mem_singleton] at hq
  subst hq
  rcases hb with hb | hb
  ·exact hown _ hb
  ·intro h; have := hS _ h; omega
 ·intro q hq
  simp only [List.flatten_nil, List.append_nil, List.mem_singleton] at hq
  subst hq
  exact hb
 ·intro a ha; simp [resBk, T8] at ha
theorem con (l : List (den E)) (i j : Int) : Contract Tryz.prog 219 [.one (.l (.s .sown E l)), .one (.l (.v (.int .i64 i))), .one (.l (.v (.int .i64 j)))] ⟨del l i j, fun r => (.one (.s .own E r), [])⟩ := by
 intro w S vals bss hA hnd hown hS _ _ r hr
 obtain ⟨y, iv, jv, bl, bi, bj, rfl, rfl, h1, h2, h3⟩ := Xoh hA
 obtain ⟨rfl, rfl⟩ : iv = .int .i64 i ∧ bi = [] := h2
 obtain ⟨rfl, rfl⟩ : jv = .int .i64 j ∧ bj = [] := h3
 have hr : del l i j = some r := hr
 unfold del at hr
 cases hk : (decide (i = 0) && decide (j = 1) && decide (l.length = 1)) with
 | false => rw [hk] at hr; cases hr
 | true =>
  rw [hk, cond_true, Option.some.injEq] at hr
  simp only [Bool.and_eq_true, decide_eq_true_eq] at hk
  obtain ⟨⟨rfl, rfl⟩, hl⟩ := hk
  subst hr
  obtain ⟨y', hy, ad, c, rfl, hlc, _, hh⟩ := (h1 : Rd w S (.sl E) .sown l [y] bl)
  obtain rfl : y = .slice ad l.length c := by simpa using hy
  rcases hh with ⟨_, e, _⟩ | ⟨b, o, bs', rfl, _, hb, _⟩
  ·rw [e] at hl; cases hl
  ·obtain ⟨rfl, hblk⟩ := hb rfl
   have hblk : BlkOk w b (o + c * 2) := hblk
   rw [hl] at hlc ⊢
   have hc : ∀ t, t < 2 → (w.cell? ⟨b, o + t, none⟩).isSome = true ∧ w.frozen? ⟨b, o + t, none⟩ = false := fun t ht => Xpk hblk (by omega)
   have hd0 : BlkOk w.drew b (o + c * 2) := hblk
   obtain ⟨q1, b1, c1, s1, io1⟩ := Lc (vs := zz) (o := o) (w := w.drew) (b := b) (by obtain ⟨p1, p2, p3, p4⟩ := hd0; exact ⟨p1, p2, p3, by show o + 2 ≤ _; omega⟩)
   refine (del1 b o c w hlc (fun t ht => (hc t ht).1) (fun t ht => (hc t ht).2)).mono ?_
   rintro e w' ⟨rfl, rfl⟩
   refine ⟨_, rfl, ?_⟩
   have hin : b ∈ [b :: bs'.flatten, [], []].flatten := by simp
   have hR : Rd (w.drew.setCells b o zz) S (.sl E) .own [] [.slice (some ⟨b, o, none⟩) 0 c] [b] :=
    ⟨_, rfl, some ⟨b, o, none⟩, c, rfl, Nat.zero_le _, (by intro h; cases h), .inr ⟨b, o, [], rfl, rfl, fun _ => ⟨rfl, b1 _ hd0⟩, (by intro h; cases h), (by intro i h; cases h), (by intro i x b' _ hx; simp at hx)⟩⟩
   exact O5 hR (.inl hin) hown hS (by rw [s1]; exact Nat.le_refl _) ((show Io w w.drew from ⟨rfl, rfl, rfl⟩).trans io1) (fun q h1 h2 => q1 q (fun e => h2 (by rw [e]; exact hin)))
#print axioms con
end Go.Proofs.YtdmepjjepogddaaGreat.De
end

section
set_option linter.unusedVariables false
set_option linter.unusedSimpArgs false
namespace Go.Proofs.YtdmepjjepogddaaGreat.Gn
open Go.Rf IntKind
noncomputable section
abbrev Ci : Ty := (.pair (.int .i64) (.pair (.int .i64) (.pair (.int .i64) (.int .i64))))
abbrev nam : Ty := (.pair .str (.pair (.int .i64) (.pair (.int .i64) (.pair .str (.int .i64)))))
abbrev sta : Ty := (.pair (.int .i64) (.sl Ci))
abbrev kep : Ty := (.pair nam (.int .i64))
abbrev Ak : Ty := (.pair (.int .i64) (.pair (.int .i64) (.pair (.int .i64) (.pair (.int .i64) (.pair (.int .i64) (.pair (.int .i64) (.pair .bool (.pair .bool (.sl (.int .u8))))))))))
abbrev Bb : Ty := (.pair (.sl Ak) (.int .i64))
abbrev Uy : Ty := (.pair (.int .i64) (.pair (.int .i64) (.sl Ak)))
abbrev Eg : Ty := (.pair (.sl Ak) Bb)
abbrev Ad : Type := List (den nam)
abbrev A3 : Type := List (den Ci)
abbrev Aq : Type := List (den sta)
abbrev Aa : Type := List (den (.int .u8))
abbrev Ae : Type := List (den kep)
abbrev Al : Type := List (den Ak)
abbrev Ai : Type := List (den Bb)
abbrev Bv : Type := List (den (.int .i64))
abbrev Ff : Type := List (den (.sl (.int .u8)))
abbrev Cg : Type := List (den (.pair (.int .i64) Ak))
abbrev Q0 : MT := .pair (.sl .ro (.int .u8)) mI
abbrev m_2 : MT := .pair mI (.pair mI (.pair .str mI))
abbrev m_3 : MT := .pair mI (.pair mI (.pair mI mI))
abbrev m_4 : MT := .pair (.pair .str m_2) mI
abbrev m_5 : MT := .pair mB (.sl .ro (.int .u8))
abbrev m_6 : MT := .pair mI (.pair mI (.pair mB m_5))
abbrev Ka : MT := .pair mI (.pair mI (.pair mI m_6))
abbrev m_8 : MT := .pair mB (.sl .own (.int .u8))
abbrev m_9 : MT := .pair mI (.pair mI (.pair mB m_8))
abbrev Xfv : MT := .pair mI (.pair mI (.pair mI m_9))
abbrev X5l : MT := .pair mI (.sl .ro (.int .u8))
abbrev m_12 : MT := .pair mI (.sl .own (.int .u8))
abbrev X4m : MT := .pair mI (.pair mI (.sl .own Ak))
abbrev Sj : MT := .pair (.sl .own Ak) (.pair (.sl .own Ak) mI)
abbrev u_0 {β : Type} (e : (Aa × Int)) (f : Aa → Int → β) : β := f e.1 e.2
abbrev Dg {β : Type} (e : (den Ci)) (f : Int → Int → Int → Int → β) : β := f e.1 e.2.1 e.2.2.1 e.2.2.2
abbrev S9 {β : Type} (e : (den nam)) (f : ByteArray → Int → Int → ByteArray → Int → β) : β := f e.1 e.2.1 e.2.2.1 e.2.2.2.1 e.2.2.2.2
abbrev A5 {β : Type} (e : (den Ak)) (f : Int → Int → Int → Int → Int → Int → Bool → Bool → Aa → β) : β := f e.1 e.2.1 e.2.2.1 e.2.2.2.1 e.2.2.2.2.1 e.2.2.2.2.2.1 e.2.2.2.2.2.2.1 e.2.2.2.2.2.2.2.1 e.2.2.2.2.2.2.2.2
abbrev u_4 {β : Type} (e : (Int × (Int × Aa))) (f : Int → Int → Aa → β) : β := f e.1 e.2.1 e.2.2
abbrev Bz {β : Type} (e : (den Bb)) (f : Al → Int → β) : β := f e.1 e.2
def tyT : List (Nat × TyI) := [(3, ⟨(.int .i64), false, 0⟩), (4, ⟨.bool, false, 0⟩), (5, ⟨(.int .u8), false, 0⟩), (9, ⟨.str, false, 0⟩), (23, ⟨(.sl (.int .u8)), false, 1⟩), (27, ⟨(.sl sta), false, 32⟩), (50, ⟨(.sl Ci), false, 32⟩), (52, ⟨sta, true, 0⟩), (56, ⟨Ak, true, 0⟩), (67, ⟨(.sl nam), false, 56⟩), (72, ⟨(.sl kep), false, 64⟩), (96, ⟨(.sl Ak), false, 80⟩), (98, ⟨Eg, true, 0⟩), (100, ⟨(.sl Bb), false, 32⟩), (114, ⟨Ci, true, 0⟩), (141, ⟨nam, true, 0⟩), (153, ⟨kep, true, 0⟩), (158, ⟨(.sl (.sl (.int .u8))), false, 24⟩), (190, ⟨(.sl (.int .i64)), false, 8⟩), (192, ⟨Uy, true, 0⟩), (196, ⟨Bb, true, 0⟩), (207, ⟨(.pair (.sl (.int .u8)) (.int .i64)), true, 0⟩), (232, ⟨(.sl .str), false, 16⟩), (268, ⟨(.pair (.int .i64) Ak), true, 0⟩), (269, ⟨(.sl (.pair (.int .i64) Ak)), false, 88⟩), (346, ⟨(.pair (.int .i64) (.pair (.int .i64) (.sl (.int .u8)))), true, 0⟩)]
def Xcx : Xku := [(52, [(0, 1, false), (1, 1, false)]), (56, [(0, 1, false), (1, 1, false), (2, 1, false), (3, 1, false), (4, 1, false), (5, 1, false), (6, 1, false), (7, 1, false), (8, 1, false)]), (98, [(0, 1, false), (1, 1, false), (2, 1, false)]), (114, [(0, 1, false), (1, 1, false), (2, 1, false), (3, 1, false)]), (141, [(0, 1, false), (1, 1, false), (2, 1, false), (3, 1, false), (4, 1, false)]), (153, [(0, 5, true), (5, 1, false)]), (192, [(0, 1, false), (1, 1, false), (2, 1, false)]), (196, [(0, 1, false), (1, 1, false)]), (207, [(0, 1, false), (1, 1, false)]), (268, [(0, 1, false), (1, 9, true)]), (346, [(0, 1, false), (1, 1, false), (2, 1, false)])]
def eqT : List Nat := []
def Bd (tab : Tab) (hint : Nat → Hint) (rm : Rf.Mode) (pins : List (Bool × Nat)) (k : Nat) : Env :=
 { tab := tab, lend := (fun f => cond (Nat.beq f 176) [true] (cond (Nat.beq f 151) [true] (cond (Nat.beq f 150) [true] (cond (Nat.beq f 219) [true] (cond (Nat.beq f 276) [true] (cond (Nat.beq f 211) [true] (cond (Nat.beq f 271) [true] (cond (Nat.beq f 163) [true] (cond (Nat.beq f 197) [true] (cond (Nat.beq f 266) [true] ([]))))))))))), lent := (fun f => cond (Nat.beq f 100) [true] (cond (Nat.beq f 41) [true] (cond (Nat.beq f 40) [true] (cond (Nat.beq f 215) [true] (cond (Nat.beq f 68) [true] (cond (Nat.beq f 20) [true] (cond (Nat.beq f 19) [true] ([])))))))), pins := pins, ty := asc tyT, fld := Nc Xcx, pw := fun _ => none, cw := fun _ => [], hint := hint, eqt := B6 eqT, rm := rm, fuel := k, itr := [(164, 229, (.int .u8))] }
theorem tyOk : AllT (TyOk Tryz.prog) tyT :=
 ⟨.ofInt (b := 8) (by kernel_rfl) (by kernel_rfl), .ofBool (b := 1) (by kernel_rfl) (by kernel_rfl), .ofInt (b := 1) (by kernel_rfl) (by kernel_rfl), .ofStr (b := 16) (by kernel_rfl) (by kernel_rfl), .ofSl (te := 5) (b := 24) (by kernel_rfl) (by kernel_rfl) (by kernel_rfl) (fun _ h => by cases h; kernel_rfl), .ofSl (te := 52) (b := 24) (by kernel_rfl) (by kernel_rfl) (by kernel_rfl) nofun, .ofSl (te := 114) (b := 24) (by kernel_rfl) (by kernel_rfl) (by kernel_rfl) nofun, .ofAgg (b := 32) (by kernel_rfl) (by kernel_rfl), .ofAgg (b := 80) (by kernel_rfl) (by kernel_rfl), .ofSl (te := 141) (b := 24) (by kernel_rfl) (by kernel_rfl) (by kernel_rfl) nofun, .ofSl (te := 153) (b := 24) (by kernel_rfl) (by kernel_rfl) (by kernel_rfl) nofun, .ofSl (te := 56) (b := 24) (by kernel_rfl) (by kernel_rfl) (by kernel_rfl) nofun, .ofAgg (b := 56) (by kernel_rfl) (by kernel_rfl), .ofSl (te := 196) (b := 24) (by kernel_rfl) (by kernel_rfl) (by kernel_rfl) nofun, .ofAgg (b := 32) (by kernel_rfl) (by kernel_rfl), .ofAgg (b := 56) (by kernel_rfl) (by kernel_rfl), .ofAgg (b := 64) (by kernel_rfl) (by kernel_rfl), .ofSl (te := 23) (b := 24) (by kernel_rfl) (by kernel_rfl) (by kernel_rfl) nofun, .ofSl (te := 3) (b := 24) (by kernel_rfl) (by kernel_rfl) (by kernel_rfl) (fun _ h => by cases h; kernel_rfl), .ofAgg (b := 40) (by kernel_rfl) (by kernel_rfl), .ofAgg (b := 32) (by kernel_rfl) (by kernel_rfl), .ofAgg (b := 32) (by kernel_rfl) (by kernel_rfl), .ofSl (te := 9) (b := 24) (by kernel_rfl) (by kernel_rfl) (by kernel_rfl) nofun, .ofAgg (b := 88) (by kernel_rfl) (by kernel_rfl), .ofSl (te := 268) (b := 24) (by kernel_rfl) (by kernel_rfl) (by kernel_rfl) nofun, .ofAgg (b := 40) (by kernel_rfl) (by kernel_rfl), trivial⟩
theorem fldOk : AllF Tryz.prog Xcx :=
 ⟨⟨⟨by kernel_rfl, by kernel_rfl⟩, ⟨by kernel_rfl, by kernel_rfl⟩, trivial⟩, ⟨⟨by kernel_rfl, by kernel_rfl⟩, ⟨by kernel_rfl, by kernel_rfl⟩, ⟨by kernel_rfl, by kernel_rfl⟩, ⟨by kernel_rfl, by kernel_rfl⟩, ⟨by kernel_rfl, by kernel_rfl⟩, ⟨by kernel_rfl, by kernel_rfl⟩, ⟨by kernel_rfl, by kernel_rfl⟩, ⟨by kernel_rfl, by kernel_rfl⟩, ⟨by kernel_rfl, by kernel_rfl⟩, trivial⟩, ⟨⟨by kernel_rfl, by kernel_rfl⟩, ⟨by kernel_rfl, by kernel_rfl⟩, ⟨by kernel_rfl, by kernel_rfl⟩, trivial⟩, ⟨⟨by kernel_rfl, by kernel_rfl⟩, ⟨by kernel_rfl, by kernel_rfl⟩, ⟨by kernel_rfl, by kernel_rfl⟩, ⟨by kernel_rfl, by kernel_rfl⟩, trivial⟩, ⟨⟨by kernel_rfl, by kernel_rfl⟩, ⟨by kernel_rfl, by kernel_rfl⟩, ⟨by kernel_rfl, by kernel_rfl⟩, ⟨by kernel_rfl, by kernel_rfl⟩, ⟨by kernel_rfl, by kernel_rfl⟩, trivial⟩, ⟨⟨by kernel_rfl, by kernel_rfl⟩, ⟨by kernel_rfl, by kernel_rfl⟩, trivial⟩, ⟨⟨by kernel_rfl, by kernel_rfl⟩, ⟨by kernel_rfl, by kernel_rfl⟩, ⟨by kernel_rfl, by kernel_rfl⟩, trivial⟩, ⟨⟨by kernel_rfl, by kernel_rfl⟩, ⟨by kernel_rfl, by kernel_rfl⟩, trivial⟩, ⟨⟨by kernel_rfl, by kernel_rfl⟩, ⟨by kernel_rfl, by kernel_rfl⟩, trivial⟩, ⟨⟨by kernel_rfl, by kernel_rfl⟩, ⟨by kernel_rfl, by kernel_rfl⟩, trivial⟩, ⟨⟨by kernel_rfl, by kernel_rfl⟩, ⟨by kernel_rfl, by kernel_rfl⟩, ⟨by kernel_rfl, by kernel_rfl⟩, trivial⟩, trivial⟩
theorem Ag : Tryz.prog.follows .mixedOrders = true := by kernel_rfl
theorem bldOk : AllT (fun t i => i.agg = true → BldOk Tryz.prog t (Nc Xcx t)) tyT :=
 ⟨nofun, nofun, nofun, nofun, nofun, nofun, nofun, fun _ => D6 (row := [(0, 1, false), (1, 1, false)]) rfl (by kernel_rfl) (by kernel_rfl), fun _ => D6 (row := [(0, 1, false), (1, 1, false), (2, 1, false), (3, 1, false), (4, 1, false), (5, 1, false), (6, 1, false), (7, 1, false), (8, 1, false)]) rfl (by kernel_rfl) (by kernel_rfl), nofun, nofun, nofun, fun _ => D6 (row := [(0, 1, false), (1, 1, false), (2, 1, false)]) rfl (by kernel_rfl) (by kernel_rfl), nofun, fun _ => D6 (row := [(0, 1, false), (1, 1, false), (2, 1, false), (3, 1, false)]) rfl (by kernel_rfl) (by kernel_rfl), fun _ => D6 (row := [(0, 1, false), (1, 1, false), (2, 1, false), (3, 1, false), (4, 1, false)]) rfl (by kernel_rfl) (by kernel_rfl), fun _ => D6 (row := [(0, 5, true), (5, 1, false)]) rfl (by kernel_rfl) (by kernel_rfl), nofun, nofun, fun _ => D6 (row := [(0, 1, false), (1, 1, false), (2, 1, false)]) rfl (by kernel_rfl) (by kernel_rfl), fun _ => D6 (row := [(0, 1, false), (1, 1, false)]) rfl (by kernel_rfl) (by kernel_rfl), fun _ => D6 (row := [(0, 1, false), (1, 1, false)]) rfl (by kernel_rfl) (by kernel_rfl), nofun, fun _ => D6 (row := [(0, 1, false), (1, 9, true)]) rfl (by kernel_rfl) (by kernel_rfl), nofun, fun _ => D6 (row := [(0, 1, false), (1, 1, false), (2, 1, false)]) rfl (by kernel_rfl) (by kernel_rfl), trivial⟩
theorem eqOkT : AllT (fun t i => B6 eqT t = true → EqOk Tryz.prog t i.ty) tyT :=
 ⟨fun h => absurd h (by decide), fun h => absurd h (by decide), fun h => absurd h (by decide), fun h => absurd h (by decide), fun h => absurd h (by decide), fun h => absurd h (by decide), fun h => absurd h (by decide), fun h => absurd h (by decide), fun h => absurd h (by decide), fun h => absurd h (by decide), fun h => absurd h (by decide), fun h => absurd h (by decide), fun h => absurd h (by decide), fun h => absurd h (by decide), fun h => absurd h (by decide), fun h => absurd h (by decide), fun h => absurd h (by decide), fun h => absurd h (by decide), fun h => absurd h (by decide), fun h => absurd h (by decide), fun h => absurd h (by decide), fun h => absurd h (by decide), fun h => absurd h (by decide), fun h => absurd h (by decide), fun h => absurd h (by decide), fun h => absurd h (by decide), trivial⟩
theorem Xrg (tab : Tab) (hint : Nat → Hint) (rm : Rf.Mode) (pins : List (Bool × Nat)) (k : Nat) : TysOk Tryz.prog (Bd tab hint rm pins k) :=
 ⟨fun t i h => tyOk.get h, fun s f z h => fldOk.get h, fun t i h => bldOk.get h, fun t i h h2 => eqOkT.get h2 h, fun z hz => by obtain rfl := List.mem_singleton.1 hz; exact ⟨It.mkOk, It.itOk⟩⟩
theorem Aj {tab : Tab} (h : TabFn Tryz.prog tab) (hint : Nat → Hint) (rm : Rf.Mode) (pins : List (Bool × Nat)) (k : Nat) : EnvOk Tryz.prog (Bd tab hint rm pins k) := EnvOk.of (Xrg tab hint rm pins k) h
theorem Tt (frz : List Nat) {tab : Tab} (h : TabFn Tryz.prog tab) (hint : Nat → Hint) (rm : Rf.Mode) (pins : List (Bool × Nat)) (k : Nat) : EnvOk Tryz.prog { Bd tab hint rm pins k with frz := frz } :=
 have e := Aj h hint rm pins k; ⟨e.ty, e.fld, e.bld, e.eq, e.tab, e.fn, e.itr⟩
def Bq : Tab := fun _ _ => none
def Am : Nat → Hint := fun _ => ⟨[], []⟩
end
end Go.Proofs.YtdmepjjepogddaaGreat.Gn
end

section
set_option linter.unusedVariables false
set_option linter.unusedSimpArgs false
namespace Go.Proofs.YtdmepjjepogddaaGreat.Gn
open Go.Rf IntKind
noncomputable section
abbrev X8o (k : Nat) : Env := Bd Bq Am .own [] k
abbrev Xzy : List PA := [.one (.sl .ro (.int .u8))]
abbrev F69_O : RO := ⟨[.ptr 2], [Q0]⟩
def Xhp {β : Type} (RET : (Aa × Int) → Option β) (k : Nat) (v : Aa) : Option β := cond (decide ((v.length : Int) > 2000)) (cond (decide (0 ≤ 2000) && decide (2000 ≤ (v.length : Int))) (RET (v.take 2000, 0)) none) (RET (v, 0))
def F69 := Xhp (β := (Aa × Int)) some
theorem X2n {β : Type} (k : Nat) (v : Aa) (K : KT β) : Af (X8o k) Tryz.f69 (PsT.put Xzy (v, ())) K = (F69 k v).bind fun r => K (F69_O.put r) :=
 Eq.trans (b := Xhp (fun r => K (F69_O.put r)) k v) (by kernel_rfl) (by simp only [F69, Xhp, z1, z2, z3, z4, z5, z6, z7, z8])
def X0n (k : Nat) : FD := ⟨69, Xzy, F69_O, F69 k⟩
theorem X8t (k : Nat) : (X0n k).Ok Tryz.prog := ⟨fun x => Ab (Aj .none _ _ _ _) Ag Tryz.func69 rfl rfl (X2n k _ some), .of (by kernel_rfl)⟩
abbrev X9v (k : Nat) : Env := Bd Bq Am .own [(false, 0), (false, 1)] k
abbrev Xzw : List PA := [.p Q0, .one mI]
abbrev F71_O : RO := ⟨[.v], [mI, Q0]⟩
def Xiz {β : Type} (RET : (Int × (Aa × Int)) → Option β) (k : Nat) (v : (Aa × Int)) (w : Int) : Option β := u_0 v fun v0 v1 => cond (decide (w < 1)) (RET (0, (v0, i64.wrap (v1 + 1)))) (cond ((v0.length : Int) == 0) (RET (0, (v0, i64.wrap (v1 + 1)))) (cond (decide ((i64.wrap ((i64.wrap (v1 + 1)) - 1)) < (v0.length : Int))) (Az (i64.wrap ((i64.wrap (v1 + 1)) - 1)) v0 (cond (decide (w = 0)) none (RET (((i64.wrap (Aw v0 (i64.wrap ((i64.wrap (v1 + 1)) - 1)))).tmod w), (v0, i64.wrap (v1 + 1)))))) (cond (decide ((v0.length : Int) = 0)) none (Az ((i64.wrap ((i64.wrap (v1 + 1)) - 1)).tmod (v0.length : Int)) v0 (cond (decide ((v0.length : Int) = 0)) none (Az ((i64.wrap ((i64.wrap ((i64.wrap ((i64.wrap (v1 + 1)) - 1)) * 7)) + 3)).tmod (v0.length : Int)) v0 (cond (decide ((v0.length : Int) = 0)) none (cond (decide (w = 0)) none (RET (((Cf .xor .i64 (i64.wrap ((i64.wrap ((i64.wrap ((i64.wrap ((i64.wrap (Aw v0 ((i64.wrap ((i64.wrap (v1 + 1)) - 1)).tmod (v0.length : Int)))) * 131)) + (i64.wrap ((i64.wrap (Aw v0 ((i64.wrap ((i64.wrap ((i64.wrap ((i64.wrap (v1 + 1)) - 1)) * 7)) + 3)).tmod (v0.length : Int)))) * 1117)))) + (i64.wrap ((i64.wrap ((i64.wrap (v1 + 1)) - 1)) * 29)))) + (i64.wrap ((i64.wrap ((i64.wrap ((i64.wrap (v1 + 1)) - 1)).tdiv (v0.length : Int))) * 53)))) (i64.wrap ((i64.wrap ((i64.wrap ((i64.wrap ((i64.wrap ((i64.wrap (Aw v0 ((i64.wrap ((i64.wrap (v1 + 1)) - 1)).tmod (v0.length : Int)))) * 131)) + (i64.wrap ((i64.wrap (Aw v0 ((i64.wrap ((i64.wrap ((i64.wrap ((i64.wrap (v1 + 1)) - 1)) * 7)) + 3)).tmod (v0.length : Int)))) * 1117)))) + (i64.wrap ((i64.wrap ((i64.wrap (v1 + 1)) - 1)) * 29)))) + (i64.wrap ((i64.wrap ((i64.wrap ((i64.wrap (v1 + 1)) - 1)).tdiv (v0.length : Int))) * 53)))).tdiv 64))).tmod w), (v0, i64.wrap (v1 + 1))))))))))))
def Gf := Xiz (β := Int × (Aa × Int)) some
theorem X4f {β : Type} (k : Nat) (v : (Aa × Int)) (w : Int) (K : KT β) : Af (X9v k) Tryz.f71 (PsT.put Xzw (v, w, ())) K = (Gf k v w).bind fun r => K (F71_O.put r) :=
 Eq.trans (b := Xiz (fun r => K (F71_O.put r)) k v w) (by kernel_rfl) (by simp only [Gf, Xiz, z1, z2, z3, z4, z5, z6, z7, z8, u_0])
def Qh (k : Nat) : FD := ⟨71, Xzw, F71_O, Gf k⟩
theorem S4 (k : Nat) : (Qh k).Ok Tryz.prog := ⟨fun x => Ab (Aj .none _ _ _ _) Ag Tryz.func71 rfl rfl (X4f k _ _ some), .of (by kernel_rfl)⟩
abbrev X73 (k : Nat) : Env := Bd (A0 [Qh k]) Am .own [(false, 0), (false, 1)] k
abbrev Xq2 : List PA := [.p Q0]
abbrev F103_O : RO := ⟨[.v], [.str, Q0]⟩
def Xw {β : Type} (RET : (ByteArray × (Aa × Int)) → Option β) (k : Nat) (v : (Aa × Int)) : Option β := (Gf k v 8).bind fun b1 => Az b1.1 [(⟨#[97]⟩ : ByteArray), (⟨#[98]⟩ : ByteArray), (⟨#[99]⟩ : ByteArray), (⟨#[100, 100]⟩ : ByteArray), (⟨#[101, 101]⟩ : ByteArray), (⟨#[102]⟩ : ByteArray), (⟨#[103, 103]⟩ : ByteArray), (⟨#[104]⟩ : ByteArray)] (RET (Aw (t := .str) [(⟨#[97]⟩ : ByteArray), (⟨#[98]⟩ : ByteArray), (⟨#[99]⟩ : ByteArray), (⟨#[100, 100]⟩ : ByteArray), (⟨#[101, 101]⟩ : ByteArray), (⟨#[102]⟩ : ByteArray), (⟨#[103, 103]⟩ : ByteArray), (⟨#[104]⟩ : ByteArray)] b1.1, b1.2))
def Xai := Xw (β := ByteArray × (Aa × Int)) some
theorem Xva {β : Type} (k : Nat) (v : (Aa × Int)) (K : KT β) : Af (X73 k) Tryz.f103 (PsT.put Xq2 (v, ())) K = (Xai k v).bind fun r => K (F103_O.put r) :=
 Eq.trans (b := Xw (fun r => K (F103_O.put r)) k v) (by kernel_rfl) (by simp only [Xai, Xw, z1, z2, z3, z4, z5, z6, z7, z8, u_0])
def Xd2 (k : Nat) : FD := ⟨103, Xq2, F103_O, Xai k⟩
theorem Xqv (k : Nat) : (Xd2 k).Ok Tryz.prog := ⟨fun x => Ab (Aj (Ah (.c (S4 k) .n)) _ _ _ _) Ag Tryz.func103 rfl rfl (Xva k _ some), .of (by kernel_rfl)⟩
abbrev X1w (k : Nat) : Env := Bd (A0 [Qh k]) Am .own [(false, 0), (false, 1)] k
abbrev Xlu : List PA := [.p Q0, .one mI]
abbrev F144_O : RO := ⟨[.v], [mB, Q0]⟩
def Yj {β : Type} (RET : (Bool × (Aa × Int)) → Option β) (k : Nat) (v : (Aa × Int)) (w : Int) : Option β := cond (decide (w > 0)) ((Gf k v w).bind fun b1 => RET ((b1.1 == (i64.wrap (w - 1))), b1.2)) (RET (false, v))
def U2 := Yj (β := Bool × (Aa × Int)) some
theorem Xwl {β : Type} (k : Nat) (v : (Aa × Int)) (w : Int) (K : KT β) : Af (X1w k) Tryz.f144 (PsT.put Xlu (v, w, ())) K = (U2 k v w).bind fun r => K (F144_O.put r) :=
 Eq.trans (b := Yj (fun r => K (F144_O.put r)) k v w) (by kernel_rfl) (by simp only [U2, Yj, z1, z2, z3, z4, z5, z6, z7, z8, u_0])
def Xn (k : Nat) : FD := ⟨144, Xlu, F144_O, U2 k⟩
theorem Xeo (k : Nat) : (Xn k).Ok Tryz.prog := ⟨fun x => Ab (Aj (Ah (.c (S4 k) .n)) _ _ _ _) Ag Tryz.func144 rfl rfl (Xwl k _ _ some), .of (by kernel_rfl)⟩
abbrev X22 (k : Nat) : Env := Bd (A0 [Xd2 k, Qh k, Xn k]) Am .own [(false, 0), (false, 1)] k
abbrev Xqr : List PA := [.p Q0, .one mI]
abbrev F169_O : RO := ⟨[.a], [.pair .str m_2, Q0]⟩
def Zq {β : Type} (RET : (den nam) × (Aa × Int) → Option β) (k : Nat) (v : (Aa × Int)) (w : Int) : Option β := (Xai k v).bind fun b1 => (Gf k b1.2 9).bind fun b2 => (Gf k b2.2 20).bind fun b3 => (Gf k b3.2 2).bind fun b4 => cond (b4.1 == 0) ((Xai k b4.2).bind fun b5 => (U2 k b5.2 w).bind fun b6 => cond b6.1 ((Gf k b6.2 4).bind fun b7 => cond (b7.1 == 0) ((Gf k b7.2 3).bind fun b8 => Az b8.1 [(⟨#[]⟩ : ByteArray), (⟨#[65]⟩ : ByteArray), (⟨#[97, 98, 99, 100, 101, 102, 103, 104, 105, 106, 107, 108, 109]⟩ : ByteArray)] (RET ((Aw (t := .str) [(⟨#[]⟩ : ByteArray), (⟨#[65]⟩ : ByteArray), (⟨#[97, 98, 99, 100, 101, 102, 103, 104, 105, 106, 107, 108, 109]⟩ : ByteArray)] b8.1, 2, 0, b5.1, i64.wrap (1 + b3.1)), b8.2))) (cond (b7.1 == 1) ((Gf k b7.2 2).bind fun b9 => RET ((b1.1, 2, 0, b5.1, i64.wrap (b9.1 * 51)), b9.2)) (cond (b7.1 == 2) ((Gf k b7.2 5).bind fun b10 => RET ((b1.1, b10.1, 0, b5.1, i64.wrap (1 + b3.1)), b10.2)) (RET ((b1.1, 2, 0, (⟨#[120, 32, 121]⟩ : ByteArray), i64.wrap (1 + b3.1)), b7.2))))) (RET ((b1.1, 2, 0, b5.1, i64.wrap (1 + b3.1)), b6.2))) ((U2 k b4.2 w).bind fun b11 => cond b11.1 ((Gf k b11.2 4).bind fun b12 => cond (b12.1 == 0) ((Gf k b12.2 3).bind fun b13 => Az b13.1 [(⟨#[]⟩ : ByteArray), (⟨#[65]⟩ : ByteArray), (⟨#[97, 98, 99, 100, 101, 102, 103, 104, 105, 106, 107, 108, 109]⟩ : ByteArray)] (RET ((Aw (t := .str) [(⟨#[]⟩ : ByteArray), (⟨#[65]⟩ : ByteArray), (⟨#[97, 98, 99, 100, 101, 102, 103, 104, 105, 106, 107, 108, 109]⟩ : ByteArray)] b13.1, 1, b2.1, (⟨#[]⟩ : ByteArray), i64.wrap (1 + b3.1)), b13.2))) (cond (b12.1 == 1) ((Gf k b12.2 2).bind fun b14 => RET ((b1.1, 1, b2.1, (⟨#[]⟩ : ByteArray), i64.wrap (b14.1 * 51)), b14.2)) (cond (b12.1 == 2) ((Gf k b12.2 5).bind fun b15 => RET ((b1.1, b15.1, b2.1, (⟨#[]⟩ : ByteArray), i64.wrap (1 + b3.1)), b15.2)) (RET ((b1.1, 1, b2.1, (⟨#[120, 32, 121]⟩ : ByteArray), i64.wrap (1 + b3.1)), b12.2))))) (RET ((b1.1, 1, b2.1, (⟨#[]⟩ : ByteArray), i64.wrap (1 + b3.1)), b11.2)))
def Xeu := Zq (β := (den nam) × (Aa × Int)) some
theorem Xw0 {β : Type} (k : Nat) (v : (Aa × Int)) (w : Int) (K : KT β) : Af (X22 k) Tryz.f169 (PsT.put Xqr (v, w, ())) K = (Xeu k v w).bind fun r => K (F169_O.put r) :=
 Eq.trans (b := Zq (fun r => K (F169_O.put r)) k v w) (by kernel_rfl) (by simp only [Xeu, Zq, z1, z2, z3, z4, z5, z6, z7, z8, u_0])
def Xr2 (k : Nat) : FD := ⟨169, Xqr, F169_O, Xeu k⟩
theorem X58 (k : Nat) : (Xr2 k).Ok Tryz.prog := ⟨fun x => Ab (Aj (Ah (.c (Xqv k) (.c (S4 k) (.c (Xeo k) .n)))) _ _ _ _) Ag Tryz.func169 rfl rfl (Xw0 k _ _ some), .of (by kernel_rfl)⟩
def X76 : Nat → Hint
 | 0 => ⟨pl 0 2 ((5, .own .own nam []) :: (pl 10 3 [])), pl 0 2 (pl 10000 1 [])⟩
 | _ => ⟨[], []⟩
abbrev Zs (k : Nat) : Env := Bd (A0 [Qh k, Xr2 k, Xn k]) X76 .own [(false, 0), (false, 1)] k
abbrev Xgl : List PA := [.p Q0, .one mI]
abbrev F102_O : RO := ⟨[.v], [.sl .own nam, Q0]⟩
noncomputable def X7g {β : Type} (k : Nat) (v : (Aa × Int)) (w : Int) (K : KT β) : Ex → St → Option β := Bx (Zs k) Tryz.f102 (PsT.put Xgl (v, w, ())) K
def Xv3 (v : (Aa × Int)) (w : Int) (x12_0 : Int) (m0_0 : (Aa × Int)) (m5900_0 : Ad) : St := ⟨(.one (.ptr (.cell 0) 2 0)) :: (.one (vI w)) :: dz 3 ((.one (.a (.cell 5900) 0 0 none)) :: dz 4 ((.one (.a (.cell 10000) 0 0 none)) :: (.one (vI ([(⟨#[97]⟩ : ByteArray), (⟨#[98]⟩ : ByteArray), (⟨#[99]⟩ : ByteArray), (⟨#[100, 100]⟩ : ByteArray), (⟨#[101, 101]⟩ : ByteArray), (⟨#[102]⟩ : ByteArray), (⟨#[103, 103]⟩ : ByteArray)].length : Int))) :: (.one (vI x12_0)) :: dz 24 [])), Cj 0 (Jb Q0 m0_0) [eM 10000 (.s .own .str [(⟨#[97]⟩ : ByteArray), (⟨#[98]⟩ : ByteArray), (⟨#[99]⟩ : ByteArray), (⟨#[100, 100]⟩ : ByteArray), (⟨#[101, 101]⟩ : ByteArray), (⟨#[102]⟩ : ByteArray), (⟨#[103, 103]⟩ : ByteArray)]), eM 5900 (.s .own nam m5900_0)]⟩
noncomputable def Px {β : Type} (k : Nat) (v : (Aa × Int)) (w : Int) (K : KT β) (n : Nat) (x12_0 : Int) (m0_0 : (Aa × Int)) (m5900_0 : Ad) : Option β := A7 (Zs k) Tryz.f102 [1, 1, 0, 1, 0] 0 (Ap (Zs k) [1, 1, 0, 1, 0] (Ar Tryz.f102) 0 (X7g k v w K)) n (Xv3 v w x12_0 m0_0 m5900_0)
def J9 {β : Type} (NX : Int → (Aa × Int) → Ad → Option β) (RET : (Ad × (Aa × Int)) → Option β) (k : Nat) (v : (Aa × Int)) (w : Int) (x12_0 : Int) (m0_0 : (Aa × Int)) (m5900_0 : Ad) : Option β := cond (decide (x12_0 < ([(⟨#[97]⟩ : ByteArray), (⟨#[98]⟩ : ByteArray), (⟨#[99]⟩ : ByteArray), (⟨#[100, 100]⟩ : ByteArray), (⟨#[101, 101]⟩ : ByteArray), (⟨#[102]⟩ : ByteArray), (⟨#[103, 103]⟩ : ByteArray)].length : Int))) (Az x12_0 [(⟨#[97]⟩ : ByteArray), (⟨#[98]⟩ : ByteArray), (⟨#[99]⟩ : ByteArray), (⟨#[100, 100]⟩ : ByteArray), (⟨#[101, 101]⟩ : ByteArray), (⟨#[102]⟩ : ByteArray), (⟨#[103, 103]⟩ : ByteArray)] ((Gf k m0_0 3).bind fun b1 => cond (decide (b1.1 > 0)) ((Xeu k b1.2 0).bind fun b2 => Bi (m5900_0.length) ([(Aw (t := .str) [(⟨#[97]⟩ : ByteArray), (⟨#[98]⟩ : ByteArray), (⟨#[99]⟩ : ByteArray), (⟨#[100, 100]⟩ : ByteArray), (⟨#[101, 101]⟩ : ByteArray), (⟨#[102]⟩ : ByteArray), (⟨#[103, 103]⟩ : ByteArray)] x12_0, b2.1.2)].length) 56 (NX (i64.wrap (x12_0 + 1)) b2.2 (m5900_0 ++ [(Aw (t := .str) [(⟨#[97]⟩ : ByteArray), (⟨#[98]⟩ : ByteArray), (⟨#[99]⟩ : ByteArray), (⟨#[100, 100]⟩ : ByteArray), (⟨#[101, 101]⟩ : ByteArray), (⟨#[102]⟩ : ByteArray), (⟨#[103, 103]⟩ : ByteArray)] x12_0, b2.1.2)]))) (NX (i64.wrap (x12_0 + 1)) b1.2 m5900_0))) ((U2 k m0_0 w).bind fun b3 => cond b3.1 ((Xeu k b3.2 1).bind fun b4 => Bi (m5900_0.length) ([b4.1].length) 56 (RET (m5900_0 ++ [b4.1], b4.2))) (RET (m5900_0, b3.2)))
def Jq (k : Nat) (v : (Aa × Int)) (w : Int) : Nat → Int → (Aa × Int) → Ad → Option (Ad × (Aa × Int))
 | 0, _, _, _ => none
 | n + 1, x12_0, m0_0, m5900_0 => J9 (Jq k v w n) some k v w x12_0 m0_0 m5900_0
theorem Xf6 {β : Type} (k : Nat) (v : (Aa × Int)) (w : Int) (K : KT β) (n : Nat) : ∀ (x12_0 : Int) (m0_0 : (Aa × Int)) (m5900_0 : Ad), Px k v w K n x12_0 m0_0 m5900_0 =
  (Jq k v w n x12_0 m0_0 m5900_0).bind fun r => K (F102_O.put r) := by
 induction n with
 | zero => intros; rfl
 | succ n ih =>
  intro x12_0 m0_0 m5900_0
  refine Eq.trans (b := J9 (Px k v w K n) (fun r => K (F102_O.put r)) k v w x12_0 m0_0 m5900_0) (by kernel_rfl) ?_
  rw [Jq]
  simp only [J9, z1, z2, z3, z4, z5, z6, z7, z8, u_0, ih]
def Xgz {β : Type} (LP0 : Int → (Aa × Int) → Ad → Option β) (k : Nat) (v : (Aa × Int)) (w : Int) : Option β := LP0 0 v []
def Xmz (k : Nat) (v : (Aa × Int)) (w : Int) : Option (Ad × (Aa × Int)) := Xgz (Jq k v w k) k v w
theorem Xw6 {β : Type} (k : Nat) (v : (Aa × Int)) (w : Int) (K : KT β) : Af (Zs k) Tryz.f102 (PsT.put Xgl (v, w, ())) K = (Xmz k v w).bind fun r => K (F102_O.put r) :=
 Eq.trans (b := Xgz (Px k v w K k) k v w) (by kernel_rfl) (by simp only [Xmz, Xgz, z1, z2, z3, z4, z5, z6, z7, z8, u_0, Xf6])
def Xs1 (k : Nat) : FD := ⟨102, Xgl, F102_O, Xmz k⟩
theorem X23 (k : Nat) : (Xs1 k).Ok Tryz.prog := ⟨fun x => Ab (Aj (Ah (.c (S4 k) (.c (X58 k) (.c (Xeo k) .n)))) _ _ _ _) Ag Tryz.func102 rfl rfl (Xw6 k _ _ some), .of (by kernel_rfl)⟩
abbrev X9r (k : Nat) : Env := Bd Bq Am .own [] k
abbrev Xzk : List PA := [.one mI, .one mI, .one mI]
abbrev F60_O : RO := ⟨[.v], [mB]⟩
def K7 (k : Nat) (v w p : Int) : Option (Bool) := cond (decide (v ≥ w)) (some (decide (v ≤ p))) (some false)
theorem X7o {β : Type} (k : Nat) (v w p : Int) (K : KT β) : Af (X9r k) Tryz.f60 (PsT.put Xzk (v, w, p, ())) K = (K7 k v w p).bind fun r => K (F60_O.put r) :=
 Eq.trans (b := cond (decide (v ≥ w)) (K (F60_O.put (decide (v ≤ p)))) (K (F60_O.put false))) (by kernel_rfl) (by simp only [K7, z1, z2, z3, z4, z5, z6, z7, z8])
def Xi2 (k : Nat) : FD := ⟨60, Xzk, F60_O, K7 k⟩
theorem Xl7 (k : Nat) : (Xi2 k).Ok Tryz.prog := ⟨fun x => Ab (Aj .none _ _ _ _) Ag Tryz.func60 rfl rfl (X7o k _ _ _ some), .of (by kernel_rfl)⟩
abbrev X7l (k : Nat) : Env := Bd Bq Am .own [] k
abbrev Xsv : List PA := [.one mI]
abbrev F278_O : RO := ⟨[.v], [mI]⟩
def X9 {β : Type} (RET : Int → Option β) (k : Nat) (v : Int) : Option β := cond (decide ((i64.wrap (16 - v)) < 0)) none (RET (i64.wrap (1 * 2 ^ (min (i64.wrap (16 - v)).toNat 64))))
def Xbc := X9 (β := Int) some
theorem Xyu {β : Type} (k : Nat) (v : Int) (K : KT β) : Af (X7l k) Tryz.f278 (PsT.put Xsv (v, ())) K = (Xbc k v).bind fun r => K (F278_O.put r) :=
 Eq.trans (b := X9 (fun r => K (F278_O.put r)) k v) (by kernel_rfl) (by simp only [Xbc, X9, z1, z2, z3, z4, z5, z6, z7, z8])
def Xok (k : Nat) : FD := ⟨278, Xsv, F278_O, Xbc k⟩
theorem X08 (k : Nat) : (Xok k).Ok Tryz.prog := ⟨fun x => Ab (Aj .none _ _ _ _) Ag Tryz.func278 rfl rfl (Xyu k _ some), .of (by kernel_rfl)⟩
abbrev X1h (k : Nat) : Env := Bd (A0 [Xi2 k, Xok k]) Am .own [] k
abbrev Xst : List PA := [.agg m_3]
abbrev F222_O : RO := ⟨[.v], [mB]⟩
def Yh {β : Type} (RET : Bool → Option β) (k : Nat) (v : (den Ci)) : Option β := Dg v fun v0 v1 v2 v3 => (K7 k v1 0 16).bind fun b1 => cond b1 ((K7 k v0 0 65535).bind fun b2 => cond b2 ((Xbc k v1).bind fun b3 => cond (decide (b3 = 0)) none (cond ((v0.tmod b3) == 0) ((K7 k v2 0 65535).bind fun b4 => cond b4 ((K7 k v3 1 48).bind fun b5 => RET b5) (RET false)) (RET false))) (RET false)) (RET false)
def Wk := Yh (β := Bool) some
theorem Xuu {β : Type} (k : Nat) (v : (den Ci)) (K : KT β) : Af (X1h k) Tryz.f222 (PsT.put Xst (v, ())) K = (Wk k v).bind fun r => K (F222_O.put r) :=
 Eq.trans (b := Yh (fun r => K (F222_O.put r)) k v) (by kernel_rfl) (by simp only [Wk, Yh, z1, z2, z3, z4, z5, z6, z7, z8, Dg])
def Xdy (k : Nat) : FD := ⟨222, Xst, F222_O, Wk k⟩
theorem Xpf (k : Nat) : (Xdy k).Ok Tryz.prog := ⟨fun x => Ab (Aj (Ah (.c (Xl7 k) (.c (X08 k) .n))) _ _ _ _) Ag Tryz.func222 rfl rfl (Xuu k _ some), .of (by kernel_rfl)⟩
def X64 : Nat → Hint
 | 0 => ⟨pl 0 1 (pl 3 1 []), []⟩
 | _ => ⟨[], []⟩
abbrev Xv (k : Nat) : Env := Bd (A0 [Xdy k]) X64 .own [] k
abbrev Xez : List PA := [.one (.sl .ro Ci)]
abbrev F202_O : RO := ⟨[.v], [mB]⟩
noncomputable def X8b {β : Type} (k : Nat) (v : A3) (K : KT β) : Ex → St → Option β := Bx (Xv k) Tryz.f202 (PsT.put Xez (v, ())) K
def Xy0 (v : A3) (x3_0 : Int) : St := ⟨(.one (.s .ro Ci v)) :: (.one .d) :: (.one .d) :: (.one (vI x3_0)) :: dz 59 [], []⟩
noncomputable def P9 {β : Type} (k : Nat) (v : A3) (K : KT β) (n : Nat) (x3_0 : Int) : Option β := A7 (Xv k) Tryz.f202 [1, 0, 1, 0] 0 (Ap (Xv k) [1, 0, 1, 0] (Ar Tryz.f202) 0 (X8b k v K)) n (Xy0 v x3_0)
def J4 {β : Type} (NX : Int → Option β) (RET : Bool → Option β) (k : Nat) (v : A3) (x3_0 : Int) : Option β := cond (decide (x3_0 < (v.length : Int))) (Az x3_0 v ((Wk k (Aw v x3_0)).bind fun b1 => cond (!b1) (RET false) (cond (decide (x3_0 > 0)) (Az (i64.wrap (x3_0 - 1)) v (Az x3_0 v (cond (decide ((Aw v (i64.wrap (x3_0 - 1))).2.1 > (Aw v x3_0).2.1)) (RET false) (Az (i64.wrap (x3_0 - 1)) v (Az x3_0 v (cond ((Aw v (i64.wrap (x3_0 - 1))).2.1 == (Aw v x3_0).2.1) (Az (i64.wrap (x3_0 - 1)) v (Az x3_0 v (cond (decide ((Aw v (i64.wrap (x3_0 - 1))).1 ≥ (Aw v x3_0).1)) (RET false) (NX (i64.wrap (x3_0 + 1)))))) (NX (i64.wrap (x3_0 + 1))))))))) (NX (i64.wrap (x3_0 + 1)))))) (RET (decide ((v.length : Int) ≤ 8)))
def Jr (k : Nat) (v : A3) : Nat → Int → Option (Bool)
 | 0, _ => none
 | n + 1, x3_0 => J4 (Jr k v n) some k v x3_0
theorem Xfi {β : Type} (k : Nat) (v : A3) (K : KT β) (n : Nat) : ∀ (x3_0 : Int), P9 k v K n x3_0 =
  (Jr k v n x3_0).bind fun r => K (F202_O.put r) := by
 induction n with
 | zero => intros; rfl
 | succ n ih =>
  intro x3_0
  refine Eq.trans (b := J4 (P9 k v K n) (fun r => K (F202_O.put r)) k v x3_0) (by kernel_rfl) ?_
  rw [Jr]
  simp only [J4, z1, z2, z3, z4, z5, z6, z7, z8, ih]
def Xe2 {β : Type} (LP0 : Int → Option β) (k : Nat) (v : A3) : Option β := LP0 0
def F202 (k : Nat) (v : A3) : Option (Bool) := Xe2 (Jr k v k) k v
theorem Xwn {β : Type} (k : Nat) (v : A3) (K : KT β) : Af (Xv k) Tryz.f202 (PsT.put Xez (v, ())) K = (F202 k v).bind fun r => K (F202_O.put r) :=
 Eq.trans (b := Xe2 (P9 k v K k) k v) (by kernel_rfl) (by simp only [F202, Xe2, z1, z2, z3, z4, z5, z6, z7, z8, Xfi])
def Xq0 (k : Nat) : FD := ⟨202, Xez, F202_O, F202 k⟩
theorem X15 (k : Nat) : (Xq0 k).Ok Tryz.prog := ⟨fun x => Ab (Aj (Ah (.c (Xpf k) .n)) _ _ _ _) Ag Tryz.func202 rfl rfl (Xwn k _ some), .of (by kernel_rfl)⟩
def X3s : Nat → Hint
 | 0 => ⟨pl 0 1 (pl 3 1 ((6, .own .own Ci []) :: (pl 7 2 []))), pl 3000 4 []⟩
 | _ => ⟨[], []⟩
abbrev Zx (k : Nat) : Env := Bd (A0 [Xq0 k, Xdy k]) X3s .own [] k
abbrev Xda : List PA := [.one (.sl .ro Ci), .agg m_3]
abbrev F143_O : RO := ⟨[.v, .v], [.sl .own Ci, mB]⟩
noncomputable def X4d {β : Type} (k : Nat) (v : A3) (w : (den Ci)) (K : KT β) : Ex → St → Option β := Bx (Zx k) Tryz.f143 (PsT.put Xda (v, w, ())) K
def Xu5 (v : A3) (w : (den Ci)) (x7_0 : Bool) (x8_0 : Int) (m6900_0 : A3) : St := ⟨(.one (.s .ro Ci v)) :: (.one .d) :: (.one .d) :: (.one (.ptr (.cell 3000) 4 0)) :: (.one .d) :: (.one .d) :: (.one (.a (.cell 6900) 0 0 none)) :: (.one (vB x7_0)) :: (.one (vI x8_0)) :: dz 76 [], Cj 3000 (Jb m_3 w) [eM 6900 (.s .own Ci m6900_0)]⟩
noncomputable def Om {β : Type} (k : Nat) (v : A3) (w : (den Ci)) (K : KT β) (n : Nat) (x7_0 : Bool) (x8_0 : Int) (m6900_0 : A3) : Option β := A7 (Zx k) Tryz.f143 [1, 1, 1, 0, 1, 0] 0 (Ap (Zx k) [1, 1, 1, 0, 1, 0] (Ar Tryz.f143) 0 (X4d k v w K)) n (Xu5 v w x7_0 x8_0 m6900_0)
def E0 {β : Type} (k : Nat) (v : A3) (w : (den Ci)) (NX : Bool → Int → A3 → Option β) (RET : (A3 × Bool) → Option β) (m6900_0 : A3) (x8_0 : Int) : Option β := Dg w fun w0 w1 w2 w3 => Bi ((m6900_0 ++ [(w0, w1, w2, w3)]).length) ([(Aw v x8_0)].length) 32 (NX true (i64.wrap (x8_0 + 1)) ((m6900_0 ++ [(w0, w1, w2, w3)]) ++ [(Aw v x8_0)]))
def E7 {β : Type} (k : Nat) (v : A3) (w : (den Ci)) (NX : Bool → Int → A3 → Option β) (RET : (A3 × Bool) → Option β) (m6900_0 : A3) (x8_0 : Int) : Option β := Dg w fun w0 w1 w2 w3 => Bi (m6900_0.length) ([(w0, w1, w2, w3)].length) 32 (cond ((Aw v x8_0).2.1 != w1) (E0 k v w NX RET m6900_0 x8_0) (cond ((Aw v x8_0).1 != w0) (E0 k v w NX RET m6900_0 x8_0) (NX true (i64.wrap (x8_0 + 1)) (m6900_0 ++ [(w0, w1, w2, w3)]))))
def Dp {β : Type} (k : Nat) (v : A3) (w : (den Ci)) (NX : Bool → Int → A3 → Option β) (RET : (A3 × Bool) → Option β) (x8_0 : Int) (m6900_0 : A3) (x7_0 : Bool) : Option β := cond ((Aw v x8_0).2.1 != w.2.1) (Bi (m6900_0.length) ([(Aw v x8_0)].length) 32 (NX x7_0 (i64.wrap (x8_0 + 1)) (m6900_0 ++ [(Aw v x8_0)]))) (cond ((Aw v x8_0).1 != w.1) (Bi (m6900_0.length) ([(Aw v x8_0)].length) 32 (NX x7_0 (i64.wrap (x8_0 + 1)) (m6900_0 ++ [(Aw v x8_0)]))) (NX x7_0 (i64.wrap (x8_0 + 1)) m6900_0))
def Kq {β : Type} (NX : Bool → Int → A3 → Option β) (RET : (A3 × Bool) → Option β) (k : Nat) (v : A3) (w : (den Ci)) (x7_0 : Bool) (x8_0 : Int) (m6900_0 : A3) : Option β := Dg w fun w0 w1 w2 w3 => cond (decide (x8_0 < (v.length : Int))) (Az x8_0 v (cond (!x7_0) (cond (decide (w1 < (Aw v x8_0).2.1)) (E7 k v w NX RET m6900_0 x8_0) (cond (w1 == (Aw v x8_0).2.1) (cond (decide (w0 ≤ (Aw v x8_0).1)) (E7 k v w NX RET m6900_0 x8_0) (Dp k v w NX RET x8_0 m6900_0 x7_0)) (Dp k v w NX RET x8_0 m6900_0 x7_0))) (Dp k v w NX RET x8_0 m6900_0 x7_0))) (cond (!x7_0) (Bi (m6900_0.length) ([(w0, w1, w2, w3)].length) 32 ((F202 k v).bind fun b1 => cond (!b1) (RET ([], false)) ((Wk k w).bind fun b2 => cond (!b2) (RET ([], false)) (cond (decide (((m6900_0 ++ [(w0, w1, w2, w3)]).length : Int) > 8)) (RET ([], false)) (RET (m6900_0 ++ [(w0, w1, w2, w3)], true)))))) ((F202 k v).bind fun b3 => cond (!b3) (RET ([], false)) ((Wk k w).bind fun b4 => cond (!b4) (RET ([], false)) (cond (decide ((m6900_0.length : Int) > 8)) (RET ([], false)) (RET (m6900_0, true))))))
def Ej (k : Nat) (v : A3) (w : (den Ci)) : Nat → Bool → Int → A3 → Option (A3 × Bool)
 | 0, _, _, _ => none
 | n + 1, x7_0, x8_0, m6900_0 => Kq (Ej k v w n) some k v w x7_0 x8_0 m6900_0
theorem Xfc {β : Type} (k : Nat) (v : A3) (w : (den Ci)) (K : KT β) (n : Nat) : ∀ (x7_0 : Bool) (x8_0 : Int) (m6900_0 : A3), Om k v w K n x7_0 x8_0 m6900_0 =
  (Ej k v w n x7_0 x8_0 m6900_0).bind fun r => K (F143_O.put r) := by
 induction n with
 | zero => intros; rfl
 | succ n ih =>
  intro x7_0 x8_0 m6900_0
  refine Eq.trans (b := Kq (Om k v w K n) (fun r => K (F143_O.put r)) k v w x7_0 x8_0 m6900_0) (by kernel_rfl) ?_
  rw [Ej]
  simp only [Kq, E0, E7, Dp, z1, z2, z3, z4, z5, z6, z7, z8, Dg, ih]
def Xes {β : Type} (LP0 : Bool → Int → A3 → Option β) (k : Nat) (v : A3) (w : (den Ci)) : Option β := LP0 false 0 []
def Xx (k : Nat) (v : A3) (w : (den Ci)) : Option (A3 × Bool) := Xes (Ej k v w k) k v w
theorem Xu4 {β : Type} (k : Nat) (v : A3) (w : (den Ci)) (K : KT β) : Af (Zx k) Tryz.f143 (PsT.put Xda (v, w, ())) K = (Xx k v w).bind fun r => K (F143_O.put r) :=
 Eq.trans (b := Xes (Om k v w K k) k v w) (by kernel_rfl) (by simp only [Xx, Xes, z1, z2, z3, z4, z5, z6, z7, z8, Dg, Xfc])
def Xsw (k : Nat) : FD := ⟨143, Xda, F143_O, Xx k⟩
theorem X1r (k : Nat) : (Xsw k).Ok Tryz.prog := ⟨fun x => Ab (Aj (Ah (.c (X15 k) (.c (Xpf k) .n))) _ _ _ _) Ag Tryz.func143 rfl rfl (Xu4 k _ _ some), .of (by kernel_rfl)⟩
end
end Go.Proofs.YtdmepjjepogddaaGreat.Gn
end

section
set_option linter.unusedVariables false
set_option linter.unusedSimpArgs false
namespace Go.Proofs.YtdmepjjepogddaaGreat.Gn
open Go.Rf IntKind
noncomputable section
def Yae : Nat → Hint
 | 0 => ⟨pl 0 2 (pl 5 1 ((6, .own .own sta []) :: (pl 7 1 []))), pl 0 2 []⟩
 | 2 => ⟨pl 0 2 (pl 5 5 []), pl 0 2 (pl 6900 1 (pl 8000 1 ((8001, .own .own Ci []) :: [])))⟩
 | _ => ⟨[], []⟩
abbrev I8 (k : Nat) : Env := Bd (A0 [Qh k, Xsw k, Xn k]) Yae .ro [(false, 0), (false, 1)] k
abbrev Xmp : List PA := [.p Q0, .one mI]
abbrev F70_O : RO := ⟨[.v], [.sl .ro sta, Q0]⟩
noncomputable def Xoy {β : Type} (k : Nat) (v : (Aa × Int)) (w : Int) (K : KT β) : Ex → St → Option β := Bx (I8 k) Tryz.f70 (PsT.put Xmp (v, w, ())) K
def X7h (v : (Aa × Int)) (w : Int) (x5_2 x7_2 x9_2 : Int) (m0_2 : (Aa × Int)) (m6900_2 : Aq) (m8000_2 : (den sta)) : St := ⟨(.one (.ptr (.cell 0) 2 0)) :: (.one (vI w)) :: dz 3 ((.one (vI x5_2)) :: (.one (.a (.cell 6900) 0 0 none)) :: (.one (vI x7_2)) :: (.one (.ptr (.cell 8000) 2 0)) :: (.one (vI x9_2)) :: dz 87 []), Cj 0 (Jb Q0 m0_2) ((eM 6900 (.s .own sta m6900_2)) :: Cj 8000 (Jb (.pair mI (.sl .own Ci)) m8000_2) [])⟩
noncomputable def Uc {β : Type} (k : Nat) (v : (Aa × Int)) (w : Int) (KK : Ex → St → Option β) (n : Nat) (x5_2 x7_2 x9_2 : Int) (m0_2 : (Aa × Int)) (m6900_2 : Aq) (m8000_2 : (den sta)) : Option β := A7 (I8 k) Tryz.f70 [1, 1, 1, 0, 1, 0, 0, 1, 0, 0, 1, 0, 1, 0] 2 KK n (X7h v w x5_2 x7_2 x9_2 m0_2 m6900_2 m8000_2)
def G1 {β : Type} (k : Nat) (v : (Aa × Int)) (w : Int) (NX : Int → Int → Int → (Aa × Int) → Aq → (den sta) → Option β) (EX0 : (Int × Int × Int × (Aa × Int) × Aq × (den sta)) → Option β) (b3 : Int × (Aa × Int)) (x5_2 : Int) (m8000_2 : (den sta)) (x9_2 x7_2 : Int) (m6900_2 : Aq) : Option β := (Gf k b3.2 (i64.wrap (x5_2 + 1))).bind fun b4 => (Gf k b4.2 4).bind fun b5 => (Xx k m8000_2.2 (i64.wrap (10 + x9_2), 16, i64.wrap (10 + b4.1), i64.wrap (3 + (i64.wrap (b5.1 * 4))))).bind fun b6 => NX x5_2 x7_2 (i64.wrap (x9_2 + 1)) b5.2 m6900_2 (m8000_2.1, b6.1)
def Mr {β : Type} (NX : Int → Int → Int → (Aa × Int) → Aq → (den sta) → Option β) (EX0 : (Int × Int × Int × (Aa × Int) × Aq × (den sta)) → Option β) (k : Nat) (v : (Aa × Int)) (w : Int) (x5_2 x7_2 x9_2 : Int) (m0_2 : (Aa × Int)) (m6900_2 : Aq) (m8000_2 : (den sta)) : Option β := cond (decide (x9_2 < x5_2)) (cond (x9_2 != x7_2) ((Gf k m0_2 12).bind fun b2 => cond (decide (b2.1 > 0)) (cond (decide (x9_2 < x7_2)) ((Gf k b2.2 20).bind fun b3 => cond (b3.1 == 0) (G1 k v w NX EX0 b3 x5_2 m8000_2 x9_2 x7_2 m6900_2) ((Gf k b3.2 4).bind fun b7 => (Xx k m8000_2.2 (i64.wrap (10 + x9_2), 16, i64.wrap ((i64.wrap (10 + x7_2)) - 1), i64.wrap (3 + (i64.wrap (b7.1 * 4))))).bind fun b8 => NX x5_2 x7_2 (i64.wrap (x9_2 + 1)) b7.2 m6900_2 (m8000_2.1, b8.1))) ((Gf k b2.2 20).bind fun b9 => cond (b9.1 == 0) (G1 k v w NX EX0 b9 x5_2 m8000_2 x9_2 x7_2 m6900_2) ((Gf k b9.2 4).bind fun b13 => (Xx k m8000_2.2 (i64.wrap (10 + x9_2), 16, i64.wrap ((i64.wrap (10 + x7_2)) + 1), i64.wrap (3 + (i64.wrap (b13.1 * 4))))).bind fun b14 => NX x5_2 x7_2 (i64.wrap (x9_2 + 1)) b13.2 m6900_2 (m8000_2.1, b14.1)))) (NX x5_2 x7_2 (i64.wrap (x9_2 + 1)) b2.2 m6900_2 m8000_2)) (NX x5_2 x7_2 (i64.wrap (x9_2 + 1)) m0_2 m6900_2 m8000_2)) (EX0 (x5_2, x7_2, x9_2, m0_2, m6900_2, m8000_2))
def Ih (k : Nat) (v : (Aa × Int)) (w : Int) : Nat → Int → Int → Int → (Aa × Int) → Aq → (den sta) → Option ((Int × Int × Int × (Aa × Int) × Aq × (den sta)))
 | 0, _, _, _, _, _, _ => none
 | n + 1, x5_2, x7_2, x9_2, m0_2, m6900_2, m8000_2 => Mr (Ih k v w n) (fun y2 => some y2) k v w x5_2 x7_2 x9_2 m0_2 m6900_2 m8000_2
theorem Xlc {β : Type} (k : Nat) (v : (Aa × Int)) (w : Int) (KK : Ex → St → Option β) (n : Nat) : ∀ (x5_2 x7_2 x9_2 : Int) (m0_2 : (Aa × Int)) (m6900_2 : Aq) (m8000_2 : (den sta)), Uc k v w KK n x5_2 x7_2 x9_2 m0_2 m6900_2 m8000_2 =
  (Ih k v w n x5_2 x7_2 x9_2 m0_2 m6900_2 m8000_2).bind fun y2 => KK (.exit 2) ⟨(.one (.ptr (.cell 0) 2 0)) :: (.one (vI w)) :: dz 3 ((.one (vI y2.1)) :: (.one (.a (.cell 6900) 0 0 none)) :: (.one (vI y2.2.1)) :: (.one (.ptr (.cell 8000) 2 0)) :: (.one (vI y2.2.2.1)) :: dz 13 ((.one (vI y2.2.2.1)) :: (.one (vI y2.1)) :: (.one (vB false)) :: dz 71 [])), Cj 0 (Jb Q0 y2.2.2.2.1) ((eM 6900 (.s .own sta y2.2.2.2.2.1)) :: Cj 8000 (Jb (.pair mI (.sl .own Ci)) y2.2.2.2.2.2) [])⟩ := by
 induction n with
 | zero => intros; rfl
 | succ n ih =>
  intro x5_2 x7_2 x9_2 m0_2 m6900_2 m8000_2
  refine Eq.trans (b := Mr (Uc k v w KK n) (fun y2 => KK (.exit 2) ⟨(.one (.ptr (.cell 0) 2 0)) :: (.one (vI w)) :: dz 3 ((.one (vI y2.1)) :: (.one (.a (.cell 6900) 0 0 none)) :: (.one (vI y2.2.1)) :: (.one (.ptr (.cell 8000) 2 0)) :: (.one (vI y2.2.2.1)) :: dz 13 ((.one (vI y2.2.2.1)) :: (.one (vI y2.1)) :: (.one (vB false)) :: dz 71 [])), Cj 0 (Jb Q0 y2.2.2.2.1) ((eM 6900 (.s .own sta y2.2.2.2.2.1)) :: Cj 8000 (Jb (.pair mI (.sl .own Ci)) y2.2.2.2.2.2) [])⟩) k v w x5_2 x7_2 x9_2 m0_2 m6900_2 m8000_2) (by kernel_rfl) ?_
  rw [Ih]
  simp only [Mr, G1, z1, z2, z3, z4, z5, z6, z7, z8, u_0, ih]
def X1u (v : (Aa × Int)) (w : Int) (x5_0 x7_0 : Int) (m0_0 : (Aa × Int)) (m6900_0 : Aq) : St := ⟨(.one (.ptr (.cell 0) 2 0)) :: (.one (vI w)) :: dz 3 ((.one (vI x5_0)) :: (.one (.a (.cell 6900) 0 0 none)) :: (.one (vI x7_0)) :: dz 89 []), Cj 0 (Jb Q0 m0_0) [eM 6900 (.s .own sta m6900_0)]⟩
noncomputable def Me {β : Type} (k : Nat) (v : (Aa × Int)) (w : Int) (K : KT β) (n : Nat) (x5_0 x7_0 : Int) (m0_0 : (Aa × Int)) (m6900_0 : Aq) : Option β := A7 (I8 k) Tryz.f70 [1, 1, 1, 0, 1, 0] 0 (Ap (I8 k) [1, 1, 1, 0, 1, 0] (Ar Tryz.f70) 0 (Xoy k v w K)) n (X1u v w x5_0 x7_0 m0_0 m6900_0)
def Iw (k : Nat) (v : (Aa × Int)) (w : Int) : Nat → Int → Int → (Aa × Int) → Aq → Option (Aq × (Aa × Int))
 | 0, _, _, _, _ => none
 | n + 1, x5_0, x7_0, m0_0, m6900_0 => cond (decide (x7_0 < x5_0)) ((Ih k v w k x5_0 x7_0 0 m0_0 m6900_0 (i64.wrap (10 + x7_0), [])).bind fun y2 => (Gf k y2.2.2.2.1 4).bind fun b15 => cond (b15.1 == 0) ((Gf k b15.2 y2.1).bind fun b16 => (Xx k y2.2.2.2.2.2.2 (0, 0, i64.wrap (10 + b16.1), 8)).bind fun b17 => Bi (y2.2.2.2.2.1.length) ([(y2.2.2.2.2.2.1, b17.1)].length) 32 (Iw k v w n y2.1 (i64.wrap (y2.2.1 + 1)) b16.2 (y2.2.2.2.2.1 ++ [(y2.2.2.2.2.2.1, b17.1)]))) (Bi (y2.2.2.2.2.1.length) ([y2.2.2.2.2.2].length) 32 (Iw k v w n y2.1 (i64.wrap (y2.2.1 + 1)) b15.2 (y2.2.2.2.2.1 ++ [y2.2.2.2.2.2])))) ((U2 k m0_0 w).bind fun b18 => cond b18.1 (cond (decide (0 < (m6900_0.length : Int))) (Bi (m6900_0.length) ([(Aw m6900_0 0)].length) 32 (some (m6900_0 ++ [(Aw m6900_0 0)], b18.2))) none) (some (m6900_0, b18.2)))
theorem Xah {β : Type} (k n : Nat) (v : (Aa × Int)) (w : Int) (y2 : Int × Int × Int × (Aa × Int) × Aq × (den sta)) (K : KT β) :
  (Ap (I8 k) [1, 0, 0, 1, 0, 1, 0] (C0 [1, 1, 1, 0, 1, 0, 0] (Ar Tryz.f70)) 0 (Xd (I8 k) Tryz.f70 [1, 1, 1, 0, 1, 0] 0 (Ap (I8 k) [1, 1, 1, 0, 1, 0] (Ar Tryz.f70) 0 (Xoy k v w K)) n)) (.exit 2) ⟨(.one (.ptr (.cell 0) 2 0)) :: (.one (vI w)) :: dz 3 ((.one (vI y2.1)) :: (.one (.a (.cell 6900) 0 0 none)) :: (.one (vI y2.2.1)) :: (.one (.ptr (.cell 8000) 2 0)) :: (.one (vI y2.2.2.1)) :: dz 13 ((.one (vI y2.2.2.1)) :: (.one (vI y2.1)) :: (.one (vB false)) :: dz 71 [])), Cj 0 (Jb Q0 y2.2.2.2.1) ((eM 6900 (.s .own sta y2.2.2.2.2.1)) :: Cj 8000 (Jb (.pair mI (.sl .own Ci)) y2.2.2.2.2.2) [])⟩ =
  (Gf k y2.2.2.2.1 4).bind fun b15 => cond (b15.1 == 0) ((Gf k b15.2 y2.1).bind fun b16 => (Xx k y2.2.2.2.2.2.2 (0, 0, i64.wrap (10 + b16.1), 8)).bind fun b17 => Bi (y2.2.2.2.2.1.length) ([(y2.2.2.2.2.2.1, b17.1)].length) 32 (Me k v w K n y2.1 (i64.wrap (y2.2.1 + 1)) b16.2 (y2.2.2.2.2.1 ++ [(y2.2.2.2.2.2.1, b17.1)]))) (Bi (y2.2.2.2.2.1.length) ([y2.2.2.2.2.2].length) 32 (Me k v w K n y2.1 (i64.wrap (y2.2.1 + 1)) b15.2 (y2.2.2.2.2.1 ++ [y2.2.2.2.2.2]))) := by kernel_rfl
theorem Xk7 {β : Type} (k : Nat) (v : (Aa × Int)) (w : Int) (K : KT β) (n : Nat) : ∀ (x5_0 x7_0 : Int) (m0_0 : (Aa × Int)) (m6900_0 : Aq), Me k v w K n x5_0 x7_0 m0_0 m6900_0 =
  (Iw k v w n x5_0 x7_0 m0_0 m6900_0).bind fun r => K (F70_O.put r) := by
 induction n with
 | zero => intros; rfl
 | succ n ih =>
  intro x5_0 x7_0 m0_0 m6900_0
  refine Eq.trans (b := cond (decide (x7_0 < x5_0)) (Uc k v w (Ap (I8 k) [1, 0, 0, 1, 0, 1, 0] (C0 [1, 1, 1, 0, 1, 0, 0] (Ar Tryz.f70)) 0 (Xd (I8 k) Tryz.f70 [1, 1, 1, 0, 1, 0] 0 (Ap (I8 k) [1, 1, 1, 0, 1, 0] (Ar Tryz.f70) 0 (Xoy k v w K)) n)) k x5_0 x7_0 0 m0_0 m6900_0 (i64.wrap (10 + x7_0), [])) ((U2 k m0_0 w).bind fun b18 => cond b18.1 (cond (decide (0 < (m6900_0.length : Int))) (Bi (m6900_0.length) ([(Aw m6900_0 0)].length) 32 (K (F70_O.put (m6900_0 ++ [(Aw m6900_0 0)], b18.2)))) none) (K (F70_O.put (m6900_0, b18.2))))) (by kernel_rfl) ?_
  rw [Iw]
  simp only [z1, z2, z3, z4, z5, z6, z7, z8, u_0, Xlc, Xah k n v w _ K, ih, Az, Bi]
def Xh9 {β : Type} (LP0 : Int → Int → (Aa × Int) → Aq → Option β) (k : Nat) (v : (Aa × Int)) (w : Int) : Option β := (Gf k v 5).bind fun b1 => LP0 (i64.wrap (1 + b1.1)) 0 b1.2 []
def F70 (k : Nat) (v : (Aa × Int)) (w : Int) : Option (Aq × (Aa × Int)) := Xh9 (Iw k v w k) k v w
theorem X31 {β : Type} (k : Nat) (v : (Aa × Int)) (w : Int) (K : KT β) : Af (I8 k) Tryz.f70 (PsT.put Xmp (v, w, ())) K = (F70 k v w).bind fun r => K (F70_O.put r) :=
 Eq.trans (b := Xh9 (Me k v w K k) k v w) (by kernel_rfl) (by simp only [F70, Xh9, z1, z2, z3, z4, z5, z6, z7, z8, u_0, Xk7])
def X0m (k : Nat) : FD := ⟨70, Xmp, F70_O, F70 k⟩
theorem X8k (k : Nat) : (X0m k).Ok Tryz.prog := ⟨fun x => Ab (Aj (Ah (.c (S4 k) (.c (X1r k) (.c (Xeo k) .n)))) _ _ _ _) Ag Tryz.func70 rfl rfl (X31 k _ _ some), .of (by kernel_rfl)⟩
def X89 : Nat → Hint
 | 0 => ⟨pl 0 2 ((5, .own .own (.int .u8) []) :: []), pl 0 2 []⟩
 | _ => ⟨[], []⟩
abbrev Xhx (k : Nat) : Env := Bd (A0 [Qh k]) X89 .own [(false, 0), (false, 1)] k
abbrev Xmj : List PA := [.p Q0, .one mI]
abbrev F72_O : RO := ⟨[.v], [.sl .own (.int .u8), Q0]⟩
noncomputable def X9y {β : Type} (k : Nat) (v : (Aa × Int)) (w : Int) (K : KT β) : Ex → St → Option β := Bx (Xhx k) Tryz.f72 (PsT.put Xmj (v, w, ())) K
def X6v (v : (Aa × Int)) (w : Int) (x1_0 : Int) (m0_0 : (Aa × Int)) (m5900_0 : Aa) : St := ⟨(.one (.ptr (.cell 0) 2 0)) :: (.one (vI x1_0)) :: dz 3 ((.one (.a (.cell 5900) 0 0 none)) :: dz 22 []), Cj 0 (Jb Q0 m0_0) [eM 5900 (.s .own (.int .u8) m5900_0)]⟩
noncomputable def T3 {β : Type} (k : Nat) (v : (Aa × Int)) (w : Int) (K : KT β) (n : Nat) (x1_0 : Int) (m0_0 : (Aa × Int)) (m5900_0 : Aa) : Option β := A7 (Xhx k) Tryz.f72 [1, 1, 0, 0] 0 (Ap (Xhx k) [1, 1, 0, 0] (Ar Tryz.f72) 0 (X9y k v w K)) n (X6v v w x1_0 m0_0 m5900_0)
def G0 {β : Type} (NX : Int → (Aa × Int) → Aa → Option β) (RET : (Aa × (Aa × Int)) → Option β) (k : Nat) (v : (Aa × Int)) (w : Int) (x1_0 : Int) (m0_0 : (Aa × Int)) (m5900_0 : Aa) : Option β := cond (decide (x1_0 > 0)) ((Gf k m0_0 3).bind fun b1 => cond (b1.1 == 0) ((Gf k b1.2 256).bind fun b2 => Bi (m5900_0.length) ([u8.wrap b2.1].length) 1 (NX (i64.wrap (x1_0 - 1)) b2.2 (m5900_0 ++ [u8.wrap b2.1]))) ((Gf k b1.2 3).bind fun b3 => Bi (m5900_0.length) ([u8.wrap (i64.wrap (b3.1 + 97))].length) 1 (NX (i64.wrap (x1_0 - 1)) b3.2 (m5900_0 ++ [u8.wrap (i64.wrap (b3.1 + 97))])))) (RET (m5900_0, m0_0))
def E4 (k : Nat) (v : (Aa × Int)) (w : Int) : Nat → Int → (Aa × Int) → Aa → Option (Aa × (Aa × Int))
 | 0, _, _, _ => none
 | n + 1, x1_0, m0_0, m5900_0 => G0 (E4 k v w n) some k v w x1_0 m0_0 m5900_0
theorem Xj0 {β : Type} (k : Nat) (v : (Aa × Int)) (w : Int) (K : KT β) (n : Nat) : ∀ (x1_0 : Int) (m0_0 : (Aa × Int)) (m5900_0 : Aa), T3 k v w K n x1_0 m0_0 m5900_0 =
  (E4 k v w n x1_0 m0_0 m5900_0).bind fun r => K (F72_O.put r) := by
 induction n with
 | zero => intros; rfl
 | succ n ih =>
  intro x1_0 m0_0 m5900_0
  refine Eq.trans (b := G0 (T3 k v w K n) (fun r => K (F72_O.put r)) k v w x1_0 m0_0 m5900_0) (by kernel_rfl) ?_
  rw [E4]
  simp only [G0, z1, z2, z3, z4, z5, z6, z7, z8, u_0, ih]
def Xrs {β : Type} (LP0 : Int → (Aa × Int) → Aa → Option β) (k : Nat) (v : (Aa × Int)) (w : Int) : Option β := LP0 w v []
def F72 (k : Nat) (v : (Aa × Int)) (w : Int) : Option (Aa × (Aa × Int)) := Xrs (E4 k v w k) k v w
theorem X14 {β : Type} (k : Nat) (v : (Aa × Int)) (w : Int) (K : KT β) : Af (Xhx k) Tryz.f72 (PsT.put Xmj (v, w, ())) K = (F72 k v w).bind fun r => K (F72_O.put r) :=
 Eq.trans (b := Xrs (T3 k v w K k) k v w) (by kernel_rfl) (by simp only [F72, Xrs, z1, z2, z3, z4, z5, z6, z7, z8, u_0, Xj0])
def X0s (k : Nat) : FD := ⟨72, Xmj, F72_O, F72 k⟩
theorem X9k (k : Nat) : (X0s k).Ok Tryz.prog := ⟨fun x => Ab (Aj (Ah (.c (S4 k) .n)) _ _ _ _) Ag Tryz.func72 rfl rfl (X14 k _ _ some), .of (by kernel_rfl)⟩
def X98 : Nat → Hint
 | 0 => ⟨pl 7 3 [], pl 12000 2 (pl 14000 1 [])⟩
 | _ => ⟨[], []⟩
abbrev Xhu (k : Nat) : Env := Bd (A0 [X0n k, Xs1 k, Qh k, X0m k, Xd2 k, X0s k]) X98 .own [] k
abbrev Xrq : Type := Ad × ByteArray × Aq × Int × Aa
abbrev Xtb : List PA := [.one (.sl .ro (.int .u8))]
abbrev F43_O : RO := ⟨[.v, .v, .v, .v, .v], [.sl .own nam, .str, .sl .ro sta, mI, .sl .own (.int .u8)]⟩
noncomputable def X94 {β : Type} (k : Nat) (v : Aa) (K : KT β) : Ex → St → Option β := Bx (Xhu k) Tryz.f43 (PsT.put Xtb (v, ())) K
def X12 (v : Aa) (x9_0 : Int) (m12000_0 : (Aa × Int)) (m14000_0 : Ad) : St := ⟨dz 7 ((.one (.ptr (.cell 12000) 2 0)) :: (.one (.a (.cell 14000) 0 0 none)) :: (.one (vI x9_0)) :: dz 38 []), Cj 12000 (Jb Q0 m12000_0) [eM 14000 (.s .own nam m14000_0)]⟩
noncomputable def T0 {β : Type} (k : Nat) (v : Aa) (K : KT β) (n : Nat) (x9_0 : Int) (m12000_0 : (Aa × Int)) (m14000_0 : Ad) : Option β := A7 (Xhu k) Tryz.f43 [1, 1, 1, 0, 1, 0] 0 (Ap (Xhu k) [1, 1, 1, 0, 1, 0] (Ar Tryz.f43) 0 (X94 k v K)) n (X12 v x9_0 m12000_0 m14000_0)
def Nm {β : Type} (NX : Int → (Aa × Int) → Ad → Option β) (RET : Xrq → Option β) (k : Nat) (v : Aa) (x9_0 : Int) (m12000_0 : (Aa × Int)) (m14000_0 : Ad) : Option β := cond (decide (x9_0 < (m14000_0.length : Int))) (Az x9_0 m14000_0 (cond ((Aw m14000_0 x9_0).2.1 == 1) ((Gf k m12000_0 5).bind fun b3 => Az x9_0 m14000_0 (NX (i64.wrap (x9_0 + 1)) b3.2 (m14000_0.set x9_0.toNat ((Aw m14000_0 x9_0).1, (Aw m14000_0 x9_0).2.1, i64.wrap (10 + b3.1), (Aw m14000_0 x9_0).2.2.2)))) (NX (i64.wrap (x9_0 + 1)) m12000_0 m14000_0))) ((F70 k m12000_0 0).bind fun b4 => (Xai k b4.2).bind fun b5 => (Gf k b5.2 (b4.1.length : Int)).bind fun b6 => (Gf k b6.2 30).bind fun b7 => (F72 k b7.2 b7.1).bind fun b8 => RET (m14000_0, b5.1, b4.1, b6.1, b8.1))
def O8 (k : Nat) (v : Aa) : Nat → Int → (Aa × Int) → Ad → Option (Xrq)
 | 0, _, _, _ => none
 | n + 1, x9_0, m12000_0, m14000_0 => Nm (O8 k v n) some k v x9_0 m12000_0 m14000_0
theorem Xjt {β : Type} (k : Nat) (v : Aa) (K : KT β) (n : Nat) : ∀ (x9_0 : Int) (m12000_0 : (Aa × Int)) (m14000_0 : Ad), T0 k v K n x9_0 m12000_0 m14000_0 =
  (O8 k v n x9_0 m12000_0 m14000_0).bind fun r => K (F43_O.put r) := by
 induction n with
 | zero => intros; rfl
 | succ n ih =>
  intro x9_0 m12000_0 m14000_0
  refine Eq.trans (b := Nm (T0 k v K n) (fun r => K (F43_O.put r)) k v x9_0 m12000_0 m14000_0) (by kernel_rfl) ?_
  rw [O8]
  simp only [Nm, z1, z2, z3, z4, z5, z6, z7, z8, ih]
def Xg5 {β : Type} (LP0 : Int → (Aa × Int) → Ad → Option β) (k : Nat) (v : Aa) : Option β := (F69 k v).bind fun b1 => (Xmz k b1 0).bind fun b2 => LP0 0 b2.2 b2.1
def F43 (k : Nat) (v : Aa) : Option (Xrq) := Xg5 (O8 k v k) k v
theorem X20 {β : Type} (k : Nat) (v : Aa) (K : KT β) : Af (Xhu k) Tryz.f43 (PsT.put Xtb (v, ())) K = (F43 k v).bind fun r => K (F43_O.put r) :=
 Eq.trans (b := Xg5 (T0 k v K k) k v) (by kernel_rfl) (by simp only [F43, Xg5, z1, z2, z3, z4, z5, z6, z7, z8, Xjt])
def Xz2 (k : Nat) : FD := ⟨43, Xtb, F43_O, F43 k⟩
theorem X86 (k : Nat) : (Xz2 k).Ok Tryz.prog := ⟨fun x => Ab (Aj (Ah (.c (X8t k) (.c (X23 k) (.c (S4 k) (.c (X8k k) (.c (Xqv k) (.c (X9k k) .n))))))) _ _ _ _) Ag Tryz.func43 rfl rfl (X20 k _ some), .of (by kernel_rfl)⟩
def X2y : Nat → Hint
 | 0 => ⟨pl 0 1 (pl 3 1 []), []⟩
 | _ => ⟨[], []⟩
abbrev Xq (k : Nat) : Env := Bd (A0 [Xi2 k]) X2y .own [] k
abbrev Xe1 : List PA := [.one .str]
abbrev F174_O : RO := ⟨[.v], [mB]⟩
noncomputable def X49 {β : Type} (k : Nat) (v : ByteArray) (K : KT β) : Ex → St → Option β := Bx (Xq k) Tryz.f174 (PsT.put Xe1 (v, ())) K
def Xvz (v : ByteArray) (x3_0 : Int) : St := ⟨(.one (.v (.string v))) :: (.one .d) :: (.one .d) :: (.one (vI x3_0)) :: dz 19 [], []⟩
noncomputable def Pv {β : Type} (k : Nat) (v : ByteArray) (K : KT β) (n : Nat) (x3_0 : Int) : Option β := A7 (Xq k) Tryz.f174 [1, 0, 1, 0] 0 (Ap (Xq k) [1, 0, 1, 0] (Ar Tryz.f174) 0 (X49 k v K)) n (Xvz v x3_0)
def J0 {β : Type} (NX : Int → Option β) (RET : Bool → Option β) (k : Nat) (v : ByteArray) (x3_0 : Int) : Option β := cond (decide (x3_0 < ((v.size : Nat) : Int))) (cond (decide (0 ≤ x3_0)) (cond (decide (x3_0 < (v.size : Int))) (cond (decide ((atB v x3_0) < 97)) (RET false) (cond (decide (0 ≤ x3_0)) (cond (decide (x3_0 < (v.size : Int))) (cond (decide ((atB v x3_0) > 122)) (RET false) (NX (i64.wrap (x3_0 + 1)))) none) none)) none) none) ((K7 k ((v.size : Nat) : Int) 1 12).bind fun b1 => RET b1)
def J1 (k : Nat) (v : ByteArray) : Nat → Int → Option (Bool)
 | 0, _ => none
 | n + 1, x3_0 => J0 (J1 k v n) some k v x3_0
theorem Xdz {β : Type} (k : Nat) (v : ByteArray) (K : KT β) (n : Nat) : ∀ (x3_0 : Int), Pv k v K n x3_0 =
  (J1 k v n x3_0).bind fun r => K (F174_O.put r) := by
 induction n with
 | zero => intros; rfl
 | succ n ih =>
  intro x3_0
  refine Eq.trans (b := J0 (Pv k v K n) (fun r => K (F174_O.put r)) k v x3_0) (by kernel_rfl) ?_
  rw [J1]
  simp only [J0, z1, z2, z3, z4, z5, z6, z7, z8, ih]
def Xdc {β : Type} (LP0 : Int → Option β) (k : Nat) (v : ByteArray) : Option β := LP0 0
def F174 (k : Nat) (v : ByteArray) : Option (Bool) := Xdc (J1 k v k) k v
theorem Xxm {β : Type} (k : Nat) (v : ByteArray) (K : KT β) : Af (Xq k) Tryz.f174 (PsT.put Xe1 (v, ())) K = (F174 k v).bind fun r => K (F174_O.put r) :=
 Eq.trans (b := Xdc (Pv k v K k) k v) (by kernel_rfl) (by simp only [F174, Xdc, z1, z2, z3, z4, z5, z6, z7, z8, Xdz])
def Xdj (k : Nat) : FD := ⟨174, Xe1, F174_O, F174 k⟩
theorem Xpe (k : Nat) : (Xdj k).Ok Tryz.prog := ⟨fun x => Ab (Aj (Ah (.c (Xl7 k) .n)) _ _ _ _) Ag Tryz.func174 rfl rfl (Xxm k _ some), .of (by kernel_rfl)⟩
abbrev X1l (k : Nat) : Env := Bd (A0 [Xdj k, Xi2 k]) Am .own [] k
abbrev Xty : List PA := [.agg (.pair .str m_2)]
abbrev F230_O : RO := ⟨[.v], [mB]⟩
def Yf {β : Type} (RET : Bool → Option β) (k : Nat) (v : (den nam)) : Option β := S9 v fun v0 v1 v2 v3 v4 => (F174 k v0).bind fun b1 => cond (!b1) (RET false) ((K7 k v4 1 50).bind fun b2 => cond (!b2) (RET false) (cond (v1 == 1) ((K7 k v2 0 65535).bind fun b3 => cond b3 (RET (v3.toList == (⟨#[]⟩ : ByteArray).toList)) (RET false)) (cond (v1 == 2) (cond (v2 == 0) ((F174 k v3).bind fun b4 => RET b4) (RET false)) (cond (v1 == 0) (cond (v2 == 0) (RET (v3.toList == (⟨#[]⟩ : ByteArray).toList)) (RET false)) (RET false)))))
def Xgm := Yf (β := Bool) some
theorem Xvx {β : Type} (k : Nat) (v : (den nam)) (K : KT β) : Af (X1l k) Tryz.f230 (PsT.put Xty (v, ())) K = (Xgm k v).bind fun r => K (F230_O.put r) :=
 Eq.trans (b := Yf (fun r => K (F230_O.put r)) k v) (by kernel_rfl) (by simp only [Xgm, Yf, z1, z2, z3, z4, z5, z6, z7, z8, S9])
def Xsz (k : Nat) : FD := ⟨230, Xty, F230_O, Xgm k⟩
theorem X1v (k : Nat) : (Xsz k).Ok Tryz.prog := ⟨fun x => Ab (Aj (Ah (.c (Xpe k) (.c (Xl7 k) .n))) _ _ _ _) Ag Tryz.func230 rfl rfl (Xvx k _ some), .of (by kernel_rfl)⟩
def X32 : Nat → Hint
 | 0 => ⟨pl 0 1 (pl 3 1 []), []⟩
 | _ => ⟨[], []⟩
abbrev Xg (k : Nat) : Env := Bd (A0 [Xsz k]) X32 .own [] k
abbrev Xc8 : List PA := [.one (.sl .ro nam)]
abbrev F173_O : RO := ⟨[.v], [mB]⟩
noncomputable def X6l {β : Type} (k : Nat) (v : Ad) (K : KT β) : Ex → St → Option β := Bx (Xg k) Tryz.f173 (PsT.put Xc8 (v, ())) K
def Xvv (v : Ad) (x3_0 : Int) : St := ⟨(.one (.s .ro nam v)) :: (.one .d) :: (.one .d) :: (.one (vI x3_0)) :: dz 41 [], []⟩
noncomputable def O7 {β : Type} (k : Nat) (v : Ad) (K : KT β) (n : Nat) (x3_0 : Int) : Option β := A7 (Xg k) Tryz.f173 [1, 0, 1, 0] 0 (Ap (Xg k) [1, 0, 1, 0] (Ar Tryz.f173) 0 (X6l k v K)) n (Xvv v x3_0)
def Km {β : Type} (NX : Int → Option β) (RET : Bool → Option β) (k : Nat) (v : Ad) (x3_0 : Int) : Option β := cond (decide (x3_0 < (v.length : Int))) (Az x3_0 v ((Xgm k (Aw v x3_0)).bind fun b1 => cond (!b1) (RET false) (Az x3_0 v (cond ((Aw v x3_0).2.1 == 0) (RET false) (cond (decide (x3_0 > 0)) (Az (i64.wrap (x3_0 - 1)) v (Az x3_0 v (cond (!Go.Op.bytesLess (Aw v (i64.wrap (x3_0 - 1))).1.toList (Aw v x3_0).1.toList) (RET false) (NX (i64.wrap (x3_0 + 1)))))) (NX (i64.wrap (x3_0 + 1)))))))) (RET (decide ((v.length : Int) ≤ 8)))
def Kg (k : Nat) (v : Ad) : Nat → Int → Option (Bool)
 | 0, _ => none
 | n + 1, x3_0 => Km (Kg k v n) some k v x3_0
theorem Xge {β : Type} (k : Nat) (v : Ad) (K : KT β) (n : Nat) : ∀ (x3_0 : Int), O7 k v K n x3_0 =
  (Kg k v n x3_0).bind fun r => K (F173_O.put r) := by
 induction n with
 | zero => intros; rfl
 | succ n ih =>
  intro x3_0
  refine Eq.trans (b := Km (O7 k v K n) (fun r => K (F173_O.put r)) k v x3_0) (by kernel_rfl) ?_
  rw [Kg]
  simp only [Km, z1, z2, z3, z4, z5, z6, z7, z8, ih]
def Xdk {β : Type} (LP0 : Int → Option β) (k : Nat) (v : Ad) : Option β := LP0 0
def Xbd (k : Nat) (v : Ad) : Option (Bool) := Xdk (Kg k v k) k v
theorem Xwq {β : Type} (k : Nat) (v : Ad) (K : KT β) : Af (Xg k) Tryz.f173 (PsT.put Xc8 (v, ())) K = (Xbd k v).bind fun r => K (F173_O.put r) :=
 Eq.trans (b := Xdk (O7 k v K k) k v) (by kernel_rfl) (by simp only [Xbd, Xdk, z1, z2, z3, z4, z5, z6, z7, z8, Xge])
def Xrn (k : Nat) : FD := ⟨173, Xc8, F173_O, Xbd k⟩
theorem X19 (k : Nat) : (Xrn k).Ok Tryz.prog := ⟨fun x => Ab (Aj (Ah (.c (X1v k) .n)) _ _ _ _) Ag Tryz.func173 rfl rfl (Xwq k _ some), .of (by kernel_rfl)⟩
def X30 : Nat → Hint
 | 0 => ⟨pl 0 2 (pl 4 1 (pl 6 1 [])), pl 4000 5 []⟩
 | _ => ⟨[], []⟩
abbrev Zf (k : Nat) : Env := Bd (A0 [Xrn k, Xdj k]) X30 .own [] k
abbrev Xfp : List PA := [.one (.sl .ro nam), .one .str]
abbrev F109_O : RO := ⟨[.a, .v], [.pair .str m_2, mB]⟩
noncomputable def X2o {β : Type} (k : Nat) (v : Ad) (w : ByteArray) (K : KT β) : Ex → St → Option β := Bx (Zf k) Tryz.f109 (PsT.put Xfp (v, w, ())) K
def Xwp (v : Ad) (w : ByteArray) (x6_0 : Int) : St := ⟨(.one (.s .ro nam v)) :: (.one (.v (.string w))) :: (.one .d) :: (.one .d) :: (.one (.ptr (.cell 4000) 5 0)) :: (.one .d) :: (.one (vI x6_0)) :: dz 28 [], Cj 4000 (Jb (.pair .str m_2) ((⟨#[]⟩ : ByteArray), 0, 0, (⟨#[]⟩ : ByteArray), 0)) []⟩
noncomputable def Oh {β : Type} (k : Nat) (v : Ad) (w : ByteArray) (K : KT β) (n : Nat) (x6_0 : Int) : Option β := A7 (Zf k) Tryz.f109 [1, 1, 0, 1, 0] 0 (Ap (Zf k) [1, 1, 0, 1, 0] (Ar Tryz.f109) 0 (X2o k v w K)) n (Xwp v w x6_0)
def Kd {β : Type} (NX : Int → Option β) (RET : (den nam) × Bool → Option β) (k : Nat) (v : Ad) (w : ByteArray) (x6_0 : Int) : Option β := cond (decide (x6_0 < (v.length : Int))) (Az x6_0 v (cond ((Aw v x6_0).1.toList == w.toList) (Az x6_0 v (RET ((Aw v x6_0), true))) (NX (i64.wrap (x6_0 + 1))))) (RET ((w, 0, 0, (⟨#[]⟩ : ByteArray), 5), true))
def Fq (k : Nat) (v : Ad) (w : ByteArray) : Nat → Int → Option ((den nam) × Bool)
 | 0, _ => none
 | n + 1, x6_0 => Kd (Fq k v w n) some k v w x6_0
theorem Xe9 {β : Type} (k : Nat) (v : Ad) (w : ByteArray) (K : KT β) (n : Nat) : ∀ (x6_0 : Int), Oh k v w K n x6_0 =
  (Fq k v w n x6_0).bind fun r => K (F109_O.put r) := by
 induction n with
 | zero => intros; rfl
 | succ n ih =>
  intro x6_0
  refine Eq.trans (b := Kd (Oh k v w K n) (fun r => K (F109_O.put r)) k v w x6_0) (by kernel_rfl) ?_
  rw [Fq]
  simp only [Kd, z1, z2, z3, z4, z5, z6, z7, z8, ih]
def Tb {β : Type} (LP0 : Int → Option β) (RET : (den nam) × Bool → Option β) (k : Nat) (v : Ad) (w : ByteArray) : Option β := (Xbd k v).bind fun b1 => cond (!b1) (RET (((⟨#[]⟩ : ByteArray), 0, 0, (⟨#[]⟩ : ByteArray), 0), false)) ((F174 k w).bind fun b2 => cond (!b2) (RET (((⟨#[]⟩ : ByteArray), 0, 0, (⟨#[]⟩ : ByteArray), 0), false)) (LP0 0))
def Xbx (k : Nat) (v : Ad) (w : ByteArray) : Option ((den nam) × Bool) := Tb (Fq k v w k) some k v w
theorem Xym {β : Type} (k : Nat) (v : Ad) (w : ByteArray) (K : KT β) : Af (Zf k) Tryz.f109 (PsT.put Xfp (v, w, ())) K = (Xbx k v w).bind fun r => K (F109_O.put r) :=
 Eq.trans (b := Tb (Oh k v w K k) (fun r => K (F109_O.put r)) k v w) (by kernel_rfl) (by simp only [Xbx, Tb, z1, z2, z3, z4, z5, z6, z7, z8, Xe9])
def Xtu (k : Nat) : FD := ⟨109, Xfp, F109_O, Xbx k⟩
theorem X3o (k : Nat) : (Xtu k).Ok Tryz.prog := ⟨fun x => Ab (Aj (Ah (.c (X19 k) (.c (Xpe k) .n))) _ _ _ _) Ag Tryz.func109 rfl rfl (Xym k _ _ some), .of (by kernel_rfl)⟩
def X9x : Nat → Hint
 | 0 => ⟨pl 0 2 (pl 6 1 []), []⟩
 | _ => ⟨[], []⟩
abbrev Xh2 (k : Nat) : Env := Bd (A0 [Xtu k]) X9x .own [] k
abbrev Xpt : List PA := [.one (.sl .ro nam), .one .str]
abbrev F45_O : RO := ⟨[.v, .v], [mI, mB]⟩
noncomputable def X8v {β : Type} (k : Nat) (v : Ad) (w : ByteArray) (K : KT β) : Ex → St → Option β := Bx (Xh2 k) Tryz.f45 (PsT.put Xpt (v, w, ())) K
def X3e (v : Ad) (w : ByteArray) (x1_0 : ByteArray) (x6_0 : Int) : St := ⟨(.one (.s .ro nam v)) :: (.one (.v (.string x1_0))) :: dz 4 ((.one (vI x6_0)) :: dz 26 []), []⟩
noncomputable def Uk {β : Type} (k : Nat) (v : Ad) (w : ByteArray) (K : KT β) (n : Nat) (x1_0 : ByteArray) (x6_0 : Int) : Option β := A7 (Xh2 k) Tryz.f45 [1, 0, 1, 0] 0 (Ap (Xh2 k) [1, 0, 1, 0] (Ar Tryz.f45) 0 (X8v k v w K)) n (X3e v w x1_0 x6_0)
def Mq {β : Type} (NX : ByteArray → Int → Option β) (RET : (Int × Bool) → Option β) (k : Nat) (v : Ad) (w : ByteArray) (x1_0 : ByteArray) (x6_0 : Int) : Option β := cond (decide (x6_0 ≤ 4)) ((Xbx k v x1_0).bind fun b1 => cond (!b1.2) (RET (0, false)) (cond (b1.1.2.1 == 0) (RET (0, false)) (cond (b1.1.2.1 == 1) (RET (b1.1.2.2.1, true)) (NX b1.1.2.2.2.1 (i64.wrap (x6_0 + 1)))))) (RET (0, false))
def Hk (k : Nat) (v : Ad) (w : ByteArray) : Nat → ByteArray → Int → Option (Int × Bool)
 | 0, _, _ => none
 | n + 1, x1_0, x6_0 => Mq (Hk k v w n) some k v w x1_0 x6_0
theorem Xkm {β : Type} (k : Nat) (v : Ad) (w : ByteArray) (K : KT β) (n : Nat) : ∀ (x1_0 : ByteArray) (x6_0 : Int), Uk k v w K n x1_0 x6_0 =
  (Hk k v w n x1_0 x6_0).bind fun r => K (F45_O.put r) := by
 induction n with
 | zero => intros; rfl
 | succ n ih =>
  intro x1_0 x6_0
  refine Eq.trans (b := Mq (Uk k v w K n) (fun r => K (F45_O.put r)) k v w x1_0 x6_0) (by kernel_rfl) ?_
  rw [Hk]
  simp only [Mq, z1, z2, z3, z4, z5, z6, z7, z8, ih]
def Xqa {β : Type} (LP0 : ByteArray → Int → Option β) (k : Nat) (v : Ad) (w : ByteArray) : Option β := LP0 w 0
def F45 (k : Nat) (v : Ad) (w : ByteArray) : Option (Int × Bool) := Xqa (Hk k v w k) k v w
theorem X3j {β : Type} (k : Nat) (v : Ad) (w : ByteArray) (K : KT β) : Af (Xh2 k) Tryz.f45 (PsT.put Xpt (v, w, ())) K = (F45 k v w).bind fun r => K (F45_O.put r) :=
 Eq.trans (b := Xqa (Uk k v w K k) k v w) (by kernel_rfl) (by simp only [F45, Xqa, z1, z2, z3, z4, z5, z6, z7, z8, Xkm])
def Xz1 (k : Nat) : FD := ⟨45, Xpt, F45_O, F45 k⟩
theorem X9e (k : Nat) : (Xz1 k).Ok Tryz.prog := ⟨fun x => Ab (Aj (Ah (.c (X3o k) .n)) _ _ _ _) Ag Tryz.func45 rfl rfl (X3j k _ _ some), .of (by kernel_rfl)⟩
def F129 (k : Nat) (v : (den sta)) : Option (Bool) := (K7 k v.1 0 65535).bind fun b1 => cond b1 ((F202 k v.2).bind fun b2 => some b2) (some false)
end
end Go.Proofs.YtdmepjjepogddaaGreat.Gn
end

section
set_option linter.unusedVariables false
set_option linter.unusedSimpArgs false
namespace Go.Proofs.YtdmepjjepogddaaGreat.Gn
open Go.Rf IntKind
noncomputable section
def Xb1 {β : Type} (NX : Int → Int → Option β) (EX0 : (Int × Int) → Option β) (EX1 : (Int × Int) → Option β) (k : Nat) (v : Aq) (x3_2 x4_2 : Int) : Option β := cond (decide (x4_2 < x3_2)) (Az x4_2 v (Az x3_2 v (cond ((Aw v x4_2).1 == (Aw v x3_2).1) (EX0 (x3_2, x4_2)) (NX x3_2 (i64.wrap (x4_2 + 1)))))) (EX1 (x3_2, x4_2))
def Sy (k : Nat) (v : Aq) : Nat → Int → Int → Option ((Sum (Int × Int) (Int × Int)))
 | 0, _, _ => none
 | n + 1, x3_2, x4_2 => Xb1 (Sy k v n) (fun y2 => some (.inl y2)) (fun y2 => some (.inr y2)) k v x3_2 x4_2
def Uj (k : Nat) (v : Aq) : Nat → Int → Option (Bool)
 | 0, _ => none
 | n + 1, x3_0 => cond (decide (x3_0 < (v.length : Int))) (Az x3_0 v ((F129 k (Aw v x3_0)).bind fun b1 => cond (!b1) (some false) ((Sy k v k x3_0 0).bind fun z2 => Xjg (fun y2 => some false) (fun y2 => Uj k v n (i64.wrap (y2.1 + 1))) z2))) (some (decide ((v.length : Int) ≤ 5)))
def X9l {β : Type} (LP0 : Int → Option β) (k : Nat) (v : Aq) : Option β := LP0 0
def F59 (k : Nat) (v : Aq) : Option (Bool) := X9l (Uj k v k) k v
def Xma {β : Type} (RET : Bool → Option β) (k : Nat) (v : (den Ak)) : Option β := A5 v fun v0 v1 v2 v3 v4 v5 v6 v7 v8 => (K7 k v0 0 65535).bind fun b1 => cond (!b1) (RET false) ((K7 k v1 0 65535).bind fun b2 => cond (!b2) (RET false) ((K7 k v2 0 255).bind fun b3 => cond (!b3) (RET false) ((K7 k v3 0 255).bind fun b4 => cond (!b4) (RET false) ((K7 k v4 0 255).bind fun b5 => cond (!b5) (RET false) ((K7 k v5 0 255).bind fun b6 => cond (!b6) (RET false) (cond (decide ((v8.length : Int) ≤ 48)) (cond (!v6) (cond (!v7) (RET true) (cond (v5 == 0) (RET (!v6)) (RET false))) (cond (decide ((v8.length : Int) > 0)) (cond (!v7) (RET true) (cond (v5 == 0) (RET (!v6)) (RET false))) (RET false))) (RET false)))))))
def K8 := Xma (β := Bool) some
def R8 (k : Nat) (v : (den Ak)) : Option ((den Ak)) := A5 v fun v0 v1 v2 v3 v4 v5 v6 v7 v8 => Bi (([] : Aa).length) (v8.length) 1 (some (v0, v1, v2, v3, v4, v5, v6, v7, [] ++ v8))
def J7 {β : Type} (NX : Int → Aa → Option β) (RET : Aa → Option β) (k : Nat) (v w : Int) (x6_0 : Int) (m5900_0 : Aa) : Option β := cond (decide (x6_0 ≥ 0)) (cond (decide ((i64.wrap (8 * x6_0)) < 0)) none (Bi (m5900_0.length) ([u8.wrap ((v.fdiv (2 ^ (min (i64.wrap (8 * x6_0)).toNat 64))).tmod 256)].length) 1 (NX (i64.wrap (x6_0 - 1)) (m5900_0 ++ [u8.wrap ((v.fdiv (2 ^ (min (i64.wrap (8 * x6_0)).toNat 64))).tmod 256)])))) (RET m5900_0)
def Kb (k : Nat) (v w : Int) : Nat → Int → Aa → Option (Aa)
 | 0, _, _ => none
 | n + 1, x6_0, m5900_0 => J7 (Kb k v w n) some k v w x6_0 m5900_0
def Xru {β : Type} (LP0 : Int → Aa → Option β) (RET : Aa → Option β) (k : Nat) (v w : Int) : Option β := (K7 k w 1 4).bind fun b1 => cond (!b1) (RET []) (cond (decide ((i64.wrap (8 * w)) < 0)) none ((K7 k v 0 (i64.wrap ((i64.wrap (1 * 2 ^ (min (i64.wrap (8 * w)).toNat 64))) - 1))).bind fun b2 => cond (!b2) (RET []) (LP0 (i64.wrap (w - 1)) [])))
def Xla (k : Nat) (v w : Int) : Option (Aa) := Xru (Kb k v w k) some k v w
def X6m (k : Nat) (v : (den Ak)) : Option (Int) := cond v.2.2.2.2.2.2.1 (cond v.2.2.2.2.2.2.2.1 (some 3) (some 1)) (cond v.2.2.2.2.2.2.2.1 (some 2) (some 0))
def Xmo {β : Type} (RET : Aa → Option β) (k : Nat) (v : (den Ak)) : Option β := A5 v fun v0 v1 v2 v3 v4 v5 _ _ v8 => (Xla k v0 2).bind fun b1 => (Xla k v1 2).bind fun b2 => Bi (b1.length) (b2.length) 1 ((X6m k v).bind fun b3 => Bi ((b1 ++ b2).length) ([u8.wrap v2, u8.wrap v3, u8.wrap v4, u8.wrap v5, u8.wrap b3, u8.wrap (v8.length : Int)].length) 1 (RET ((b1 ++ b2) ++ [u8.wrap v2, u8.wrap v3, u8.wrap v4, u8.wrap v5, u8.wrap b3, u8.wrap (v8.length : Int)])))
def X3g := Xmo (β := Aa) some
def Jv {β : Type} (NX : Int → Int → Option β) (RET : Int → Option β) (k : Nat) (v : Aa) (x3_0 x4_0 : Int) : Option β := cond (decide (x4_0 < (v.length : Int))) (cond ((x4_0.tmod 2) == 0) (Az x4_0 v (cond (decide ((i64.wrap (x3_0 + (i64.wrap ((i64.wrap (Aw v x4_0)) * 256)))) > 65535)) (NX (i64.wrap ((i64.wrap (x3_0 + (i64.wrap ((i64.wrap (Aw v x4_0)) * 256)))) - 65535)) (i64.wrap (x4_0 + 1))) (NX (i64.wrap (x3_0 + (i64.wrap ((i64.wrap (Aw v x4_0)) * 256)))) (i64.wrap (x4_0 + 1))))) (Az x4_0 v (cond (decide ((i64.wrap (x3_0 + (i64.wrap (Aw v x4_0)))) > 65535)) (NX (i64.wrap ((i64.wrap (x3_0 + (i64.wrap (Aw v x4_0)))) - 65535)) (i64.wrap (x4_0 + 1))) (NX (i64.wrap (x3_0 + (i64.wrap (Aw v x4_0)))) (i64.wrap (x4_0 + 1)))))) (RET x3_0)
def Hx (k : Nat) (v : Aa) : Nat → Int → Int → Option (Int)
 | 0, _, _ => none
 | n + 1, x3_0, x4_0 => Jv (Hx k v n) some k v x3_0 x4_0
def Xum {β : Type} (LP0 : Int → Int → Option β) (k : Nat) (v : Aa) : Option β := LP0 0 0
def F279 (k : Nat) (v : Aa) : Option (Int) := Xum (Hx k v k) k v
def X3f (k : Nat) (v : Aa) : Option (Int) := (F279 k v).bind fun b1 => some (i64.wrap (65535 - b1))
def Xui {β : Type} (RET : Aa → Option β) (k : Nat) (v : (den Ak)) : Option β := (K8 k v).bind fun b1 => cond (!b1) (RET []) ((X3g k v).bind fun b2 => (X3f k b2).bind fun b3 => (Xla k b3 2).bind fun b4 => Bi (b2.length) (b4.length) 1 (Bi ((b2 ++ b4).length) (v.2.2.2.2.2.2.2.2.length) 1 (RET ((b2 ++ b4) ++ v.2.2.2.2.2.2.2.2))))
def X3d := Xui (β := Aa) some
def Xr5 {β : Type} (RET : Bool → Option β) (k : Nat) (v : (Int × (Int × Aa))) : Option β := (K7 k v.1 1 6).bind fun b1 => cond b1 ((K7 k v.2.1 0 65535).bind fun b2 => cond b2 (RET (decide ((v.2.2.length : Int) ≤ 20))) (RET false)) (RET false)
def Xu0 := Xr5 (β := Bool) some
def Xsa {β : Type} (RET : Aa → Option β) (k : Nat) (v : (Int × (Int × Aa))) : Option β := u_4 v fun v0 v1 v2 => (Xu0 k v).bind fun b1 => cond (!b1) (RET []) ((Xla k v1 2).bind fun b2 => Bi ([u8.wrap v0].length) (b2.length) 1 (Bi (([u8.wrap v0] ++ b2).length) ([u8.wrap (v2.length : Int)].length) 1 (Bi ((([u8.wrap v0] ++ b2) ++ [u8.wrap (v2.length : Int)]).length) (v2.length) 1 (RET ((([u8.wrap v0] ++ b2) ++ [u8.wrap (v2.length : Int)]) ++ v2)))))
def X44 := Xsa (β := Aa) some
def Kv {β : Type} (NX : Int → Int → Option β) (RET : Int → Option β) (k : Nat) (v : Aa) (w p : Int) (x7_0 x8_0 : Int) : Option β := cond (decide (x8_0 < p)) (Az (i64.wrap (w + x8_0)) v (NX (i64.wrap ((i64.wrap (x7_0 * 256)) + (i64.wrap (Aw v (i64.wrap (w + x8_0)))))) (i64.wrap (x8_0 + 1)))) (RET x7_0)
def Ju (k : Nat) (v : Aa) (w p : Int) : Nat → Int → Int → Option (Int)
 | 0, _, _ => none
 | n + 1, x7_0, x8_0 => Kv (Ju k v w p n) some k v w p x7_0 x8_0
def Xp8 {β : Type} (LP0 : Int → Int → Option β) (RET : Int → Option β) (k : Nat) (v : Aa) (w p : Int) : Option β := (K7 k p 1 4).bind fun b1 => cond (!b1) (RET (-1)) ((K7 k w 0 (i64.wrap ((v.length : Int) - p))).bind fun b2 => cond (!b2) (RET (-1)) (LP0 0 0))
def X6n (k : Nat) (v : Aa) (w p : Int) : Option (Int) := Xp8 (Ju k v w p k) some k v w p
abbrev Xmv : Type := (Int × (Int × Aa)) × Bool
def Xrx {β : Type} (RET : Xmv → Option β) (k : Nat) (v : Aa) : Option β := cond (decide ((v.length : Int) < 4)) (RET ((0, 0, []), false)) (cond (decide (0 < (v.length : Int))) ((X6n k v 1 2).bind fun b1 => cond (decide (0 ≤ 4) && decide (4 ≤ (v.length : Int))) (Bi (([] : Aa).length) ((v.drop 4).length) 1 ((Xu0 k (i64.wrap (Aw v 0), b1, [] ++ (v.drop 4))).bind fun b2 => cond (!b2) (RET ((0, 0, []), false)) (cond (decide (3 < (v.length : Int))) (cond ((i64.wrap (Aw v 3)) != (([] ++ (v.drop 4)).length : Int)) (RET ((0, 0, []), false)) (RET ((i64.wrap (Aw v 0), b1, [] ++ (v.drop 4)), true))) none))) none) none)
def X2x := Xrx (β := Xmv) some
def Xre {β : Type} (RET : Bool → Option β) (k : Nat) (v : (den Ak)) : Option β := (X2x k v.2.2.2.2.2.2.2.2).bind fun b1 => cond b1.2 (cond (v.2.2.1 == 1) (RET (decide (b1.1.1 ≥ 3))) (RET false)) (RET false)
def X7i := Xre (β := Bool) some
def Xt4 {β : Type} (RET : (den Ak) × Bool → Option β) (k : Nat) (v : (den Ak)) (w p q : Int) : Option β := (X3d k v).bind fun b1 => cond (decide (0 ≤ (if 20 < (b1.length : Int) then 20 else (b1.length : Int))) && decide ((if 20 < (b1.length : Int) then 20 else (b1.length : Int)) ≤ (b1.length : Int))) ((X44 k (p, q, (b1.take ((if 20 < (b1.length : Int) then 20 else (b1.length : Int)).toNat)).drop 0)).bind fun b2 => (K8 k v).bind fun b3 => cond (!b3) (RET ((0, 0, 0, 0, 0, 0, false, false, []), false)) ((K7 k w 0 65535).bind fun b4 => cond (!b4) (RET ((0, 0, 0, 0, 0, 0, false, false, []), false)) ((K7 k p 3 6).bind fun b5 => cond (!b5) (RET ((0, 0, 0, 0, 0, 0, false, false, []), false)) (cond ((b2.length : Int) == 0) (RET ((0, 0, 0, 0, 0, 0, false, false, []), false)) ((X7i k v).bind fun b6 => cond b6 (RET ((0, 0, 0, 0, 0, 0, false, false, []), false)) (cond (decide (v.2.2.2.2.2.1 > 0)) (RET ((0, 0, 0, 0, 0, 0, false, false, []), false)) (RET ((w, v.1, 1, 64, v.2.2.2.2.1, 0, false, false, b2), true)))))))) none
def Xyg := Xt4 (β := (den Ak) × Bool) some
def Xmg (k : Nat) (v : (den sta)) (w : (den Ak)) (p q : Int) : Option ((den Uy)) := (Xyg k w v.1 p q).bind fun b1 => cond (!b1.2) (some (0, 0, [])) (some (3, 0, [b1.1]))
def Xnn {β : Type} (RET : Bool → Option β) (k : Nat) (v : (den Ci)) (w : Int) : Option β := (Wk k v).bind fun b1 => cond b1 ((K7 k w 0 65535).bind fun b2 => cond b2 ((Xbc k v.2.1).bind fun b3 => cond (decide (b3 = 0)) none ((Xbc k v.2.1).bind fun b4 => cond (decide (b4 = 0)) none (RET ((i64.wrap (w.tdiv b3)) == (i64.wrap (v.1.tdiv b4)))))) (RET false)) (RET false)
def X34 := Xnn (β := Bool) some
end
end Go.Proofs.YtdmepjjepogddaaGreat.Gn
end

section
set_option linter.unusedVariables false
set_option linter.unusedSimpArgs false
namespace Go.Proofs.YtdmepjjepogddaaGreat.Gn
open Go.Rf IntKind
noncomputable section
def P4 {β : Type} (NX : Int → Option β) (RET : (den Ci) × Bool → Option β) (k : Nat) (v : A3) (w : Int) (x6_0 : Int) : Option β := cond (decide (x6_0 ≥ 0)) ((F202 k v).bind fun b1 => cond b1 (Az x6_0 v ((X34 k (Aw v x6_0) w).bind fun b2 => cond b2 (Az x6_0 v (RET ((Aw v x6_0), true))) (NX (i64.wrap (x6_0 - 1))))) (RET ((0, 0, 0, 0), false))) (RET ((0, 0, 0, 0), false))
def Nf (k : Nat) (v : A3) (w : Int) : Nat → Int → Option ((den Ci) × Bool)
 | 0, _ => none
 | n + 1, x6_0 => P4 (Nf k v w n) some k v w x6_0
def Xpq {β : Type} (LP0 : Int → Option β) (k : Nat) (v : A3) (w : Int) : Option β := LP0 (i64.wrap ((v.length : Int) - 1))
def X7k (k : Nat) (v : A3) (w : Int) : Option ((den Ci) × Bool) := Xpq (Nf k v w k) k v w
def Hc {β : Type} (k : Nat) (v : (den Ak)) (w : Int) (NX : Int → Al → Option β) (RET : (Al × Bool) → Option β) (x7_0 : Int) (m6900_0 : Al) : Option β := A5 v fun v0 v1 v2 v3 v4 v5 v6 v7 v8 => cond v6 (cond (decide (0 ≤ (if (v8.length : Int) < (i64.wrap (x7_0 + w)) then (v8.length : Int) else i64.wrap (x7_0 + w))) && decide ((if (v8.length : Int) < (i64.wrap (x7_0 + w)) then (v8.length : Int) else i64.wrap (x7_0 + w)) ≤ (v8.length : Int))) (cond (decide (0 ≤ x7_0) && decide (x7_0 ≤ (if (v8.length : Int) < (i64.wrap (x7_0 + w)) then (v8.length : Int) else i64.wrap (x7_0 + w)))) (Bi (([] : Aa).length) (((v8.take ((if (v8.length : Int) < (i64.wrap (x7_0 + w)) then (v8.length : Int) else i64.wrap (x7_0 + w)).toNat)).drop x7_0.toNat).length) 1 (cond (decide ((i64.wrap (v5 + x7_0)) > 255)) (RET ([], false)) (Bi (m6900_0.length) (([(v0, v1, v2, v3, v4, i64.wrap (v5 + x7_0), true, v7, [] ++ ((v8.take ((if (v8.length : Int) < (i64.wrap (x7_0 + w)) then (v8.length : Int) else i64.wrap (x7_0 + w)).toNat)).drop x7_0.toNat))] : Al).length) 80 (NX (i64.wrap (x7_0 + w)) (m6900_0 ++ [(v0, v1, v2, v3, v4, i64.wrap (v5 + x7_0), true, v7, [] ++ ((v8.take ((if (v8.length : Int) < (i64.wrap (x7_0 + w)) then (v8.length : Int) else i64.wrap (x7_0 + w)).toNat)).drop x7_0.toNat))]))))) none) none) (cond (decide (0 ≤ (if (v8.length : Int) < (i64.wrap (x7_0 + w)) then (v8.length : Int) else i64.wrap (x7_0 + w))) && decide ((if (v8.length : Int) < (i64.wrap (x7_0 + w)) then (v8.length : Int) else i64.wrap (x7_0 + w)) ≤ (v8.length : Int))) (cond (decide (0 ≤ x7_0) && decide (x7_0 ≤ (if (v8.length : Int) < (i64.wrap (x7_0 + w)) then (v8.length : Int) else i64.wrap (x7_0 + w)))) (Bi (([] : Aa).length) (((v8.take ((if (v8.length : Int) < (i64.wrap (x7_0 + w)) then (v8.length : Int) else i64.wrap (x7_0 + w)).toNat)).drop x7_0.toNat).length) 1 (cond (decide ((i64.wrap (v5 + x7_0)) > 255)) (RET ([], false)) (Bi (m6900_0.length) (([(v0, v1, v2, v3, v4, i64.wrap (v5 + x7_0), decide ((if (v8.length : Int) < (i64.wrap (x7_0 + w)) then (v8.length : Int) else i64.wrap (x7_0 + w)) < (v8.length : Int)), v7, [] ++ ((v8.take ((if (v8.length : Int) < (i64.wrap (x7_0 + w)) then (v8.length : Int) else i64.wrap (x7_0 + w)).toNat)).drop x7_0.toNat))] : Al).length) 80 (NX (i64.wrap (x7_0 + w)) (m6900_0 ++ [(v0, v1, v2, v3, v4, i64.wrap (v5 + x7_0), decide ((if (v8.length : Int) < (i64.wrap (x7_0 + w)) then (v8.length : Int) else i64.wrap (x7_0 + w)) < (v8.length : Int)), v7, [] ++ ((v8.take ((if (v8.length : Int) < (i64.wrap (x7_0 + w)) then (v8.length : Int) else i64.wrap (x7_0 + w)).toNat)).drop x7_0.toNat))]))))) none) none)
def P1 {β : Type} (NX : Int → Al → Option β) (RET : (Al × Bool) → Option β) (k : Nat) (v : (den Ak)) (w : Int) (x7_0 : Int) (m6900_0 : Al) : Option β := cond (x7_0 == 0) (Hc k v w NX RET x7_0 m6900_0) (cond (decide (x7_0 < (v.2.2.2.2.2.2.2.2.length : Int))) (Hc k v w NX RET x7_0 m6900_0) (RET (m6900_0, true)))
def H4 (k : Nat) (v : (den Ak)) (w : Int) : Nat → Int → Al → Option (Al × Bool)
 | 0, _, _ => none
 | n + 1, x7_0, m6900_0 => P1 (H4 k v w n) some k v w x7_0 m6900_0
def Xoq {β : Type} (LP0 : Int → Al → Option β) (RET : (Al × Bool) → Option β) (k : Nat) (v : (den Ak)) (w : Int) : Option β := (K8 k v).bind fun b1 => cond (!b1) (RET ([], false)) ((K7 k w 1 48).bind fun b2 => cond (!b2) (RET ([], false)) (cond (decide ((v.2.2.2.2.2.2.2.2.length : Int) > w)) (cond v.2.2.2.2.2.2.2.1 (RET ([], false)) (LP0 0 [])) (LP0 0 [])))
def Xmc (k : Nat) (v : (den Ak)) (w : Int) : Option (Al × Bool) := Xoq (H4 k v w k) some k v w
def Rh {β : Type} (k : Nat) (v : (den sta)) (w : (den Ak)) (RET : (den Uy) → Option β) (b5 : (den Ci) × Bool) : Option β := (R8 k w).bind fun b8 => (Xmc k (b8.1, b8.2.1, b8.2.2.1, i64.wrap (w.2.2.2.1 - 1), b8.2.2.2.2) b5.1.2.2.2).bind fun b9 => cond (!b9.2) (RET (0, 0, [])) (RET (2, b5.1.2.2.1, b9.1))
def Xrl {β : Type} (RET : (den Uy) → Option β) (k : Nat) (v : (den sta)) (w : (den Ak)) : Option β := (F129 k v).bind fun b1 => cond (!b1) (RET (0, 0, [])) ((K8 k w).bind fun b2 => cond (!b2) (RET (0, 0, [])) (cond (w.2.1 == v.1) ((R8 k w).bind fun b3 => RET (1, 0, [b3])) (cond (decide (w.2.2.2.1 < 2)) ((Xmg k v w 4 0).bind fun b4 => RET b4) ((X7k k v.2 w.2.1).bind fun b5 => cond (!b5.2) ((Xmg k v w 3 0).bind fun b6 => RET b6) (cond (decide ((w.2.2.2.2.2.2.2.2.length : Int) > b5.1.2.2.2)) (cond w.2.2.2.2.2.2.2.1 ((Xmg k v w 6 b5.1.2.2.2).bind fun b7 => RET b7) (Rh k v w RET b5)) (Rh k v w RET b5))))))
def X1y := Xrl (β := (den Uy)) some
def Wb {β : Type} (NX : Int → Option β) (RET : Int → Option β) (k : Nat) (v : Aq) (w : Int) (x5_0 : Int) : Option β := cond (decide (x5_0 < (v.length : Int))) (Az x5_0 v (cond ((Aw v x5_0).1 == w) (RET x5_0) (NX (i64.wrap (x5_0 + 1))))) (RET (-1))
def Re (k : Nat) (v : Aq) (w : Int) : Nat → Int → Option (Int)
 | 0, _ => none
 | n + 1, x5_0 => Wb (Re k v w n) some k v w x5_0
def X21 {β : Type} (LP0 : Int → Option β) (k : Nat) (v : Aq) (w : Int) : Option β := LP0 0
def F132 (k : Nat) (v : Aq) (w : Int) : Option (Int) := X21 (Re k v w k) k v w
def Xaz {β : Type} (NX : Int → Int → Int → (den Eg) → (den Uy) → Bv → Al → Option β) (EX0 : (Int × Int × Int × (den Uy) × (den Eg) × Bv × Al) → Option β) (k : Nat) (v : Aq) (w : Int) (p : (den Ak)) (x10_2 x12_2 x13_2 : Int) (m7000_2 : (den Eg)) (m11000_2 : (den Uy)) (m8900_2 : Bv) (m9900_2 : Al) : Option β := cond (decide (x13_2 < (m11000_2.2.2.length : Int))) (cond (m11000_2.1 == 1) (Az x13_2 m11000_2.2.2 (Bi (m7000_2.1.length) ([(Aw m11000_2.2.2 x13_2)].length) 80 (NX x10_2 x12_2 (i64.wrap (x13_2 + 1)) (m7000_2.1 ++ [(Aw m11000_2.2.2 x13_2)], m7000_2.2) m11000_2 m8900_2 m9900_2))) (cond (m11000_2.1 == 3) (Az x13_2 m11000_2.2.2 (Bi (m7000_2.2.1.length) ([(Aw m11000_2.2.2 x13_2)].length) 80 (NX x10_2 x12_2 (i64.wrap (x13_2 + 1)) (m7000_2.1, m7000_2.2.1 ++ [(Aw m11000_2.2.2 x13_2)], m7000_2.2.2) m11000_2 m8900_2 m9900_2))) (cond (decide (x12_2 ≥ 0)) (Bi (m8900_2.length) ([x12_2].length) 8 (Az x13_2 m11000_2.2.2 (Bi (m9900_2.length) ([(Aw m11000_2.2.2 x13_2)].length) 80 (NX x10_2 x12_2 (i64.wrap (x13_2 + 1)) m7000_2 m11000_2 (m8900_2 ++ [x12_2]) (m9900_2 ++ [(Aw m11000_2.2.2 x13_2)]))))) (NX x10_2 x12_2 (i64.wrap (x13_2 + 1)) m7000_2 m11000_2 m8900_2 m9900_2)))) (EX0 (x10_2, x12_2, x13_2, m11000_2, m7000_2, m8900_2, m9900_2))
def Zi (k : Nat) (v : Aq) (w : Int) (p : (den Ak)) : Nat → Int → Int → Int → (den Eg) → (den Uy) → Bv → Al → Option ((Int × Int × Int × (den Uy) × (den Eg) × Bv × Al))
 | 0, _, _, _, _, _, _, _ => none
 | n + 1, x10_2, x12_2, x13_2, m7000_2, m11000_2, m8900_2, m9900_2 => Xaz (Zi k v w p n) (fun y2 => some y2) k v w p x10_2 x12_2 x13_2 m7000_2 m11000_2 m8900_2 m9900_2
def Ga (k : Nat) (v : Aq) (w : Int) (p : (den Ak)) : Nat → Int → (den Eg) → Bv → Al → Option ((den Eg))
 | 0, _, _, _, _ => none
 | n + 1, x10_0, m7000_0, m8900_0, m9900_0 => cond (decide (x10_0 < (m9900_0.length : Int))) (Az x10_0 m8900_0 (Az (Aw m8900_0 x10_0) v (Az x10_0 m9900_0 ((X1y k (Aw v (Aw m8900_0 x10_0)) (Aw m9900_0 x10_0)).bind fun b4 => (F132 k v b4.2.1).bind fun b5 => (Zi k v w p k x10_0 b5 0 (m7000_0.1, m7000_0.2.1, i64.wrap (m7000_0.2.2 + 1)) b4 m8900_0 m9900_0).bind fun y2 => Ga k v w p n (i64.wrap (y2.1 + 1)) y2.2.2.2.2.1 y2.2.2.2.2.2.1 y2.2.2.2.2.2.2)))) (some m7000_0)
def Xnu {β : Type} (LP0 : Int → (den Eg) → Bv → Al → Option β) (RET : (den Eg) → Option β) (k : Nat) (v : Aq) (w : Int) (p : (den Ak)) : Option β := A5 p fun p0 p1 p2 p3 p4 p5 p6 p7 p8 => (F59 k v).bind fun b1 => cond (!b1) (RET ([], [], 0)) ((K8 k p).bind fun b2 => cond (!b2) (RET ([], [], 0)) ((K7 k w 0 (i64.wrap ((v.length : Int) - 1))).bind fun b3 => cond (!b3) (RET ([], [], 0)) (LP0 0 ([], [], 0) [w] [(p0, p1, p2, p3, p4, p5, p6, p7, p8)])))
def F61 (k : Nat) (v : Aq) (w : Int) (p : (den Ak)) : Option ((den Eg)) := Xnu (Ga k v w p k) some k v w p
def Xmq {β : Type} (RET : Bool → Option β) (k : Nat) (v w : (den Ak)) : Option β := cond (v.1 == w.1) (cond (v.2.1 == w.2.1) (cond (v.2.2.1 == w.2.2.1) (RET (v.2.2.2.2.1 == w.2.2.2.2.1)) (RET false)) (RET false)) (RET false)
def Xj3 := Xmq (β := Bool) some
def Ot {β : Type} (NX : Int → Int → Option β) (RET : Bool → Option β) (k : Nat) (v : (den Bb)) (x3_0 x4_0 : Int) : Option β := Bz v fun v0 v1 => cond (decide (x4_0 < (v0.length : Int))) (Az x4_0 v0 ((K8 k (Aw v0 x4_0)).bind fun b1 => cond (!b1) (RET false) (cond (decide (0 < (v0.length : Int))) ((Xj3 k (Aw v0 x4_0) (Aw v0 0)).bind fun b2 => cond (!b2) (RET false) (cond (decide (x4_0 > 0)) (Az (i64.wrap (x4_0 - 1)) v0 (Az (i64.wrap (x4_0 - 1)) v0 (cond (decide ((Aw v0 x4_0).2.2.2.2.2.1 < (i64.wrap ((Aw v0 (i64.wrap (x4_0 - 1))).2.2.2.2.2.1 + ((Aw v0 (i64.wrap (x4_0 - 1))).2.2.2.2.2.2.2.2.length : Int))))) (RET false) (Az (i64.wrap (x4_0 - 1)) v0 (cond (!(Aw v0 (i64.wrap (x4_0 - 1))).2.2.2.2.2.2.1) (RET false) (NX (i64.wrap (x3_0 + ((Aw v0 x4_0).2.2.2.2.2.2.2.2.length : Int))) (i64.wrap (x4_0 + 1)))))))) (NX (i64.wrap (x3_0 + ((Aw v0 x4_0).2.2.2.2.2.2.2.2.length : Int))) (i64.wrap (x4_0 + 1))))) none))) (cond (decide ((v0.length : Int) > 0)) (cond (decide (x3_0 ≤ 48)) ((K7 k v1 0 1000000).bind fun b3 => RET b3) (RET false)) (RET false))
def Hi (k : Nat) (v : (den Bb)) : Nat → Int → Int → Option (Bool)
 | 0, _, _ => none
 | n + 1, x3_0, x4_0 => Ot (Hi k v n) some k v x3_0 x4_0
def X7r {β : Type} (LP0 : Int → Int → Option β) (k : Nat) (v : (den Bb)) : Option β := LP0 0 0
def Xd1 (k : Nat) (v : (den Bb)) : Option (Bool) := X7r (Hi k v k) k v
end
end Go.Proofs.YtdmepjjepogddaaGreat.Gn
end

section
set_option linter.unusedVariables false
set_option linter.unusedSimpArgs false
namespace Go.Proofs.YtdmepjjepogddaaGreat.Gn
open Go.Rf IntKind
noncomputable section
def Vq {β : Type} (NX : Int → Int → Option β) (EX0 : (Int × Int) → Option β) (EX1 : (Int × Int) → Option β) (k : Nat) (v : Ai) (x3_2 x4_2 : Int) : Option β := cond (decide (x4_2 < x3_2)) (Az x4_2 v (cond (decide (0 < ((Aw v x4_2).1.length : Int))) (Az x3_2 v (cond (decide (0 < ((Aw v x3_2).1.length : Int))) ((Xj3 k (Aw (Aw v x4_2).1 0) (Aw (Aw v x3_2).1 0)).bind fun b2 => cond b2 (EX0 (x3_2, x4_2)) (NX x3_2 (i64.wrap (x4_2 + 1)))) none)) none)) (EX1 (x3_2, x4_2))
def Ri (k : Nat) (v : Ai) : Nat → Int → Int → Option ((Sum (Int × Int) (Int × Int)))
 | 0, _, _ => none
 | n + 1, x3_2, x4_2 => Vq (Ri k v n) (fun y2 => some (.inl y2)) (fun y2 => some (.inr y2)) k v x3_2 x4_2
def Kr (k : Nat) (v : Ai) : Nat → Int → Option (Bool)
 | 0, _ => none
 | n + 1, x3_0 => cond (decide (x3_0 < (v.length : Int))) (Az x3_0 v ((Xd1 k (Aw v x3_0)).bind fun b1 => cond (!b1) (some false) ((Ri k v k x3_0 0).bind fun z2 => Xjg (fun y2 => some false) (fun y2 => Kr k v n (i64.wrap (y2.1 + 1))) z2))) (some (decide ((v.length : Int) ≤ 3)))
def Xds {β : Type} (LP0 : Int → Option β) (k : Nat) (v : Ai) : Option β := LP0 0
def Xmb (k : Nat) (v : Ai) : Option (Bool) := Xds (Kr k v k) k v
def L3 {β : Type} (k : Nat) (v : (den Bb)) (w : (den Ak)) (NX : Bool → Int → (den Bb) → Option β) (RET : (den Bb) × Bool → Option β) (x10_2 : Int) (m6000_2 : (den Bb)) (x7_2 : Bool) : Option β := Az x10_2 v.1 ((R8 k (Aw v.1 x10_2)).bind fun b6 => Bi (m6000_2.1.length) ([b6].length) 80 (NX x7_2 (i64.wrap (x10_2 + 1)) (m6000_2.1 ++ [b6], m6000_2.2)))
def Vb {β : Type} (NX : Bool → Int → (den Bb) → Option β) (RET : (den Bb) × Bool → Option β) (k : Nat) (v : (den Bb)) (w : (den Ak)) (x7_2 : Bool) (x10_2 : Int) (m6000_2 : (den Bb)) : Option β := Bz v fun v0 _ => cond (decide (x10_2 < (v0.length : Int))) (cond (!x7_2) (Az x10_2 v0 (cond (decide (w.2.2.2.2.2.1 < (Aw v0 x10_2).2.2.2.2.2.1)) ((R8 k w).bind fun b4 => Bi (m6000_2.1.length) ([b4].length) 80 (Az x10_2 v0 ((R8 k (Aw v0 x10_2)).bind fun b5 => Bi ((m6000_2.1 ++ [b4]).length) ([b5].length) 80 (NX true (i64.wrap (x10_2 + 1)) ((m6000_2.1 ++ [b4]) ++ [b5], m6000_2.2))))) (L3 k v w NX RET x10_2 m6000_2 x7_2))) (L3 k v w NX RET x10_2 m6000_2 x7_2)) (cond (!x7_2) ((R8 k w).bind fun b8 => Bi (m6000_2.1.length) ([b8].length) 80 ((Xd1 k (m6000_2.1 ++ [b8], m6000_2.2)).bind fun b9 => cond (!b9) (RET (([], 0), false)) (RET ((m6000_2.1 ++ [b8], m6000_2.2), true)))) ((Xd1 k m6000_2).bind fun b10 => cond (!b10) (RET (([], 0), false)) (RET (m6000_2, true))))
def Ms (k : Nat) (v : (den Bb)) (w : (den Ak)) : Nat → Bool → Int → (den Bb) → Option ((den Bb) × Bool)
 | 0, _, _, _ => none
 | n + 1, x7_2, x10_2, m6000_2 => Vb (Ms k v w n) some k v w x7_2 x10_2 m6000_2
def V9 {β : Type} (NX : Bool → Int → Option β) (LP2 : Bool → Int → (den Bb) → Option β) (k : Nat) (v : (den Bb)) (w : (den Ak)) (x7_0 : Bool) (x8_0 : Int) : Option β := Bz v fun v0 v1 => cond (decide (x8_0 < (v0.length : Int))) (Az x8_0 v0 (cond ((Aw v0 x8_0).2.2.2.2.2.1 == w.2.2.2.2.2.1) (cond ((Aw v0 x8_0).2.2.2.2.2.2.1 == w.2.2.2.2.2.2.1) (cond ((Lh (Aw v0 x8_0).2.2.2.2.2.2.2.2).toList == (Lh w.2.2.2.2.2.2.2.2).toList) (NX true (i64.wrap (x8_0 + 1))) (NX x7_0 (i64.wrap (x8_0 + 1)))) (NX x7_0 (i64.wrap (x8_0 + 1)))) (NX x7_0 (i64.wrap (x8_0 + 1))))) (LP2 x7_0 0 ([], v1))
def Q6 (k : Nat) (v : (den Bb)) (w : (den Ak)) : Nat → Bool → Int → Option ((den Bb) × Bool)
 | 0, _, _ => none
 | n + 1, x7_0, x8_0 => V9 (Q6 k v w n) (Ms k v w k) k v w x7_0 x8_0
def Xq7 {β : Type} (LP0 : Bool → Int → Option β) (RET : (den Bb) × Bool → Option β) (k : Nat) (v : (den Bb)) (w : (den Ak)) : Option β := (Xd1 k v).bind fun b1 => cond (!b1) (RET (([], 0), false)) ((K8 k w).bind fun b2 => cond (!b2) (RET (([], 0), false)) (cond (decide (0 < (v.1.length : Int))) ((Xj3 k (Aw v.1 0) w).bind fun b3 => cond (!b3) (RET (([], 0), false)) (LP0 false 0)) none))
def X4l (k : Nat) (v : (den Bb)) (w : (den Ak)) : Option ((den Bb) × Bool) := Xq7 (Q6 k v w k) some k v w
def Ob {β : Type} (NX : Int → (den Ak) → Option β) (RET : (den Ak) × Bool → Option β) (k : Nat) (v : (den Bb)) (x5_0 : Int) (m4000_0 : (den Ak)) : Option β := Bz v fun v0 _ => cond (decide (x5_0 < (v0.length : Int))) (Az x5_0 v0 (cond ((Aw v0 x5_0).2.2.2.2.2.1 != (m4000_0.2.2.2.2.2.2.2.2.length : Int)) (RET ((0, 0, 0, 0, 0, 0, false, false, []), false)) (Az x5_0 v0 (Bi (m4000_0.2.2.2.2.2.2.2.2.length) ((Aw v0 x5_0).2.2.2.2.2.2.2.2.length) 1 (NX (i64.wrap (x5_0 + 1)) (m4000_0.1, m4000_0.2.1, m4000_0.2.2.1, m4000_0.2.2.2.1, m4000_0.2.2.2.2.1, m4000_0.2.2.2.2.2.1, m4000_0.2.2.2.2.2.2.1, m4000_0.2.2.2.2.2.2.2.1, m4000_0.2.2.2.2.2.2.2.2 ++ (Aw v0 x5_0).2.2.2.2.2.2.2.2)))))) (RET (m4000_0, true))
def Nx (k : Nat) (v : (den Bb)) : Nat → Int → (den Ak) → Option ((den Ak) × Bool)
 | 0, _, _ => none
 | n + 1, x5_0, m4000_0 => Ob (Nx k v n) some k v x5_0 m4000_0
def Xn3 {β : Type} (LP0 : Int → (den Ak) → Option β) (RET : (den Ak) × Bool → Option β) (k : Nat) (v : (den Bb)) : Option β := Bz v fun v0 _ => (Xd1 k v).bind fun b1 => cond (!b1) (RET ((0, 0, 0, 0, 0, 0, false, false, []), false)) (Az (i64.wrap ((v0.length : Int) - 1)) v0 (cond (Aw v0 (i64.wrap ((v0.length : Int) - 1))).2.2.2.2.2.2.1 (RET ((0, 0, 0, 0, 0, 0, false, false, []), false)) (cond (decide (0 < (v0.length : Int))) (LP0 0 ((Aw v0 0).1, (Aw v0 0).2.1, (Aw v0 0).2.2.1, (Aw v0 0).2.2.2.1, (Aw v0 0).2.2.2.2.1, (Aw v0 0).2.2.2.2.2.1, false, (Aw v0 0).2.2.2.2.2.2.2.1, [])) none)))
def X6i (k : Nat) (v : (den Bb)) : Option ((den Ak) × Bool) := Xn3 (Nx k v k) some k v
def Xkc {β : Type} (NX : Int → (den Bb) → Option β) (RET : (den Bb) → Option β) (k : Nat) (v : (den Bb)) (x4_0 : Int) (m3000_0 : (den Bb)) : Option β := cond (decide (x4_0 < (v.1.length : Int))) (Az x4_0 v.1 ((R8 k (Aw v.1 x4_0)).bind fun b1 => Bi (m3000_0.1.length) ([b1].length) 80 (NX (i64.wrap (x4_0 + 1)) (m3000_0.1 ++ [b1], m3000_0.2)))) (RET m3000_0)
def Xhn (k : Nat) (v : (den Bb)) : Nat → Int → (den Bb) → Option ((den Bb))
 | 0, _, _ => none
 | n + 1, x4_0, m3000_0 => Xkc (Xhn k v n) some k v x4_0 m3000_0
def X4r {β : Type} (LP0 : Int → (den Bb) → Option β) (k : Nat) (v : (den Bb)) : Option β := LP0 0 ([], v.2)
def F137 (k : Nat) (v : (den Bb)) : Option ((den Bb)) := X4r (Xhn k v k) k v
def V1 {β : Type} (k : Nat) (v : Ai) (w : (den Ak)) (p : Int) (NX : Bool → Bool → Bool → Int → (den Ak) → Ai → Option β) (RET : (Ai × (den Ak) × Bool) → Option β) (x14_0 : Int) (m9900_0 : Ai) (x10_0 x11_0 x13_0 : Bool) (m12000_0 : (den Ak)) : Option β := (F137 k (Aw v x14_0)).bind fun b7 => Bi (m9900_0.length) ([b7].length) 32 (NX x10_0 x11_0 x13_0 (i64.wrap (x14_0 + 1)) m12000_0 (m9900_0 ++ [b7]))
def Gl {β : Type} (NX : Bool → Bool → Bool → Int → (den Ak) → Ai → Option β) (RET : (Ai × (den Ak) × Bool) → Option β) (k : Nat) (v : Ai) (w : (den Ak)) (p : Int) (x10_0 x11_0 x13_0 : Bool) (x14_0 : Int) (m12000_0 : (den Ak)) (m9900_0 : Ai) : Option β := cond (decide (x14_0 < (v.length : Int))) (Az x14_0 v (cond (decide ((Aw v x14_0).2 ≤ p)) (NX x10_0 x11_0 x13_0 (i64.wrap (x14_0 + 1)) m12000_0 m9900_0) (cond (!x10_0) (cond (decide (0 < ((Aw v x14_0).1.length : Int))) ((Xj3 k (Aw (Aw v x14_0).1 0) w).bind fun b4 => cond b4 ((X4l k (Aw v x14_0) w).bind fun b5 => (X6i k b5.1).bind fun b6 => cond b5.2 (cond (!b6.2) (Bi (m9900_0.length) ([b5.1].length) 32 (NX x10_0 true b6.2 (i64.wrap (x14_0 + 1)) b6.1 (m9900_0 ++ [b5.1]))) (NX x10_0 true b6.2 (i64.wrap (x14_0 + 1)) b6.1 m9900_0)) (NX x10_0 true b6.2 (i64.wrap (x14_0 + 1)) b6.1 m9900_0)) (V1 k v w p NX RET x14_0 m9900_0 x10_0 x11_0 x13_0 m12000_0)) none) (V1 k v w p NX RET x14_0 m9900_0 x10_0 x11_0 x13_0 m12000_0)))) (cond x10_0 ((R8 k w).bind fun b9 => RET (m9900_0, b9, true)) (cond (!x11_0) ((R8 k w).bind fun b10 => Bi (m9900_0.length) ([([b10], i64.wrap (p + 15))].length) 32 (cond (decide (((m9900_0 ++ [([b10], i64.wrap (p + 15))]).length : Int) > 3)) (cond (decide (0 ≤ 1) && decide (1 ≤ ((m9900_0 ++ [([b10], i64.wrap (p + 15))]).length : Int))) (RET (((m9900_0 ++ [([b10], i64.wrap (p + 15))]).take ((((m9900_0 ++ [([b10], i64.wrap (p + 15))]).length : Int)).toNat)).drop 1, m12000_0, x13_0)) none) (RET (m9900_0 ++ [([b10], i64.wrap (p + 15))], m12000_0, x13_0)))) (cond (decide ((m9900_0.length : Int) > 3)) (cond (decide (0 ≤ 1) && decide (1 ≤ (m9900_0.length : Int))) (RET ((m9900_0.take (((m9900_0.length : Int)).toNat)).drop 1, m12000_0, x13_0)) none) (RET (m9900_0, m12000_0, x13_0)))))
def Lm (k : Nat) (v : Ai) (w : (den Ak)) (p : Int) : Nat → Bool → Bool → Bool → Int → (den Ak) → Ai → Option (Ai × (den Ak) × Bool)
 | 0, _, _, _, _, _, _ => none
 | n + 1, x10_0, x11_0, x13_0, x14_0, m12000_0, m9900_0 => Gl (Lm k v w p n) some k v w p x10_0 x11_0 x13_0 x14_0 m12000_0 m9900_0
def Xht {β : Type} (LP0 : Bool → Bool → Bool → Int → (den Ak) → Ai → Option β) (RET : (Ai × (den Ak) × Bool) → Option β) (k : Nat) (v : Ai) (w : (den Ak)) (p : Int) : Option β := (Xmb k v).bind fun b1 => cond (!b1) (RET ([], (0, 0, 0, 0, 0, 0, false, false, []), false)) ((K8 k w).bind fun b2 => cond (!b2) (RET ([], (0, 0, 0, 0, 0, 0, false, false, []), false)) ((K7 k p 0 999985).bind fun b3 => cond (!b3) (RET ([], (0, 0, 0, 0, 0, 0, false, false, []), false)) (cond (w.2.2.2.2.2.1 == 0) (LP0 (!w.2.2.2.2.2.2.1) false false 0 (0, 0, 0, 0, 0, 0, false, false, []) []) (LP0 false false false 0 (0, 0, 0, 0, 0, 0, false, false, []) []))))
def F62 (k : Nat) (v : Ai) (w : (den Ak)) (p : Int) : Option (Ai × (den Ak) × Bool) := Xht (Lm k v w p k) some k v w p
end
end Go.Proofs.YtdmepjjepogddaaGreat.Gn
end

section
set_option linter.unusedVariables false
set_option linter.unusedSimpArgs false
namespace Go.Proofs.YtdmepjjepogddaaGreat.Gn
open Go.Rf IntKind
noncomputable section
def Nu {β : Type} (NX : Int → (den Eg) → Ai → Option β) (RET : (Aa × Bool) → Option β) (k : Nat) (v : Aq) (w p q o : Int) (c : Aa) (x16_0 : Int) (m14000_0 : (den Eg)) (m15900_0 : Ai) : Option β := cond (decide (x16_0 < (m14000_0.1.length : Int))) (Az x16_0 m14000_0.1 ((F62 k m15900_0 (Aw m14000_0.1 x16_0) 0).bind fun b4 => cond b4.2.2 (Bi (([] : Aa).length) (b4.2.1.2.2.2.2.2.2.2.2.length) 1 (RET ([] ++ b4.2.1.2.2.2.2.2.2.2.2, true))) (NX (i64.wrap (x16_0 + 1)) m14000_0 b4.1))) (RET ([], false))
def Mb (k : Nat) (v : Aq) (w p q o : Int) (c : Aa) : Nat → Int → (den Eg) → Ai → Option (Aa × Bool)
 | 0, _, _, _ => none
 | n + 1, x16_0, m14000_0, m15900_0 => Nu (Mb k v w p q o c n) some k v w p q o c x16_0 m14000_0 m15900_0
def Xz0 {β : Type} (LP0 : Int → (den Eg) → Ai → Option β) (RET : (Aa × Bool) → Option β) (k : Nat) (v : Aq) (w p q o : Int) (c : Aa) : Option β := (F59 k v).bind fun b1 => cond (!b1) (RET ([], false)) ((K7 k w 0 (i64.wrap ((v.length : Int) - 1))).bind fun b2 => cond (!b2) (RET ([], false)) (cond (decide ((c.length : Int) > 48)) (RET ([], false)) (Az w v ((F61 k v w ((Aw v w).1, p, q, 64, o, 0, false, false, c)).bind fun b3 => LP0 0 b3 []))))
def F13 (k : Nat) (v : Aq) (w p q o : Int) (c : Aa) : Option (Aa × Bool) := Xz0 (Mb k v w p q o c k) some k v w p q o c
end
end Go.Proofs.YtdmepjjepogddaaGreat.Gn
end

section
set_option linter.unusedVariables false
set_option linter.unusedSimpArgs false
namespace Go.Proofs.YtdmepjjepogddaaGreat.Gn
open Go.Rf IntKind
noncomputable section
abbrev X97 (k : Nat) : Env := Bd Bq Am .own [] k
abbrev X0f : List PA := [.one mI, .one mI, .one mI]
abbrev F64_O : RO := ⟨[.v], [mB]⟩
def N5 (k : Nat) (v w p : Int) : Option (Bool) := cond (decide (v ≥ w)) (some (decide (v ≤ p))) (some false)
theorem X2e {β : Type} (k : Nat) (v w p : Int) (K : KT β) : Af (X97 k) Tryz.f64 (PsT.put X0f (v, w, p, ())) K = (N5 k v w p).bind fun r => K (F64_O.put r) :=
 Eq.trans (b := cond (decide (v ≥ w)) (K (F64_O.put (decide (v ≤ p)))) (K (F64_O.put false))) (by kernel_rfl) (by simp only [N5, z1, z2, z3, z4, z5, z6, z7, z8])
def D3 (k : Nat) : FD := ⟨64, X0f, F64_O, N5 k⟩
theorem Eb (k : Nat) : (D3 k).Ok Tryz.prog := ⟨fun x => Ab (Aj .none _ _ _ _) Ag Tryz.func64 rfl rfl (X2e k _ _ _ some), .of (by kernel_rfl)⟩
def X16 : Nat → Hint
 | 0 => ⟨pl 0 1 (pl 6 3 []), []⟩
 | _ => ⟨[], []⟩
abbrev Z0 (k : Nat) : Env := Bd (A0 [D3 k]) X16 .own [] k
abbrev Xdn : List PA := [.one .str]
abbrev F105_O : RO := ⟨[.v], [mB]⟩
noncomputable def X28 {β : Type} (k : Nat) (v : ByteArray) (K : KT β) : Ex → St → Option β := Bx (Z0 k) Tryz.f105 (PsT.put Xdn (v, ())) K
def Xx9 (v : ByteArray) (x8_0 : Int) : St := ⟨(.one (.v (.string v))) :: dz 5 ((.one (.s .ro (.int .u8) (Go.Rf.bytesOf v))) :: (.one (vI ((Go.Rf.bytesOf v).length : Int))) :: (.one (vI x8_0)) :: dz 13 []), []⟩
noncomputable def Pc {β : Type} (k : Nat) (v : ByteArray) (K : KT β) (n : Nat) (x8_0 : Int) : Option β := A7 (Z0 k) Tryz.f105 [1, 0, 1, 0] 0 (Ap (Z0 k) [1, 0, 1, 0] (Ar Tryz.f105) 0 (X28 k v K)) n (Xx9 v x8_0)
def Jm {β : Type} (NX : Int → Option β) (RET : Bool → Option β) (k : Nat) (v : ByteArray) (x8_0 : Int) : Option β := cond (decide (x8_0 < ((Go.Rf.bytesOf v).length : Int))) (Az x8_0 (Go.Rf.bytesOf v) (cond (decide ((Aw (t := (.int .u8)) (Go.Rf.bytesOf v) x8_0) < 97)) (RET false) (cond (decide ((Aw (t := (.int .u8)) (Go.Rf.bytesOf v) x8_0) > 122)) (RET false) (NX (i64.wrap (x8_0 + 1)))))) ((N5 k ((v.size : Nat) : Int) 1 12).bind fun b1 => RET b1)
def Jt (k : Nat) (v : ByteArray) : Nat → Int → Option (Bool)
 | 0, _ => none
 | n + 1, x8_0 => Jm (Jt k v n) some k v x8_0
theorem Xef {β : Type} (k : Nat) (v : ByteArray) (K : KT β) (n : Nat) : ∀ (x8_0 : Int), Pc k v K n x8_0 =
  (Jt k v n x8_0).bind fun r => K (F105_O.put r) := by
 induction n with
 | zero => intros; rfl
 | succ n ih =>
  intro x8_0
  refine Eq.trans (b := Jm (Pc k v K n) (fun r => K (F105_O.put r)) k v x8_0) (by kernel_rfl) ?_
  rw [Jt]
  simp only [Jm, z1, z2, z3, z4, z5, z6, z7, z8, ih]
def Xcy {β : Type} (LP0 : Int → Option β) (k : Nat) (v : ByteArray) : Option β := LP0 0
def F105 (k : Nat) (v : ByteArray) : Option (Bool) := Xcy (Jt k v k) k v
theorem Xxo {β : Type} (k : Nat) (v : ByteArray) (K : KT β) : Af (Z0 k) Tryz.f105 (PsT.put Xdn (v, ())) K = (F105 k v).bind fun r => K (F105_O.put r) :=
 Eq.trans (b := Xcy (Pc k v K k) k v) (by kernel_rfl) (by simp only [F105, Xcy, z1, z2, z3, z4, z5, z6, z7, z8, Xef])
def Tm (k : Nat) : FD := ⟨105, Xdn, F105_O, F105 k⟩
theorem Yw (k : Nat) : (Tm k).Ok Tryz.prog := ⟨fun x => Ab (Aj (Ah (.c (Eb k) .n)) _ _ _ _) Ag Tryz.func105 rfl rfl (Xxo k _ some), .of (by kernel_rfl)⟩
abbrev X9d (k : Nat) : Env := Bd (A0 [D3 k]) Am .own [] k
abbrev X00 : List PA := [.one mI]
abbrev F65_O : RO := ⟨[.v], [mB]⟩
def F65 (k : Nat) (v : Int) : Option (Bool) := (N5 k v 0 65535).bind fun b1 => some b1
theorem X6p {β : Type} (k : Nat) (v : Int) (K : KT β) : Af (X9d k) Tryz.f65 (PsT.put X00 (v, ())) K = (F65 k v).bind fun r => K (F65_O.put r) :=
 Eq.trans (b := (N5 k v 0 65535).bind fun b1 => K (F65_O.put b1)) (by kernel_rfl) (by simp only [F65, z1, z2, z3, z4, z5, z6, z7, z8])
def M7 (k : Nat) : FD := ⟨65, X00, F65_O, F65 k⟩
theorem Qx (k : Nat) : (M7 k).Ok Tryz.prog := ⟨fun x => Ab (Aj (Ah (.c (Eb k) .n)) _ _ _ _) Ag Tryz.func65 rfl rfl (X6p k _ some), .of (by kernel_rfl)⟩
abbrev X7j (k : Nat) : Env := Bd (A0 [Tm k, D3 k, M7 k]) Am .own [] k
abbrev Xpp : List PA := [.agg (.pair .str m_2)]
abbrev F170_O : RO := ⟨[.v], [mB]⟩
def T5 {β : Type} (RET : Bool → Option β) (k : Nat) (v : (den nam)) : Option β := S9 v fun v0 v1 v2 v3 v4 => (F105 k v0).bind fun b1 => cond (!b1) (RET false) ((N5 k v4 1 50).bind fun b2 => cond (!b2) (RET false) (cond (v1 == 0) (cond (v2 == 0) (RET (v3.toList == (⟨#[]⟩ : ByteArray).toList)) (RET false)) (cond (v1 == 1) ((F65 k v2).bind fun b3 => cond b3 (RET (v3.toList == (⟨#[]⟩ : ByteArray).toList)) (RET false)) (cond (v1 == 2) (cond (v2 == 0) ((F105 k v3).bind fun b4 => RET b4) (RET false)) (RET false)))))
def F170 := T5 (β := Bool) some
theorem Xwv {β : Type} (k : Nat) (v : (den nam)) (K : KT β) : Af (X7j k) Tryz.f170 (PsT.put Xpp (v, ())) K = (F170 k v).bind fun r => K (F170_O.put r) :=
 Eq.trans (b := T5 (fun r => K (F170_O.put r)) k v) (by kernel_rfl) (by simp only [F170, T5, z1, z2, z3, z4, z5, z6, z7, z8, S9])
def Xcs (k : Nat) : FD := ⟨170, Xpp, F170_O, F170 k⟩
theorem Xmh (k : Nat) : (Xcs k).Ok Tryz.prog := ⟨fun x => Ab (Aj (Ah (.c (Yw k) (.c (Eb k) (.c (Qx k) .n)))) _ _ _ _) Ag Tryz.func170 rfl rfl (Xwv k _ some), .of (by kernel_rfl)⟩
def X6w : Nat → Hint
 | 0 => ⟨pl 0 1 (pl 5 3 []), []⟩
 | _ => ⟨[], []⟩
abbrev Ws (k : Nat) : Env := Bd (A0 [Xcs k]) X6w .own [] k
abbrev Xex : List PA := [.one (.sl .ro nam)]
abbrev F104_O : RO := ⟨[.v], [mB]⟩
noncomputable def X6e {β : Type} (k : Nat) (v : Ad) (K : KT β) : Ex → St → Option β := Bx (Ws k) Tryz.f104 (PsT.put Xex (v, ())) K
def Xv6 (v : Ad) (x7_0 : Int) : St := ⟨(.one (.s .ro nam v)) :: dz 4 ((.one (.s .ro nam v)) :: (.one (vI (v.length : Int))) :: (.one (vI x7_0)) :: dz 31 []), []⟩
noncomputable def Pq {β : Type} (k : Nat) (v : Ad) (K : KT β) (n : Nat) (x7_0 : Int) : Option β := A7 (Ws k) Tryz.f104 [1, 0, 1, 0] 0 (Ap (Ws k) [1, 0, 1, 0] (Ar Tryz.f104) 0 (X6e k v K)) n (Xv6 v x7_0)
def Kp {β : Type} (NX : Int → Option β) (RET : Bool → Option β) (k : Nat) (v : Ad) (x7_0 : Int) : Option β := cond (decide (x7_0 < (v.length : Int))) (Az x7_0 v ((F170 k (Aw v x7_0)).bind fun b1 => cond (!b1) (RET false) (cond ((Aw v x7_0).2.1 == 0) (RET false) (cond (decide (x7_0 > 0)) (Az (i64.wrap (x7_0 - 1)) v (cond (!Go.Op.bytesLess (Aw v (i64.wrap (x7_0 - 1))).1.toList (Aw v x7_0).1.toList) (RET false) (NX (i64.wrap (x7_0 + 1))))) (NX (i64.wrap (x7_0 + 1))))))) (RET (decide ((v.length : Int) ≤ 8)))
def Js (k : Nat) (v : Ad) : Nat → Int → Option (Bool)
 | 0, _ => none
 | n + 1, x7_0 => Kp (Js k v n) some k v x7_0
theorem Xcz {β : Type} (k : Nat) (v : Ad) (K : KT β) (n : Nat) : ∀ (x7_0 : Int), Pq k v K n x7_0 =
  (Js k v n x7_0).bind fun r => K (F104_O.put r) := by
 induction n with
 | zero => intros; rfl
 | succ n ih =>
  intro x7_0
  refine Eq.trans (b := Kp (Pq k v K n) (fun r => K (F104_O.put r)) k v x7_0) (by kernel_rfl) ?_
  rw [Js]
  simp only [Kp, z1, z2, z3, z4, z5, z6, z7, z8, ih]
def Xd7 {β : Type} (LP0 : Int → Option β) (k : Nat) (v : Ad) : Option β := LP0 0
def Q3 (k : Nat) (v : Ad) : Option (Bool) := Xd7 (Js k v k) k v
theorem Xyp {β : Type} (k : Nat) (v : Ad) (K : KT β) : Af (Ws k) Tryz.f104 (PsT.put Xex (v, ())) K = (Q3 k v).bind fun r => K (F104_O.put r) :=
 Eq.trans (b := Xd7 (Pq k v K k) k v) (by kernel_rfl) (by simp only [Q3, Xd7, z1, z2, z3, z4, z5, z6, z7, z8, Xcz])
def Wg (k : Nat) : FD := ⟨104, Xex, F104_O, Q3 k⟩
theorem Xdw (k : Nat) : (Wg k).Ok Tryz.prog := ⟨fun x => Ab (Aj (Ah (.c (Xmh k) .n)) _ _ _ _) Ag Tryz.func104 rfl rfl (Xyp k _ some), .of (by kernel_rfl)⟩
abbrev X8f (k : Nat) : Env := Bd Bq Am .own [(false, 1000)] k
abbrev Xnj : List PA := [.agg (.pair .str m_2), .p .str]
abbrev F172_O : RO := ⟨[.v], [mB, .str]⟩
def Xuf (k : Nat) (v : (den nam)) (w : ByteArray) : Option (Bool × ByteArray) := some ((v.1.toList == w.toList), w)
theorem Xux {β : Type} (k : Nat) (v : (den nam)) (w : ByteArray) (K : KT β) : Af (X8f k) Tryz.f172 (PsT.put Xnj (v, w, ())) K = (Xuf k v w).bind fun r => K (F172_O.put r) :=
 Eq.trans (b := K (F172_O.put ((v.1.toList == w.toList), w))) (by kernel_rfl) (by simp only [Xuf, z1, z2, z3, z4, z5, z6, z7, z8, S9])
def Xoa (k : Nat) : FD := ⟨172, Xnj, F172_O, Xuf k⟩
theorem X38 (k : Nat) : (Xoa k).Ok Tryz.prog := ⟨fun x => Ab (Aj .none _ _ _ _) Ag Tryz.func172 rfl rfl (Xux k _ _ some), .of (by kernel_rfl)⟩
def X2l : Nat → Hint
 | 0 => ⟨pl 0 2 (pl 7 2 []), pl 1100 1 []⟩
 | _ => ⟨[], []⟩
abbrev Zj (k : Nat) : Env := Bd (A0 [Xoa k]) X2l .own [(false, 1100)] k
abbrev Xgp : List PA := [.one (.sl .ro nam), .fc 172 [.str]]
abbrev F171_O : RO := ⟨[.v], [mI, .str]⟩
noncomputable def X3n {β : Type} (k : Nat) (v : Ad) (wx : ByteArray) (K : KT β) : Ex → St → Option β := Bx (Zj k) Tryz.f171 (PsT.put Xgp (v, (wx, ()), ())) K
def Xyr (v : Ad) (wx : ByteArray) (x8_0 : Int) (m1100_0 : ByteArray) : St := ⟨(.one (.s .ro nam v)) :: (.one (.fn 172 [((.cell 1100), 1, 0)])) :: dz 5 ((.one (vI (v.length : Int))) :: (.one (vI x8_0)) :: dz 10 []), [eM 1100 (.v (.string m1100_0))]⟩
noncomputable def Qa {β : Type} (k : Nat) (v : Ad) (wx : ByteArray) (K : KT β) (n : Nat) (x8_0 : Int) (m1100_0 : ByteArray) : Option β := A7 (Zj k) Tryz.f171 [1, 0, 1, 0] 0 (Ap (Zj k) [1, 0, 1, 0] (Ar Tryz.f171) 0 (X3n k v wx K)) n (Xyr v wx x8_0 m1100_0)
def Kh {β : Type} (NX : Int → ByteArray → Option β) (RET : (Int × ByteArray) → Option β) (k : Nat) (v : Ad) (wx : ByteArray) (x8_0 : Int) (m1100_0 : ByteArray) : Option β := cond (decide (x8_0 < (v.length : Int))) (Az x8_0 v ((Xuf k (Aw v x8_0) m1100_0).bind fun b1 => cond b1.1 (RET (x8_0, b1.2)) (NX (i64.wrap (x8_0 + 1)) b1.2))) (RET ((-1), m1100_0))
def Kz (k : Nat) (v : Ad) (wx : ByteArray) : Nat → Int → ByteArray → Option (Int × ByteArray)
 | 0, _, _ => none
 | n + 1, x8_0, m1100_0 => Kh (Kz k v wx n) some k v wx x8_0 m1100_0
theorem Xd0 {β : Type} (k : Nat) (v : Ad) (wx : ByteArray) (K : KT β) (n : Nat) : ∀ (x8_0 : Int) (m1100_0 : ByteArray), Qa k v wx K n x8_0 m1100_0 =
  (Kz k v wx n x8_0 m1100_0).bind fun r => K (F171_O.put r) := by
 induction n with
 | zero => intros; rfl
 | succ n ih =>
  intro x8_0 m1100_0
  refine Eq.trans (b := Kh (Qa k v wx K n) (fun r => K (F171_O.put r)) k v wx x8_0 m1100_0) (by kernel_rfl) ?_
  rw [Kz]
  simp only [Kh, z1, z2, z3, z4, z5, z6, z7, z8, ih]
def Xfh {β : Type} (LP0 : Int → ByteArray → Option β) (k : Nat) (v : Ad) (wx : ByteArray) : Option β := LP0 0 wx
def Xm2 (k : Nat) (v : Ad) (wx : ByteArray) : Option (Int × ByteArray) := Xfh (Kz k v wx k) k v wx
theorem Xyb {β : Type} (k : Nat) (v : Ad) (wx : ByteArray) (K : KT β) : Af (Zj k) Tryz.f171 (PsT.put Xgp (v, (wx, ()), ())) K = (Xm2 k v wx).bind fun r => K (F171_O.put r) :=
 Eq.trans (b := Xfh (Qa k v wx K k) k v wx) (by kernel_rfl) (by simp only [Xm2, Xfh, z1, z2, z3, z4, z5, z6, z7, z8, Xd0])
def Xp6 (k : Nat) : FD := ⟨171, Xgp, F171_O, Xm2 k⟩
theorem X1z (k : Nat) : (Xp6 k).Ok Tryz.prog := ⟨fun x => Ab (Aj (Ah (.c (X38 k) .n)) _ _ _ _) Ag Tryz.func171 rfl rfl (Xyb k _ _ some), .of (by kernel_rfl)⟩
abbrev X7p (k : Nat) : Env := Bd (A0 [Xp6 k]) Am .own [] k
abbrev Xl2 : List PA := [.one (.sl .ro nam), .one .str]
abbrev F108_O : RO := ⟨[.a], [.pair .str m_2]⟩
def Ze {β : Type} (RET : (den nam) → Option β) (k : Nat) (v : Ad) (w : ByteArray) : Option β := (Xm2 k v w).bind fun b1 => cond (decide (b1.1 ≥ 0)) (Az b1.1 v (RET (Aw v b1.1))) (RET (b1.2, 0, 0, (⟨#[]⟩ : ByteArray), 5))
def Yl := Ze (β := (den nam)) some
theorem Xwf {β : Type} (k : Nat) (v : Ad) (w : ByteArray) (K : KT β) : Af (X7p k) Tryz.f108 (PsT.put Xl2 (v, w, ())) K = (Yl k v w).bind fun r => K (F108_O.put r) :=
 Eq.trans (b := Ze (fun r => K (F108_O.put r)) k v w) (by kernel_rfl) (by simp only [Yl, Ze, z1, z2, z3, z4, z5, z6, z7, z8])
def Yr (k : Nat) : FD := ⟨108, Xl2, F108_O, Yl k⟩
theorem Xgx (k : Nat) : (Yr k).Ok Tryz.prog := ⟨fun x => Ab (Aj (Ah (.c (X1z k) .n)) _ _ _ _) Ag Tryz.func108 rfl rfl (Xwf k _ _ some), .of (by kernel_rfl)⟩
abbrev X5m (k : Nat) : Env := Bd (A0 [Yr k]) Am .own [(false, 1000)] k
abbrev Xt2 : List PA := [.one .str, .p (.sl .ro nam)]
abbrev F107_O : RO := ⟨[.a], [.pair .str m_2, .sl .ro nam]⟩
def Xj4 (k : Nat) (v : ByteArray) (w : Ad) : Option ((den nam) × Ad) := (Yl k w v).bind fun b1 => some (b1, w)
theorem Xy7 {β : Type} (k : Nat) (v : ByteArray) (w : Ad) (K : KT β) : Af (X5m k) Tryz.f107 (PsT.put Xt2 (v, w, ())) K = (Xj4 k v w).bind fun r => K (F107_O.put r) :=
 Eq.trans (b := (Yl k w v).bind fun b1 => K (F107_O.put (b1, w))) (by kernel_rfl) (by simp only [Xj4, z1, z2, z3, z4, z5, z6, z7, z8])
def Xsc (k : Nat) : FD := ⟨107, Xt2, F107_O, Xj4 k⟩
theorem X24 (k : Nat) : (Xsc k).Ok Tryz.prog := ⟨fun x => Ab (Aj (Ah (.c (Xgx k) .n)) _ _ _ _) Ag Tryz.func107 rfl rfl (Xy7 k _ _ some), .of (by kernel_rfl)⟩
def X4n : Nat → Hint
 | 0 => ⟨pl 0 2 (pl 7 1 []), pl 1100 1 []⟩
 | _ => ⟨[], []⟩
abbrev Z2 (k : Nat) : Env := Bd (A0 [Xsc k]) X4n .own [(false, 1100)] k
abbrev Xgc : List PA := [.one .str, .fc 107 [.sl .ro nam]]
abbrev F106_O : RO := ⟨[.v, .v], [mI, mB, .sl .ro nam]⟩
noncomputable def X4i {β : Type} (k : Nat) (v : ByteArray) (wx : Ad) (K : KT β) : Ex → St → Option β := Bx (Z2 k) Tryz.f106 (PsT.put Xgc (v, (wx, ()), ())) K
def Xxj (v : ByteArray) (wx : Ad) (x0_0 : ByteArray) (x7_0 : Int) (m1100_0 : Ad) : St := ⟨(.one (.v (.string x0_0))) :: (.one (.fn 107 [((.cell 1100), 1, 0)])) :: dz 5 ((.one (vI x7_0)) :: dz 15 []), [eM 1100 (.s .ro nam m1100_0)]⟩
noncomputable def Ox {β : Type} (k : Nat) (v : ByteArray) (wx : Ad) (K : KT β) (n : Nat) (x0_0 : ByteArray) (x7_0 : Int) (m1100_0 : Ad) : Option β := A7 (Z2 k) Tryz.f106 [1, 0, 1, 0] 0 (Ap (Z2 k) [1, 0, 1, 0] (Ar Tryz.f106) 0 (X4i k v wx K)) n (Xxj v wx x0_0 x7_0 m1100_0)
def Jo {β : Type} (NX : ByteArray → Int → Ad → Option β) (RET : (Int × Bool × Ad) → Option β) (k : Nat) (v : ByteArray) (wx : Ad) (x0_0 : ByteArray) (x7_0 : Int) (m1100_0 : Ad) : Option β := cond (decide (x7_0 < 5)) ((Xj4 k x0_0 m1100_0).bind fun b1 => cond (b1.1.2.1 == 1) (RET (b1.1.2.2.1, true, b1.2)) (cond (b1.1.2.1 == 0) (RET (0, false, b1.2)) (NX b1.1.2.2.2.1 (i64.wrap (x7_0 + 1)) b1.2))) (RET (0, false, m1100_0))
def Hd (k : Nat) (v : ByteArray) (wx : Ad) : Nat → ByteArray → Int → Ad → Option (Int × Bool × Ad)
 | 0, _, _, _ => none
 | n + 1, x0_0, x7_0, m1100_0 => Jo (Hd k v wx n) some k v wx x0_0 x7_0 m1100_0
theorem Xem {β : Type} (k : Nat) (v : ByteArray) (wx : Ad) (K : KT β) (n : Nat) : ∀ (x0_0 : ByteArray) (x7_0 : Int) (m1100_0 : Ad), Ox k v wx K n x0_0 x7_0 m1100_0 =
  (Hd k v wx n x0_0 x7_0 m1100_0).bind fun r => K (F106_O.put r) := by
 induction n with
 | zero => intros; rfl
 | succ n ih =>
  intro x0_0 x7_0 m1100_0
  refine Eq.trans (b := Jo (Ox k v wx K n) (fun r => K (F106_O.put r)) k v wx x0_0 x7_0 m1100_0) (by kernel_rfl) ?_
  rw [Hd]
  simp only [Jo, z1, z2, z3, z4, z5, z6, z7, z8, ih]
def Xfq {β : Type} (LP0 : ByteArray → Int → Ad → Option β) (k : Nat) (v : ByteArray) (wx : Ad) : Option β := LP0 v 0 wx
def Xn5 (k : Nat) (v : ByteArray) (wx : Ad) : Option (Int × Bool × Ad) := Xfq (Hd k v wx k) k v wx
theorem Xvo {β : Type} (k : Nat) (v : ByteArray) (wx : Ad) (K : KT β) : Af (Z2 k) Tryz.f106 (PsT.put Xgc (v, (wx, ()), ())) K = (Xn5 k v wx).bind fun r => K (F106_O.put r) :=
 Eq.trans (b := Xfq (Ox k v wx K k) k v wx) (by kernel_rfl) (by simp only [Xn5, Xfq, z1, z2, z3, z4, z5, z6, z7, z8, Xem])
def Xnc (k : Nat) : FD := ⟨106, Xgc, F106_O, Xn5 k⟩
theorem X75 (k : Nat) : (Xnc k).Ok Tryz.prog := ⟨fun x => Ab (Aj (Ah (.c (X24 k) .n)) _ _ _ _) Ag Tryz.func106 rfl rfl (Xvo k _ _ some), .of (by kernel_rfl)⟩
abbrev X9z (k : Nat) : Env := Bd (A0 [Wg k, Tm k, Xnc k]) Am .own [] k
abbrev Xzx : List PA := [.one (.sl .ro nam), .one .str]
abbrev F44_O : RO := ⟨[.v, .v], [mI, mB]⟩
def Z5 {β : Type} (RET : (Int × Bool) → Option β) (k : Nat) (v : Ad) (w : ByteArray) : Option β := (Q3 k v).bind fun b1 => cond (!b1) (RET (0, false)) ((F105 k w).bind fun b2 => cond (!b2) (RET (0, false)) ((Xn5 k w v).bind fun b3 => RET (b3.1, b3.2.1)))
def F44 := Z5 (β := Int × Bool) some
theorem X3z {β : Type} (k : Nat) (v : Ad) (w : ByteArray) (K : KT β) : Af (X9z k) Tryz.f44 (PsT.put Xzx (v, w, ())) K = (F44 k v w).bind fun r => K (F44_O.put r) :=
 Eq.trans (b := Z5 (fun r => K (F44_O.put r)) k v w) (by kernel_rfl) (by simp only [F44, Z5, z1, z2, z3, z4, z5, z6, z7, z8])
def Xzs (k : Nat) : FD := ⟨44, Xzx, F44_O, F44 k⟩
theorem X8s (k : Nat) : (Xzs k).Ok Tryz.prog := ⟨fun x => Ab (Aj (Ah (.c (Xdw k) (.c (Yw k) (.c (X75 k) .n)))) _ _ _ _) Ag Tryz.func44 rfl rfl (X3z k _ _ some), .of (by kernel_rfl)⟩
def X7u : Nat → Hint
 | 0 => ⟨pl 0 1 (pl 5 3 []), []⟩
 | _ => ⟨[], []⟩
abbrev Ym (k : Nat) : Env := Bd Bq X7u .own [] k
abbrev Xf0 : List PA := [.one (.nil kep)]
abbrev F175_O : RO := ⟨[.v], [mB]⟩
noncomputable def X2c {β : Type} (k : Nat) (v : Ae) (K : KT β) : Ex → St → Option β := Bx (Ym k) Tryz.f175 (PsT.put Xf0 (v, ())) K
def Xw3 (v : Ae) : St := ⟨(.one (.v (.slice none 0 0))) :: dz 4 ((.one (.v (.slice none 0 0))) :: (.one (vI 0)) :: (.one (vI 0)) :: dz 28 []), []⟩
noncomputable def U6 {β : Type} (k : Nat) (v : Ae) (K : KT β) (n : Nat) : Option β := A7 (Ym k) Tryz.f175 [1, 0, 1, 0] 0 (Ap (Ym k) [1, 0, 1, 0] (Ar Tryz.f175) 0 (X2c k v K)) n (Xw3 v)
def Pf {β : Type} (RET : Bool → Option β) (k : Nat) (v : Ae) : Option β := RET true
def Yk (k : Nat) (v : Ae) : Nat → Option (Bool)
 | 0 => none
 | n + 1 => Pf some k v
theorem Xgg {β : Type} (k : Nat) (v : Ae) (K : KT β) (n : Nat) : U6 k v K n =
  (Yk k v n).bind fun r => K (F175_O.put r) := by
 induction n with
 | zero => intros; rfl
 | succ n ih =>
  refine Eq.trans (b := Pf (fun r => K (F175_O.put r)) k v) (by kernel_rfl) ?_
  rw [Yk]
  simp only [Pf, z1, z2, z3, z4, z5, z6, z7, z8, ih]
def Xgy {β : Type} (LP0 : Option β) (k : Nat) (v : Ae) : Option β := LP0
def Xki (k : Nat) (v : Ae) : Option (Bool) := Xgy (Yk k v k) k v
theorem Xv5 {β : Type} (k : Nat) (v : Ae) (K : KT β) : Af (Ym k) Tryz.f175 (PsT.put Xf0 (v, ())) K = (Xki k v).bind fun r => K (F175_O.put r) :=
 Eq.trans (b := Xgy (U6 k v K k) k v) (by kernel_rfl) (by simp only [Xki, Xgy, z1, z2, z3, z4, z5, z6, z7, z8, Xgg])
def Xqh (k : Nat) : FD := ⟨175, Xf0, F175_O, Xki k⟩
theorem X62 (k : Nat) : (Xqh k).Ok Tryz.prog := ⟨fun x => Ab (Aj .none _ _ _ _) Ag Tryz.func175 rfl rfl (Xv5 k _ some), .of (by kernel_rfl)⟩
abbrev X69 (k : Nat) : Env := Bd (A0 [Xqh k, Wg k, Tm k, D3 k]) Am .own [] k
abbrev Xpc : List PA := [.one (.nil kep), .one (.sl .ro nam), .one .str, .one mI]
abbrev F110_O : RO := ⟨[.v], [mB]⟩
def Ry {β : Type} (RET : Bool → Option β) (k : Nat) (v : Ae) (w : Ad) (p : ByteArray) (q : Int) : Option β := (Xki k []).bind fun b1 => cond b1 ((Q3 k w).bind fun b2 => cond b2 ((F105 k p).bind fun b3 => cond b3 ((N5 k q 0 900000).bind fun b4 => RET b4) (RET false)) (RET false)) (RET false)
def Xbk := Ry (β := Bool) some
theorem Xyf {β : Type} (k : Nat) (v : Ae) (w : Ad) (p : ByteArray) (q : Int) (K : KT β) : Af (X69 k) Tryz.f110 (PsT.put Xpc (v, w, p, q, ())) K = (Xbk k v w p q).bind fun r => K (F110_O.put r) :=
 Eq.trans (b := Ry (fun r => K (F110_O.put r)) k v w p q) (by kernel_rfl) (by simp only [Xbk, Ry, z1, z2, z3, z4, z5, z6, z7, z8])
def Xl9 (k : Nat) : FD := ⟨110, Xpc, F110_O, Xbk k⟩
theorem X7n (k : Nat) : (Xl9 k).Ok Tryz.prog := ⟨fun x => Ab (Aj (Ah (.c (X62 k) (.c (Xdw k) (.c (Yw k) (.c (Eb k) .n))))) _ _ _ _) Ag Tryz.func110 rfl rfl (Xyf k _ _ _ _ some), .of (by kernel_rfl)⟩
abbrev X5f (k : Nat) : Env := { Bd Bq Am .own [] k with frz := [2999999] }
abbrev Xlx : List PA := [.one (.nil kep)]
abbrev F111_O : RO := ⟨[.v], [.nil kep]⟩
def Xrh (k : Nat) (v : Ae) : Option (Ae) := some []
theorem Xzb {β : Type} (k : Nat) (v : Ae) (K : KT β) : Af (X5f k) Tryz.f111 (PsT.put Xlx (v, ())) K = (Xrh k v).bind fun r => K (F111_O.put r) :=
 Eq.trans (b := K (F111_O.put [])) (by kernel_rfl) (by simp only [Xrh, z1, z2, z3, z4, z5, z6, z7, z8])
def Xr9 (k : Nat) : FD := ⟨111, Xlx, F111_O, Xrh k⟩
theorem X5b (k : Nat) : (Xr9 k).Ok Tryz.prog := ⟨fun x => Ab (Tt [2999999] .none _ _ _ _) Ag Tryz.func111 rfl rfl (Xzb k _ some), .of (by kernel_rfl)⟩
def X7e : Nat → Hint
 | 0 => ⟨pl 0 2 (pl 7 2 []), pl 1100 1 []⟩
 | _ => ⟨[], []⟩
abbrev Zn (k : Nat) : Env := Bd Bq X7e .own [(false, 1100)] k
abbrev Xgt : List PA := [.one (.nil kep), .fc 232 [.str]]
abbrev F231_O : RO := ⟨[.v], [mI, .str]⟩
noncomputable def X17 {β : Type} (k : Nat) (v : Ae) (wx : ByteArray) (K : KT β) : Ex → St → Option β := Bx (Zn k) Tryz.f231 (PsT.put Xgt (v, (wx, ()), ())) K
def Xvb (v : Ae) (wx : ByteArray) : St := ⟨(.one (.v (.slice none 0 0))) :: (.one (.fn 232 [((.cell 1100), 1, 0)])) :: dz 5 ((.one (vI 0)) :: (.one (vI 0)) :: dz 10 []), [eM 1100 (.v (.string wx))]⟩
noncomputable def Vm {β : Type} (k : Nat) (v : Ae) (wx : ByteArray) (K : KT β) (n : Nat) : Option β := A7 (Zn k) Tryz.f231 [1, 0, 1, 0] 0 (Ap (Zn k) [1, 0, 1, 0] (Ar Tryz.f231) 0 (X17 k v wx K)) n (Xvb v wx)
def Og {β : Type} (RET : (Int × ByteArray) → Option β) (k : Nat) (v : Ae) (wx : ByteArray) : Option β := RET ((-1), wx)
def Y1 (k : Nat) (v : Ae) (wx : ByteArray) : Nat → Option (Int × ByteArray)
 | 0 => none
 | n + 1 => Og some k v wx
theorem Xek {β : Type} (k : Nat) (v : Ae) (wx : ByteArray) (K : KT β) (n : Nat) : Vm k v wx K n =
  (Y1 k v wx n).bind fun r => K (F231_O.put r) := by
 induction n with
 | zero => intros; rfl
 | succ n ih =>
  refine Eq.trans (b := Og (fun r => K (F231_O.put r)) k v wx) (by kernel_rfl) ?_
  rw [Y1]
  simp only [Og, z1, z2, z3, z4, z5, z6, z7, z8, ih]
def Xgu {β : Type} (LP0 : Option β) (k : Nat) (v : Ae) (wx : ByteArray) : Option β := LP0
def Xrt (k : Nat) (v : Ae) (wx : ByteArray) : Option (Int × ByteArray) := Xgu (Y1 k v wx k) k v wx
theorem Xwi {β : Type} (k : Nat) (v : Ae) (wx : ByteArray) (K : KT β) : Af (Zn k) Tryz.f231 (PsT.put Xgt (v, (wx, ()), ())) K = (Xrt k v wx).bind fun r => K (F231_O.put r) :=
 Eq.trans (b := Xgu (Vm k v wx K k) k v wx) (by kernel_rfl) (by simp only [Xrt, Xgu, z1, z2, z3, z4, z5, z6, z7, z8, Xek])
def Xoe (k : Nat) : FD := ⟨231, Xgt, F231_O, Xrt k⟩
theorem X3y (k : Nat) : (Xoe k).Ok Tryz.prog := ⟨fun x => Ab (Aj .none _ _ _ _) Ag Tryz.func231 rfl rfl (Xwi k _ _ some), .of (by kernel_rfl)⟩
abbrev X53 (k : Nat) : Env := Bd (A0 [Xoe k]) Am .own [] k
abbrev Xt9 : List PA := [.one (.nil kep), .one .str]
abbrev F177_O : RO := ⟨[.v], [mI]⟩
def Xp1 (k : Nat) (v : Ae) (w : ByteArray) : Option (Int) := (Xrt k [] w).bind fun b1 => some b1.1
theorem Xu3 {β : Type} (k : Nat) (v : Ae) (w : ByteArray) (K : KT β) : Af (X53 k) Tryz.f177 (PsT.put Xt9 (v, w, ())) K = (Xp1 k v w).bind fun r => K (F177_O.put r) :=
 Eq.trans (b := (Xrt k [] w).bind fun b1 => K (F177_O.put b1.1)) (by kernel_rfl) (by simp only [Xp1, z1, z2, z3, z4, z5, z6, z7, z8])
def Xti (k : Nat) : FD := ⟨177, Xt9, F177_O, Xp1 k⟩
theorem X13 (k : Nat) : (Xti k).Ok Tryz.prog := ⟨fun x => Ab (Aj (Ah (.c (X3y k) .n)) _ _ _ _) Ag Tryz.func177 rfl rfl (Xu3 k _ _ some), .of (by kernel_rfl)⟩
abbrev X5g (k : Nat) : Env := Bd Bq Am .own [] k
abbrev Xqf : List PA := [.one (.nil kep)]
abbrev F178_O : RO := ⟨[.v], [.sl .own kep]⟩
def Xnz (k : Nat) (v : Ae) : Option (Ae) := some []
theorem Xyc {β : Type} (k : Nat) (v : Ae) (K : KT β) : Af (X5g k) Tryz.f178 (PsT.put Xqf (v, ())) K = (Xnz k v).bind fun r => K (F178_O.put r) :=
 Eq.trans (b := K (F178_O.put [])) (by kernel_rfl) (by simp only [Xnz, z1, z2, z3, z4, z5, z6, z7, z8])
def Xub (k : Nat) : FD := ⟨178, Xqf, F178_O, Xnz k⟩
theorem X5r (k : Nat) : (Xub k).Ok Tryz.prog := ⟨fun x => Ab (Aj .none _ _ _ _) Ag Tryz.func178 rfl rfl (Xyc k _ some), .of (by kernel_rfl)⟩
abbrev X6s : List PA := [.one (.sl .ro kep), .one mI, .one mI]
abbrev X6f : RO := ⟨[.v], [.sl .own kep]⟩
def X5w (k : Nat) (v : Ae) (w p : Int) : Option (Ae) := none
def Xfm (k : Nat) : FD := ⟨179, X6s, X6f, X5w k⟩
theorem Xsx (k : Nat) : (Xfm k).Ok Tryz.prog := ⟨fun _ _ _ _ _ _ _ _ _ _ _ _ h => (nofun : none = some _ → _) h, .of (by kernel_rfl)⟩
abbrev X54 (k : Nat) : Env := Bd Bq Am .own [] k
abbrev Xqz : List PA := [.one (.sl .own kep)]
abbrev F176_O : RO := ⟨[.v], [.sl .own kep]⟩
def Z3 {β : Type} (RET : Ae → Option β) (k : Nat) (v : Ae) : Option β := cond (decide (0 ≤ (v.length : Int)) && decide ((v.length : Int) ≤ (v.length : Int))) (cond (decide ((v.length : Int) = (v.length : Int))) (RET ((v.take ((v.length : Int).toNat)).drop 0)) none) none
def Xmr := Z3 (β := Ae) some
theorem Xx6 {β : Type} (k : Nat) (v : Ae) (K : KT β) : Af (X54 k) Tryz.f176 (PsT.put Xqz (v, ())) K = (Xmr k v).bind fun r => K (F176_O.put r) :=
 Eq.trans (b := Z3 (fun r => K (F176_O.put r)) k v) (by kernel_rfl) (by simp only [Xmr, Z3, z1, z2, z3, z4, z5, z6, z7, z8])
def Xtj (k : Nat) : FD := ⟨176, Xqz, F176_O, Xmr k⟩
theorem X39 (k : Nat) : (Xtj k).Ok Tryz.prog := ⟨fun x => Ab (Aj .none _ _ _ _) Ag Tryz.func176 rfl rfl (Xx6 k _ some), .of (by kernel_rfl)⟩
abbrev Xo2 (k : Nat) : Env := Bd (A0 [Xtj k]) Am .own [] k
abbrev Xac : List PA := [.one (.sl .ro kep)]
abbrev F111_2_O : RO := ⟨[.v], [.sl .own kep]⟩
def Mj {β : Type} (RET : Ae → Option β) (k : Nat) (v : Ae) : Option β := cond ((v.length : Int) == 0) (RET []) (Bi (([] : Ae).length) (v.length) 64 ((Xmr k ([] ++ v)).bind fun b1 => RET b1))
def G5 := Mj (β := Ae) some
theorem Xlh {β : Type} (k : Nat) (v : Ae) (K : KT β) : Af (Xo2 k) Tryz.f111 (PsT.put Xac (v, ())) K = (G5 k v).bind fun r => K (F111_2_O.put r) :=
 Eq.trans (b := Mj (fun r => K (F111_2_O.put r)) k v) (by kernel_rfl) (by simp only [G5, Mj, z1, z2, z3, z4, z5, z6, z7, z8])
def Nk (k : Nat) : FD := ⟨111, Xac, F111_2_O, G5 k⟩
theorem Ti (k : Nat) : (Nk k).Ok Tryz.prog := ⟨fun x => Ab (Aj (Ah (.c (X39 k) .n)) _ _ _ _) Ag Tryz.func111 rfl rfl (Xlh k _ some), .of (by kernel_rfl)⟩
abbrev X7q (k : Nat) : Env := Bd (A0 [Xti k, Yr k, Xub k, Xfm k, Nk k]) Am .own [] k
abbrev Xud : List PA := [.one (.nil kep), .one (.sl .ro nam), .one .str, .one mI]
abbrev F113_O : RO := ⟨[.v, .a, .v], [.sl .own kep, .pair .str m_2, mB]⟩
def Rm {β : Type} (k : Nat) (v : Ae) (w : Ad) (p : ByteArray) (q : Int) (RET : (Ae × (den nam) × Bool) → Option β) (b4 : Ae) (b2 : (den nam)) : Option β := Bi (b4.length) ([(b2, i64.wrap (q + b2.2.2.2.2))].length) 64 (cond (decide (0 ≤ (if 0 < (i64.wrap (((b4 ++ [(b2, i64.wrap (q + b2.2.2.2.2))]).length : Int) - 5)) then i64.wrap (((b4 ++ [(b2, i64.wrap (q + b2.2.2.2.2))]).length : Int) - 5) else 0)) && decide ((if 0 < (i64.wrap (((b4 ++ [(b2, i64.wrap (q + b2.2.2.2.2))]).length : Int) - 5)) then i64.wrap (((b4 ++ [(b2, i64.wrap (q + b2.2.2.2.2))]).length : Int) - 5) else 0) ≤ ((b4 ++ [(b2, i64.wrap (q + b2.2.2.2.2))]).length : Int))) ((G5 k (((b4 ++ [(b2, i64.wrap (q + b2.2.2.2.2))]).take ((((b4 ++ [(b2, i64.wrap (q + b2.2.2.2.2))]).length : Int)).toNat)).drop ((if 0 < (i64.wrap (((b4 ++ [(b2, i64.wrap (q + b2.2.2.2.2))]).length : Int) - 5)) then i64.wrap (((b4 ++ [(b2, i64.wrap (q + b2.2.2.2.2))]).length : Int) - 5) else 0).toNat))).bind fun b5 => RET (b5, b2, false)) none)
def Wy {β : Type} (RET : (Ae × (den nam) × Bool) → Option β) (k : Nat) (v : Ae) (w : Ad) (p : ByteArray) (q : Int) : Option β := (Xp1 k [] p).bind fun b1 => cond (decide (b1 ≥ 0)) none ((Yl k w p).bind fun b2 => (Xnz k []).bind fun b3 => cond (decide (b1 ≥ 0)) ((X5w k b3 b1 (i64.wrap (b1 + 1))).bind fun b4 => Rm k v w p q RET b4 b2) (Rm k v w p q RET b3 b2))
def Xdx := Wy (β := Ae × (den nam) × Bool) some
theorem Xxi {β : Type} (k : Nat) (v : Ae) (w : Ad) (p : ByteArray) (q : Int) (K : KT β) : Af (X7q k) Tryz.f113 (PsT.put Xud (v, w, p, q, ())) K = (Xdx k v w p q).bind fun r => K (F113_O.put r) :=
 Eq.trans (b := Wy (fun r => K (F113_O.put r)) k v w p q) (by kernel_rfl) (by simp only [Xdx, Wy, Rm, z1, z2, z3, z4, z5, z6, z7, z8])
def Xo9 (k : Nat) : FD := ⟨113, Xud, F113_O, Xdx k⟩
theorem X4b (k : Nat) : (Xo9 k).Ok Tryz.prog := ⟨fun x => Ab (Aj (Ah (.c (X13 k) (.c (Xgx k) (.c (X5r k) (.c (Xsx k) (.c (Ti k) .n)))))) _ _ _ _) Ag Tryz.func113 rfl rfl (Xxi k _ _ _ _ some), .of (by kernel_rfl)⟩
end
end Go.Proofs.YtdmepjjepogddaaGreat.Gn
end

section
set_option linter.unusedVariables false
set_option linter.unusedSimpArgs false
namespace Go.Proofs.YtdmepjjepogddaaGreat.Gn
open Go.Rf IntKind
noncomputable section
abbrev X1x (k : Nat) : Env := Bd (A0 [Xo9 k]) Am .own [(false, 1000), (false, 2000), (false, 3000)] k
abbrev X2d : Type := (den nam) × Ae × Ad × Int
abbrev Xpo : List PA := [.one .str, .p (.nil kep), .p (.sl .ro nam), .p mI]
abbrev F112_O : RO := ⟨[.a], [.pair .str m_2, .sl .own kep, .sl .ro nam, mI]⟩
def Xc7 (k : Nat) (v : ByteArray) (w : Ae) (p : Ad) (q : Int) : Option (X2d) := (Xdx k [] p v q).bind fun b1 => some (b1.2.1, b1.1, p, q)
theorem Xy2 {β : Type} (k : Nat) (v : ByteArray) (w : Ae) (p : Ad) (q : Int) (K : KT β) : Af (X1x k) Tryz.f112 (PsT.put Xpo (v, w, p, q, ())) K = (Xc7 k v w p q).bind fun r => K (F112_O.put r) :=
 Eq.trans (b := (Xdx k [] p v q).bind fun b1 => K (F112_O.put (b1.2.1, b1.1, p, q))) (by kernel_rfl) (by simp only [Xc7, z1, z2, z3, z4, z5, z6, z7, z8])
def Xng (k : Nat) : FD := ⟨112, Xpo, F112_O, Xc7 k⟩
theorem X4w (k : Nat) : (Xng k).Ok Tryz.prog := ⟨fun x => Ab (Aj (Ah (.c (X4b k) .n)) _ _ _ _) Ag Tryz.func112 rfl rfl (Xy2 k _ _ _ _ some), .of (by kernel_rfl)⟩
abbrev X5x (k : Nat) : Env := Bd Bq Am .own [(false, 1000)] k
abbrev Xsb : List PA := [.agg m_4, .p .str]
abbrev F232_O : RO := ⟨[.v], [mB, .str]⟩
def Xtr (k : Nat) (v : (den kep)) (w : ByteArray) : Option (Bool × ByteArray) := some ((v.1.1.toList == w.toList), w)
theorem Xv2 {β : Type} (k : Nat) (v : (den kep)) (w : ByteArray) (K : KT β) : Af (X5x k) Tryz.f232 (PsT.put Xsb (v, w, ())) K = (Xtr k v w).bind fun r => K (F232_O.put r) :=
 Eq.trans (b := K (F232_O.put ((v.1.1.toList == w.toList), w))) (by kernel_rfl) (by simp only [Xtr, z1, z2, z3, z4, z5, z6, z7, z8])
def Xlv (k : Nat) : FD := ⟨232, Xsb, F232_O, Xtr k⟩
theorem X37 (k : Nat) : (Xlv k).Ok Tryz.prog := ⟨fun x => Ab (Aj .none _ _ _ _) Ag Tryz.func232 rfl rfl (Xv2 k _ _ some), .of (by kernel_rfl)⟩
def Xr7 : Nat → Hint
 | 0 => ⟨pl 0 2 (pl 7 2 []), pl 1100 1 []⟩
 | _ => ⟨[], []⟩
abbrev Nj (k : Nat) : Env := Bd (A0 [Xlv k]) Xr7 .own [(false, 1100)] k
abbrev Sd : List PA := [.one (.sl .ro kep), .fc 232 [.str]]
abbrev F231_2_O : RO := ⟨[.v], [mI, .str]⟩
noncomputable def Xs4 {β : Type} (k : Nat) (v : Ae) (wx : ByteArray) (K : KT β) : Ex → St → Option β := Bx (Nj k) Tryz.f231 (PsT.put Sd (v, (wx, ()), ())) K
def Xko (v : Ae) (wx : ByteArray) (x8_0 : Int) (m1100_0 : ByteArray) : St := ⟨(.one (.s .ro kep v)) :: (.one (.fn 232 [((.cell 1100), 1, 0)])) :: dz 5 ((.one (vI (v.length : Int))) :: (.one (vI x8_0)) :: dz 10 []), [eM 1100 (.v (.string m1100_0))]⟩
noncomputable def Jc {β : Type} (k : Nat) (v : Ae) (wx : ByteArray) (K : KT β) (n : Nat) (x8_0 : Int) (m1100_0 : ByteArray) : Option β := A7 (Nj k) Tryz.f231 [1, 0, 1, 0] 0 (Ap (Nj k) [1, 0, 1, 0] (Ar Tryz.f231) 0 (Xs4 k v wx K)) n (Xko v wx x8_0 m1100_0)
def Fg {β : Type} (NX : Int → ByteArray → Option β) (RET : (Int × ByteArray) → Option β) (k : Nat) (v : Ae) (wx : ByteArray) (x8_0 : Int) (m1100_0 : ByteArray) : Option β := cond (decide (x8_0 < (v.length : Int))) (Az x8_0 v ((Xtr k (Aw v x8_0) m1100_0).bind fun b1 => cond b1.1 (RET (x8_0, b1.2)) (NX (i64.wrap (x8_0 + 1)) b1.2))) (RET ((-1), m1100_0))
def Es (k : Nat) (v : Ae) (wx : ByteArray) : Nat → Int → ByteArray → Option (Int × ByteArray)
 | 0, _, _ => none
 | n + 1, x8_0, m1100_0 => Fg (Es k v wx n) some k v wx x8_0 m1100_0
theorem Wd {β : Type} (k : Nat) (v : Ae) (wx : ByteArray) (K : KT β) (n : Nat) : ∀ (x8_0 : Int) (m1100_0 : ByteArray), Jc k v wx K n x8_0 m1100_0 =
  (Es k v wx n x8_0 m1100_0).bind fun r => K (F231_2_O.put r) := by
 induction n with
 | zero => intros; rfl
 | succ n ih =>
  intro x8_0 m1100_0
  refine Eq.trans (b := Fg (Jc k v wx K n) (fun r => K (F231_2_O.put r)) k v wx x8_0 m1100_0) (by kernel_rfl) ?_
  rw [Es]
  simp only [Fg, z1, z2, z3, z4, z5, z6, z7, z8, ih]
def S2 {β : Type} (LP0 : Int → ByteArray → Option β) (k : Nat) (v : Ae) (wx : ByteArray) : Option β := LP0 0 wx
def Pk (k : Nat) (v : Ae) (wx : ByteArray) : Option (Int × ByteArray) := S2 (Es k v wx k) k v wx
theorem Xkk {β : Type} (k : Nat) (v : Ae) (wx : ByteArray) (K : KT β) : Af (Nj k) Tryz.f231 (PsT.put Sd (v, (wx, ()), ())) K = (Pk k v wx).bind fun r => K (F231_2_O.put r) :=
 Eq.trans (b := S2 (Jc k v wx K k) k v wx) (by kernel_rfl) (by simp only [Pk, S2, z1, z2, z3, z4, z5, z6, z7, z8, Wd])
def Xax (k : Nat) : FD := ⟨231, Sd, F231_2_O, Pk k⟩
theorem Xm3 (k : Nat) : (Xax k).Ok Tryz.prog := ⟨fun x => Ab (Aj (Ah (.c (X37 k) .n)) _ _ _ _) Ag Tryz.func231 rfl rfl (Xkk k _ _ some), .of (by kernel_rfl)⟩
abbrev Xm7 (k : Nat) : Env := Bd (A0 [Xax k]) Am .own [] k
abbrev Xab : List PA := [.one (.sl .ro kep), .one .str]
abbrev F177_2_O : RO := ⟨[.v], [mI]⟩
def Lz (k : Nat) (v : Ae) (w : ByteArray) : Option (Int) := (Pk k v w).bind fun b1 => some b1.1
theorem Xjp {β : Type} (k : Nat) (v : Ae) (w : ByteArray) (K : KT β) : Af (Xm7 k) Tryz.f177 (PsT.put Xab (v, w, ())) K = (Lz k v w).bind fun r => K (F177_2_O.put r) :=
 Eq.trans (b := (Pk k v w).bind fun b1 => K (F177_2_O.put b1.1)) (by kernel_rfl) (by simp only [Lz, z1, z2, z3, z4, z5, z6, z7, z8])
def Rv (k : Nat) : FD := ⟨177, Xab, F177_2_O, Lz k⟩
theorem Xb6 (k : Nat) : (Rv k).Ok Tryz.prog := ⟨fun x => Ab (Aj (Ah (.c (Xm3 k) .n)) _ _ _ _) Ag Tryz.func177 rfl rfl (Xjp k _ _ some), .of (by kernel_rfl)⟩
abbrev Xrr (k : Nat) : Env := Bd Bq Am .own [] k
abbrev Xar : List PA := [.one (.sl .ro kep)]
abbrev F178_2_O : RO := ⟨[.v], [.sl .own kep]⟩
def M8 {β : Type} (RET : Ae → Option β) (k : Nat) (v : Ae) : Option β := cond (decide (v.length = 0)) none (Bi (([] : Ae).length) (v.length) 64 (RET ([] ++ v)))
def Pl := M8 (β := Ae) some
theorem Xkd {β : Type} (k : Nat) (v : Ae) (K : KT β) : Af (Xrr k) Tryz.f178 (PsT.put Xar (v, ())) K = (Pl k v).bind fun r => K (F178_2_O.put r) :=
 Eq.trans (b := M8 (fun r => K (F178_2_O.put r)) k v) (by kernel_rfl) (by simp only [Pl, M8, z1, z2, z3, z4, z5, z6, z7, z8])
def Xbz (k : Nat) : FD := ⟨178, Xar, F178_2_O, Pl k⟩
theorem Xq8 (k : Nat) : (Xbz k).Ok Tryz.prog := ⟨fun x => Ab (Aj .none _ _ _ _) Ag Tryz.func178 rfl rfl (Xkd k _ some), .of (by kernel_rfl)⟩
abbrev Xmx (k : Nat) : Env := Bd (A0 [Rv k, Nk k, Yr k, Xbz k, Xfm k]) Am .own [] k
abbrev Xco : List PA := [.one (.sl .ro kep), .one (.sl .ro nam), .one .str, .one mI]
abbrev F113_2_O : RO := ⟨[.v, .a, .v], [.sl .own kep, .pair .str m_2, mB]⟩
def K0 {β : Type} (k : Nat) (v : Ae) (w : Ad) (p : ByteArray) (q : Int) (RET : (Ae × (den nam) × Bool) → Option β) (b5 : Ae) (b3 : (den nam)) : Option β := Bi (b5.length) ([(b3, i64.wrap (q + b3.2.2.2.2))].length) 64 (cond (decide (0 ≤ (if 0 < (i64.wrap (((b5 ++ [(b3, i64.wrap (q + b3.2.2.2.2))]).length : Int) - 5)) then i64.wrap (((b5 ++ [(b3, i64.wrap (q + b3.2.2.2.2))]).length : Int) - 5) else 0)) && decide ((if 0 < (i64.wrap (((b5 ++ [(b3, i64.wrap (q + b3.2.2.2.2))]).length : Int) - 5)) then i64.wrap (((b5 ++ [(b3, i64.wrap (q + b3.2.2.2.2))]).length : Int) - 5) else 0) ≤ ((b5 ++ [(b3, i64.wrap (q + b3.2.2.2.2))]).length : Int))) ((G5 k (((b5 ++ [(b3, i64.wrap (q + b3.2.2.2.2))]).take ((((b5 ++ [(b3, i64.wrap (q + b3.2.2.2.2))]).length : Int)).toNat)).drop ((if 0 < (i64.wrap (((b5 ++ [(b3, i64.wrap (q + b3.2.2.2.2))]).length : Int) - 5)) then i64.wrap (((b5 ++ [(b3, i64.wrap (q + b3.2.2.2.2))]).length : Int) - 5) else 0).toNat))).bind fun b6 => RET (b6, b3, false)) none)
def K6 {β : Type} (k : Nat) (v : Ae) (w : Ad) (p : ByteArray) (q : Int) (RET : (Ae × (den nam) × Bool) → Option β) (b1 : Int) : Option β := (Yl k w p).bind fun b3 => (Pl k v).bind fun b4 => cond (decide (b1 ≥ 0)) ((X5w k b4 b1 (i64.wrap (b1 + 1))).bind fun b5 => K0 k v w p q RET b5 b3) (K0 k v w p q RET b4 b3)
def Mu {β : Type} (RET : (Ae × (den nam) × Bool) → Option β) (k : Nat) (v : Ae) (w : Ad) (p : ByteArray) (q : Int) : Option β := (Lz k v p).bind fun b1 => cond (decide (b1 ≥ 0)) (Az b1 v (cond (decide ((Aw v b1).2 > q)) ((G5 k v).bind fun b2 => Az b1 v (RET (b2, (Aw v b1).1, true))) (K6 k v w p q RET b1))) (K6 k v w p q RET b1)
def L6 := Mu (β := Ae × (den nam) × Bool) some
theorem Xkx {β : Type} (k : Nat) (v : Ae) (w : Ad) (p : ByteArray) (q : Int) (K : KT β) : Af (Xmx k) Tryz.f113 (PsT.put Xco (v, w, p, q, ())) K = (L6 k v w p q).bind fun r => K (F113_2_O.put r) :=
 Eq.trans (b := Mu (fun r => K (F113_2_O.put r)) k v w p q) (by kernel_rfl) (by simp only [L6, Mu, K0, K6, z1, z2, z3, z4, z5, z6, z7, z8])
def Xbn (k : Nat) : FD := ⟨113, Xco, F113_2_O, L6 k⟩
theorem Xl4 (k : Nat) : (Xbn k).Ok Tryz.prog := ⟨fun x => Ab (Aj (Ah (.c (Xb6 k) (.c (Ti k) (.c (Xgx k) (.c (Xq8 k) (.c (Xsx k) .n)))))) _ _ _ _) Ag Tryz.func113 rfl rfl (Xkx k _ _ _ _ some), .of (by kernel_rfl)⟩
abbrev Xsh (k : Nat) : Env := Bd (A0 [Xbn k]) Am .own [(false, 1000), (false, 2000), (false, 3000)] k
abbrev Xms : Type := (den nam) × Ae × Ad × Int
abbrev Xbe : List PA := [.one .str, .p (.sl .own kep), .p (.sl .ro nam), .p mI]
abbrev F112_2_O : RO := ⟨[.a], [.pair .str m_2, .sl .own kep, .sl .ro nam, mI]⟩
def Hn (k : Nat) (v : ByteArray) (w : Ae) (p : Ad) (q : Int) : Option (Xms) := (L6 k w p v q).bind fun b1 => some (b1.2.1, b1.1, p, q)
theorem Xlo {β : Type} (k : Nat) (v : ByteArray) (w : Ae) (p : Ad) (q : Int) (K : KT β) : Af (Xsh k) Tryz.f112 (PsT.put Xbe (v, w, p, q, ())) K = (Hn k v w p q).bind fun r => K (F112_2_O.put r) :=
 Eq.trans (b := (L6 k w p v q).bind fun b1 => K (F112_2_O.put (b1.2.1, b1.1, p, q))) (by kernel_rfl) (by simp only [Hn, z1, z2, z3, z4, z5, z6, z7, z8])
def Rp (k : Nat) : FD := ⟨112, Xbe, F112_2_O, Hn k⟩
theorem Z9 (k : Nat) : (Rp k).Ok Tryz.prog := ⟨fun x => Ab (Aj (Ah (.c (Xl4 k) .n)) _ _ _ _) Ag Tryz.func112 rfl rfl (Xlo k _ _ _ _ some), .of (by kernel_rfl)⟩
def Xqi : Nat → Hint
 | 0 => ⟨pl 0 2 (pl 7 1 []), pl 1100 1 (pl 1200 1 (pl 1300 1 []))⟩
 | _ => ⟨[], []⟩
abbrev Gi (k : Nat) : Env := Bd (A0 [Xng k, Rp k]) Xqi .own [(false, 1100), (false, 1200), (false, 1300)] k
abbrev Nq : Type := Int × Bool × Ae × Ad × Int
abbrev Rz : List PA := [.one .str, .fc 112 [.nil kep, .sl .ro nam, mI]]
abbrev F106_2_O : RO := ⟨[.v, .v], [mI, mB, .sl .own kep, .sl .ro nam, mI]⟩
noncomputable def Xb5 {β : Type} (k : Nat) (v : ByteArray) (wx : Ae) (wy : Ad) (wz : Int) (K : KT β) : Ex → St → Option β := Bx (Gi k) Tryz.f106 (PsT.put Rz (v, (wx, wy, wz, ()), ())) K
def Xdm (v : ByteArray) (wx : Ae) (wy : Ad) (wz : Int) (x0_0 : ByteArray) (x7_0 : Int) (m1100_0 : Ae) (m1200_0 : Ad) (m1300_0 : Int) : St := ⟨(.one (.v (.string x0_0))) :: (.one (.fn 112 [((.cell 1100), 1, 0), ((.cell 1200), 1, 0), ((.cell 1300), 1, 0)])) :: dz 5 ((.one (vI x7_0)) :: dz 15 []), [eM 1100 (.s .own kep m1100_0), eM 1200 (.s .ro nam m1200_0), iM 1300 m1300_0]⟩
noncomputable def Hf {β : Type} (k : Nat) (v : ByteArray) (wx : Ae) (wy : Ad) (wz : Int) (K : KT β) (n : Nat) (x0_0 : ByteArray) (x7_0 : Int) (m1100_0 : Ae) (m1200_0 : Ad) (m1300_0 : Int) : Option β := A7 (Gi k) Tryz.f106 [1, 0, 1, 0] 0 (Ap (Gi k) [1, 0, 1, 0] (Ar Tryz.f106) 0 (Xb5 k v wx wy wz K)) n (Xdm v wx wy wz x0_0 x7_0 m1100_0 m1200_0 m1300_0)
def Ei {β : Type} (NX : ByteArray → Int → Ae → Ad → Int → Option β) (RET : Nq → Option β) (k : Nat) (v : ByteArray) (wx : Ae) (wy : Ad) (wz : Int) (x0_0 : ByteArray) (x7_0 : Int) (m1100_0 : Ae) (m1200_0 : Ad) (m1300_0 : Int) : Option β := cond (decide (x7_0 < 5)) ((Hn k x0_0 m1100_0 m1200_0 m1300_0).bind fun b2 => cond (b2.1.2.1 == 1) (RET (b2.1.2.2.1, (true, b2.2))) (cond (b2.1.2.1 == 0) (RET (0, (false, b2.2))) (NX b2.1.2.2.2.1 (i64.wrap (x7_0 + 1)) b2.2.1 b2.2.2.1 b2.2.2.2))) (RET (0, false, m1100_0, m1200_0, m1300_0))
def C2 (k : Nat) (v : ByteArray) (wx : Ae) (wy : Ad) (wz : Int) : Nat → ByteArray → Int → Ae → Ad → Int → Option (Nq)
 | 0, _, _, _, _, _ => none
 | n + 1, x0_0, x7_0, m1100_0, m1200_0, m1300_0 => Ei (C2 k v wx wy wz n) some k v wx wy wz x0_0 x7_0 m1100_0 m1200_0 m1300_0
theorem Uv {β : Type} (k : Nat) (v : ByteArray) (wx : Ae) (wy : Ad) (wz : Int) (K : KT β) (n : Nat) : ∀ (x0_0 : ByteArray) (x7_0 : Int) (m1100_0 : Ae) (m1200_0 : Ad) (m1300_0 : Int), Hf k v wx wy wz K n x0_0 x7_0 m1100_0 m1200_0 m1300_0 =
  (C2 k v wx wy wz n x0_0 x7_0 m1100_0 m1200_0 m1300_0).bind fun r => K (F106_2_O.put r) := by
 induction n with
 | zero => intros; rfl
 | succ n ih =>
  intro x0_0 x7_0 m1100_0 m1200_0 m1300_0
  refine Eq.trans (b := Ei (Hf k v wx wy wz K n) (fun r => K (F106_2_O.put r)) k v wx wy wz x0_0 x7_0 m1100_0 m1200_0 m1300_0) (by kernel_rfl) ?_
  rw [C2]
  simp only [Ei, z1, z2, z3, z4, z5, z6, z7, z8, ih]
def Xj8 (v : ByteArray) (wx : Ae) (wy : Ad) (wz : Int) : St := ⟨(.one (.v (.string v))) :: (.one (.fn 112 [((.cell 1100), 1, 0), ((.cell 1200), 1, 0), ((.cell 1300), 1, 0)])) :: dz 5 ((.one (vI 0)) :: dz 15 []), [eM 1100 (.v (.slice none 0 0)), eM 1200 (.s .ro nam wy), iM 1300 wz]⟩
noncomputable def Qn {β : Type} (k : Nat) (v : ByteArray) (wx : Ae) (wy : Ad) (wz : Int) (K : KT β) (n : Nat) : Option β := A7 (Gi k) Tryz.f106 [1, 0, 1, 0] 0 (Ap (Gi k) [1, 0, 1, 0] (Ar Tryz.f106) 0 (Xb5 k v wx wy wz K)) n (Xj8 v wx wy wz)
def G2 (k : Nat) (v : ByteArray) (wx : Ae) (wy : Ad) (wz : Int) : Nat → Option (Nq)
 | 0 => none
 | n + 1 => (Xc7 k v [] wy wz).bind fun b1 => cond (b1.1.2.1 == 1) (some (b1.1.2.2.1, (true, b1.2))) (cond (b1.1.2.1 == 0) (some (0, (false, b1.2))) (C2 k v wx wy wz n b1.1.2.2.2.1 1 b1.2.1 b1.2.2.1 b1.2.2.2))
theorem Ww {β : Type} (k : Nat) (v : ByteArray) (wx : Ae) (wy : Ad) (wz : Int) (K : KT β) (n : Nat) : Qn k v wx wy wz K n =
  (G2 k v wx wy wz n).bind fun r => K (F106_2_O.put r) := by
 induction n with
 | zero => intros; rfl
 | succ n ih =>
  refine Eq.trans (b := (Xc7 k v [] wy wz).bind fun b1 => cond (b1.1.2.1 == 1) (K (F106_2_O.put (b1.1.2.2.1, (true, b1.2)))) (cond (b1.1.2.1 == 0) (K (F106_2_O.put (0, (false, b1.2)))) (Hf k v wx wy wz K n b1.1.2.2.2.1 1 b1.2.1 b1.2.2.1 b1.2.2.2))) (by kernel_rfl) ?_
  rw [G2]
  simp only [z1, z2, z3, z4, z5, z6, z7, z8, Uv, ih]
def Tj {β : Type} (LP0 : Option β) (k : Nat) (v : ByteArray) (wx : Ae) (wy : Ad) (wz : Int) : Option β := LP0
def P0 (k : Nat) (v : ByteArray) (wx : Ae) (wy : Ad) (wz : Int) : Option (Nq) := Tj (G2 k v wx wy wz k) k v wx wy wz
theorem Xlf {β : Type} (k : Nat) (v : ByteArray) (wx : Ae) (wy : Ad) (wz : Int) (K : KT β) : Af (Gi k) Tryz.f106 (PsT.put Rz (v, (wx, wy, wz, ()), ())) K = (P0 k v wx wy wz).bind fun r => K (F106_2_O.put r) :=
 Eq.trans (b := Tj (Qn k v wx wy wz K k) k v wx wy wz) (by kernel_rfl) (by simp only [P0, Tj, z1, z2, z3, z4, z5, z6, z7, z8, Ww])
def Xau (k : Nat) : FD := ⟨106, Rz, F106_2_O, P0 k⟩
theorem Xp2 (k : Nat) : (Xau k).Ok Tryz.prog := ⟨fun x => Ab (Aj (Ah (.c (X4w k) (.c (Z9 k) .n))) _ _ _ _) Ag Tryz.func106 rfl rfl (Xlf k _ _ _ _ some), .of (by kernel_rfl)⟩
abbrev X8r (k : Nat) : Env := Bd (A0 [Xl9 k, Xr9 k, Xau k]) Am .own [] k
abbrev X0g : List PA := [.one (.nil kep), .one (.sl .ro nam), .one .str, .one mI]
abbrev F46_O : RO := ⟨[.v, .v, .v], [.sl .own kep, mI, mB]⟩
def Xce {β : Type} (RET : (Ae × Int × Bool) → Option β) (k : Nat) (v : Ae) (w : Ad) (p : ByteArray) (q : Int) : Option β := (Xbk k [] w p q).bind fun b1 => cond (!b1) (RET ([], 0, false)) ((Xrh k []).bind fun b2 => (P0 k p [] w q).bind fun b3 => RET (b3.2.2.1, b3.1, b3.2.1))
def F46 := Xce (β := Ae × Int × Bool) some
theorem X4s {β : Type} (k : Nat) (v : Ae) (w : Ad) (p : ByteArray) (q : Int) (K : KT β) : Af (X8r k) Tryz.f46 (PsT.put X0g (v, w, p, q, ())) K = (F46 k v w p q).bind fun r => K (F46_O.put r) :=
 Eq.trans (b := Xce (fun r => K (F46_O.put r)) k v w p q) (by kernel_rfl) (by simp only [F46, Xce, z1, z2, z3, z4, z5, z6, z7, z8])
def Xz6 (k : Nat) : FD := ⟨46, X0g, F46_O, F46 k⟩
theorem Yad (k : Nat) : (Xz6 k).Ok Tryz.prog := ⟨fun x => Ab (Aj (Ah (.c (X7n k) (.c (X5b k) (.c (Xp2 k) .n)))) _ _ _ _) Ag Tryz.func46 rfl rfl (X4s k _ _ _ _ some), .of (by kernel_rfl)⟩
def Xq1 : Nat → Hint
 | 0 => ⟨pl 0 1 (pl 5 3 []), []⟩
 | _ => ⟨[], []⟩
abbrev N4 (k : Nat) : Env := Bd (A0 [Xcs k, D3 k, Rv k]) Xq1 .own [] k
abbrev Sl : List PA := [.one (.sl .ro kep)]
abbrev F175_2_O : RO := ⟨[.v], [mB]⟩
noncomputable def Xsi {β : Type} (k : Nat) (v : Ae) (K : KT β) : Ex → St → Option β := Bx (N4 k) Tryz.f175 (PsT.put Sl (v, ())) K
def Xjx (v : Ae) (x7_0 : Int) : St := ⟨(.one (.s .ro kep v)) :: dz 4 ((.one (.s .ro kep v)) :: (.one (vI (v.length : Int))) :: (.one (vI x7_0)) :: dz 28 []), []⟩
noncomputable def I3 {β : Type} (k : Nat) (v : Ae) (K : KT β) (n : Nat) (x7_0 : Int) : Option β := A7 (N4 k) Tryz.f175 [1, 0, 1, 0] 0 (Ap (N4 k) [1, 0, 1, 0] (Ar Tryz.f175) 0 (Xsi k v K)) n (Xjx v x7_0)
def Fl {β : Type} (NX : Int → Option β) (RET : Bool → Option β) (k : Nat) (v : Ae) (x7_0 : Int) : Option β := cond (decide (x7_0 < (v.length : Int))) (Az x7_0 v ((F170 k (Aw v x7_0).1).bind fun b1 => cond (!b1) (RET false) ((N5 k (Aw v x7_0).2 0 1000000).bind fun b2 => cond (!b2) (RET false) (cond (decide (0 ≤ x7_0) && decide (x7_0 ≤ (v.length : Int))) ((Lz k (v.take x7_0.toNat) (Aw v x7_0).1.1).bind fun b3 => cond (decide (b3 ≥ 0)) (RET false) (NX (i64.wrap (x7_0 + 1)))) none)))) (RET (decide ((v.length : Int) ≤ 5)))
def C5 (k : Nat) (v : Ae) : Nat → Int → Option (Bool)
 | 0, _ => none
 | n + 1, x7_0 => Fl (C5 k v n) some k v x7_0
theorem Wv {β : Type} (k : Nat) (v : Ae) (K : KT β) (n : Nat) : ∀ (x7_0 : Int), I3 k v K n x7_0 =
  (C5 k v n x7_0).bind fun r => K (F175_2_O.put r) := by
 induction n with
 | zero => intros; rfl
 | succ n ih =>
  intro x7_0
  refine Eq.trans (b := Fl (I3 k v K n) (fun r => K (F175_2_O.put r)) k v x7_0) (by kernel_rfl) ?_
  rw [C5]
  simp only [Fl, z1, z2, z3, z4, z5, z6, z7, z8, ih]
def R0 {β : Type} (LP0 : Int → Option β) (k : Nat) (v : Ae) : Option β := LP0 0
def Oi (k : Nat) (v : Ae) : Option (Bool) := R0 (C5 k v k) k v
theorem Xlg {β : Type} (k : Nat) (v : Ae) (K : KT β) : Af (N4 k) Tryz.f175 (PsT.put Sl (v, ())) K = (Oi k v).bind fun r => K (F175_2_O.put r) :=
 Eq.trans (b := R0 (I3 k v K k) k v) (by kernel_rfl) (by simp only [Oi, R0, z1, z2, z3, z4, z5, z6, z7, z8, Wv])
def Xao (k : Nat) : FD := ⟨175, Sl, F175_2_O, Oi k⟩
theorem Xl3 (k : Nat) : (Xao k).Ok Tryz.prog := ⟨fun x => Ab (Aj (Ah (.c (Xmh k) (.c (Eb k) (.c (Xb6 k) .n)))) _ _ _ _) Ag Tryz.func175 rfl rfl (Xlg k _ some), .of (by kernel_rfl)⟩
abbrev Xph (k : Nat) : Env := Bd (A0 [Xao k, Wg k, Tm k, D3 k]) Am .own [] k
abbrev Xbp : List PA := [.one (.sl .ro kep), .one (.sl .ro nam), .one .str, .one mI]
abbrev F110_2_O : RO := ⟨[.v], [mB]⟩
def Ig {β : Type} (RET : Bool → Option β) (k : Nat) (v : Ae) (w : Ad) (p : ByteArray) (q : Int) : Option β := (Oi k v).bind fun b1 => cond b1 ((Q3 k w).bind fun b2 => cond b2 ((F105 k p).bind fun b3 => cond b3 ((N5 k q 0 900000).bind fun b4 => RET b4) (RET false)) (RET false)) (RET false)
def I6 := Ig (β := Bool) some
theorem Xk9 {β : Type} (k : Nat) (v : Ae) (w : Ad) (p : ByteArray) (q : Int) (K : KT β) : Af (Xph k) Tryz.f110 (PsT.put Xbp (v, w, p, q, ())) K = (I6 k v w p q).bind fun r => K (F110_2_O.put r) :=
 Eq.trans (b := Ig (fun r => K (F110_2_O.put r)) k v w p q) (by kernel_rfl) (by simp only [I6, Ig, z1, z2, z3, z4, z5, z6, z7, z8])
def Xcf (k : Nat) : FD := ⟨110, Xbp, F110_2_O, I6 k⟩
theorem Xtm (k : Nat) : (Xcf k).Ok Tryz.prog := ⟨fun x => Ab (Aj (Ah (.c (Xl3 k) (.c (Xdw k) (.c (Yw k) (.c (Eb k) .n))))) _ _ _ _) Ag Tryz.func110 rfl rfl (Xk9 k _ _ _ _ some), .of (by kernel_rfl)⟩
def Xol : Nat → Hint
 | 0 => ⟨pl 0 2 (pl 7 1 []), pl 1100 1 (pl 1200 1 (pl 1300 1 []))⟩
 | _ => ⟨[], []⟩
abbrev N0 (k : Nat) : Env := Bd (A0 [Rp k]) Xol .own [(false, 1100), (false, 1200), (false, 1300)] k
abbrev Tu : Type := Int × Bool × Ae × Ad × Int
abbrev Ue : List PA := [.one .str, .fc 112 [.sl .own kep, .sl .ro nam, mI]]
abbrev F106_3_O : RO := ⟨[.v, .v], [mI, mB, .sl .own kep, .sl .ro nam, mI]⟩
noncomputable def Xsf {β : Type} (k : Nat) (v : ByteArray) (wx : Ae) (wy : Ad) (wz : Int) (K : KT β) : Ex → St → Option β := Bx (N0 k) Tryz.f106 (PsT.put Ue (v, (wx, wy, wz, ()), ())) K
def Xje (v : ByteArray) (wx : Ae) (wy : Ad) (wz : Int) (x0_0 : ByteArray) (x7_0 : Int) (m1100_0 : Ae) (m1200_0 : Ad) (m1300_0 : Int) : St := ⟨(.one (.v (.string x0_0))) :: (.one (.fn 112 [((.cell 1100), 1, 0), ((.cell 1200), 1, 0), ((.cell 1300), 1, 0)])) :: dz 5 ((.one (vI x7_0)) :: dz 15 []), [eM 1100 (.s .own kep m1100_0), eM 1200 (.s .ro nam m1200_0), iM 1300 m1300_0]⟩
noncomputable def Jj {β : Type} (k : Nat) (v : ByteArray) (wx : Ae) (wy : Ad) (wz : Int) (K : KT β) (n : Nat) (x0_0 : ByteArray) (x7_0 : Int) (m1100_0 : Ae) (m1200_0 : Ad) (m1300_0 : Int) : Option β := A7 (N0 k) Tryz.f106 [1, 0, 1, 0] 0 (Ap (N0 k) [1, 0, 1, 0] (Ar Tryz.f106) 0 (Xsf k v wx wy wz K)) n (Xje v wx wy wz x0_0 x7_0 m1100_0 m1200_0 m1300_0)
def Fo {β : Type} (NX : ByteArray → Int → Ae → Ad → Int → Option β) (RET : Tu → Option β) (k : Nat) (v : ByteArray) (wx : Ae) (wy : Ad) (wz : Int) (x0_0 : ByteArray) (x7_0 : Int) (m1100_0 : Ae) (m1200_0 : Ad) (m1300_0 : Int) : Option β := cond (decide (x7_0 < 5)) ((Hn k x0_0 m1100_0 m1200_0 m1300_0).bind fun b1 => cond (b1.1.2.1 == 1) (RET (b1.1.2.2.1, (true, b1.2))) (cond (b1.1.2.1 == 0) (RET (0, (false, b1.2))) (NX b1.1.2.2.2.1 (i64.wrap (x7_0 + 1)) b1.2.1 b1.2.2.1 b1.2.2.2))) (RET (0, false, m1100_0, m1200_0, m1300_0))
def Dt (k : Nat) (v : ByteArray) (wx : Ae) (wy : Ad) (wz : Int) : Nat → ByteArray → Int → Ae → Ad → Int → Option (Tu)
 | 0, _, _, _, _, _ => none
 | n + 1, x0_0, x7_0, m1100_0, m1200_0, m1300_0 => Fo (Dt k v wx wy wz n) some k v wx wy wz x0_0 x7_0 m1100_0 m1200_0 m1300_0
theorem Y0 {β : Type} (k : Nat) (v : ByteArray) (wx : Ae) (wy : Ad) (wz : Int) (K : KT β) (n : Nat) : ∀ (x0_0 : ByteArray) (x7_0 : Int) (m1100_0 : Ae) (m1200_0 : Ad) (m1300_0 : Int), Jj k v wx wy wz K n x0_0 x7_0 m1100_0 m1200_0 m1300_0 =
  (Dt k v wx wy wz n x0_0 x7_0 m1100_0 m1200_0 m1300_0).bind fun r => K (F106_3_O.put r) := by
 induction n with
 | zero => intros; rfl
 | succ n ih =>
  intro x0_0 x7_0 m1100_0 m1200_0 m1300_0
  refine Eq.trans (b := Fo (Jj k v wx wy wz K n) (fun r => K (F106_3_O.put r)) k v wx wy wz x0_0 x7_0 m1100_0 m1200_0 m1300_0) (by kernel_rfl) ?_
  rw [Dt]
  simp only [Fo, z1, z2, z3, z4, z5, z6, z7, z8, ih]
def Tl {β : Type} (LP0 : ByteArray → Int → Ae → Ad → Int → Option β) (k : Nat) (v : ByteArray) (wx : Ae) (wy : Ad) (wz : Int) : Option β := LP0 v 0 wx wy wz
def Ru (k : Nat) (v : ByteArray) (wx : Ae) (wy : Ad) (wz : Int) : Option (Tu) := Tl (Dt k v wx wy wz k) k v wx wy wz
theorem Xli {β : Type} (k : Nat) (v : ByteArray) (wx : Ae) (wy : Ad) (wz : Int) (K : KT β) : Af (N0 k) Tryz.f106 (PsT.put Ue (v, (wx, wy, wz, ()), ())) K = (Ru k v wx wy wz).bind fun r => K (F106_3_O.put r) :=
 Eq.trans (b := Tl (Jj k v wx wy wz K k) k v wx wy wz) (by kernel_rfl) (by simp only [Ru, Tl, z1, z2, z3, z4, z5, z6, z7, z8, Y0])
def Xag (k : Nat) : FD := ⟨106, Ue, F106_3_O, Ru k⟩
theorem Xuo (k : Nat) : (Xag k).Ok Tryz.prog := ⟨fun x => Ab (Aj (Ah (.c (Z9 k) .n)) _ _ _ _) Ag Tryz.func106 rfl rfl (Xli k _ _ _ _ some), .of (by kernel_rfl)⟩
abbrev Xvu (k : Nat) : Env := Bd (A0 [Xcf k, Nk k, Xag k]) Am .own [] k
abbrev Xhe : List PA := [.one (.sl .ro kep), .one (.sl .ro nam), .one .str, .one mI]
abbrev F46_2_O : RO := ⟨[.v, .v, .v], [.sl .own kep, mI, mB]⟩
def Nw {β : Type} (RET : (Ae × Int × Bool) → Option β) (k : Nat) (v : Ae) (w : Ad) (p : ByteArray) (q : Int) : Option β := (I6 k v w p q).bind fun b1 => cond (!b1) (RET ([], 0, false)) ((G5 k v).bind fun b2 => (Ru k p b2 w q).bind fun b3 => RET (b3.2.2.1, b3.1, b3.2.1))
def Qo := Nw (β := Ae × Int × Bool) some
theorem Xnl {β : Type} (k : Nat) (v : Ae) (w : Ad) (p : ByteArray) (q : Int) (K : KT β) : Af (Xvu k) Tryz.f46 (PsT.put Xhe (v, w, p, q, ())) K = (Qo k v w p q).bind fun r => K (F46_2_O.put r) :=
 Eq.trans (b := Nw (fun r => K (F46_2_O.put r)) k v w p q) (by kernel_rfl) (by simp only [Qo, Nw, z1, z2, z3, z4, z5, z6, z7, z8])
def Xii (k : Nat) : FD := ⟨46, Xhe, F46_2_O, Qo k⟩
theorem Xyx (k : Nat) : (Xii k).Ok Tryz.prog := ⟨fun x => Ab (Aj (Ah (.c (Xtm k) (.c (Ti k) (.c (Xuo k) .n)))) _ _ _ _) Ag Tryz.func46 rfl rfl (Xnl k _ _ _ _ some), .of (by kernel_rfl)⟩
def X87 : Nat → Hint
 | 0 => ⟨pl 0 1 (pl 5 2 []), pl 8000 1 []⟩
 | _ => ⟨[], []⟩
abbrev Xig (k : Nat) : Env := Bd Bq X87 .own [] k
abbrev Xnv : List PA := [.one mI, .one mI]
abbrev F93_O : RO := ⟨[.v], [.sl .own (.int .u8)]⟩
noncomputable def X9m {β : Type} (k : Nat) (v w : Int) (K : KT β) : Ex → St → Option β := Bx (Xig k) Tryz.f93 (PsT.put Xnv (v, w, ())) K
def X7f (v w : Int) (x0_0 x6_0 : Int) (m8000_0 : Aa) : St := ⟨(.one (vI x0_0)) :: dz 4 ((.one (.a (.cell 8000) 0 0 none)) :: (.one (vI x6_0)) :: dz 16 []), [eM 8000 (.s .own (.int .u8) m8000_0)]⟩
noncomputable def Uh {β : Type} (k : Nat) (v w : Int) (K : KT β) (n : Nat) (x0_0 x6_0 : Int) (m8000_0 : Aa) : Option β := A7 (Xig k) Tryz.f93 [1, 1, 0, 1, 0] 0 (Ap (Xig k) [1, 1, 0, 1, 0] (Ar Tryz.f93) 0 (X9m k v w K)) n (X7f v w x0_0 x6_0 m8000_0)
def Gd {β : Type} (NX : Int → Int → Aa → Option β) (RET : Aa → Option β) (k : Nat) (v w : Int) (x0_0 x6_0 : Int) (m8000_0 : Aa) : Option β := cond (decide (x6_0 ≥ 0)) (Az x6_0 m8000_0 (NX (x0_0.fdiv (2 ^ (8))) (i64.wrap (x6_0 - 1)) (m8000_0.set x6_0.toNat (u8.wrap x0_0)))) (RET m8000_0)
def I0 (k : Nat) (v w : Int) : Nat → Int → Int → Aa → Option (Aa)
 | 0, _, _, _ => none
 | n + 1, x0_0, x6_0, m8000_0 => Gd (I0 k v w n) some k v w x0_0 x6_0 m8000_0
theorem Xlr {β : Type} (k : Nat) (v w : Int) (K : KT β) (n : Nat) : ∀ (x0_0 x6_0 : Int) (m8000_0 : Aa), Uh k v w K n x0_0 x6_0 m8000_0 =
  (I0 k v w n x0_0 x6_0 m8000_0).bind fun r => K (F93_O.put r) := by
 induction n with
 | zero => intros; rfl
 | succ n ih =>
  intro x0_0 x6_0 m8000_0
  refine Eq.trans (b := Gd (Uh k v w K n) (fun r => K (F93_O.put r)) k v w x0_0 x6_0 m8000_0) (by kernel_rfl) ?_
  rw [I0]
  simp only [Gd, z1, z2, z3, z4, z5, z6, z7, z8, ih]
def Xh1 {β : Type} (LP0 : Int → Int → Aa → Option β) (k : Nat) (v w : Int) : Option β := cond (decide (0 ≤ w) && decide (w = w) && decide (w * (1 : Nat) ≤ 140737488355328)) (LP0 v (i64.wrap (w - 1)) (List.replicate w.toNat (Be (.int .u8)))) none
def F93 (k : Nat) (v w : Int) : Option (Aa) := Xh1 (I0 k v w k) k v w
theorem X50 {β : Type} (k : Nat) (v w : Int) (K : KT β) : Af (Xig k) Tryz.f93 (PsT.put Xnv (v, w, ())) K = (F93 k v w).bind fun r => K (F93_O.put r) :=
 Eq.trans (b := Xh1 (Uh k v w K k) k v w) (by kernel_rfl) (by simp only [F93, Xh1, z1, z2, z3, z4, z5, z6, z7, z8, Xlr])
def Xhd (k : Nat) : FD := ⟨93, Xnv, F93_O, F93 k⟩
theorem Xps (k : Nat) : (Xhd k).Ok Tryz.prog := ⟨fun x => Ab (Aj .none _ _ _ _) Ag Tryz.func93 rfl rfl (X50 k _ _ some), .of (by kernel_rfl)⟩
abbrev X84 (k : Nat) : Env := Bd (A0 [D3 k, Xhd k]) Am .own [] k
abbrev Xzz : List PA := [.one mI, .one mI]
abbrev F73_O : RO := ⟨[.v], [.sl .own (.int .u8)]⟩
def Xin {β : Type} (RET : Aa → Option β) (k : Nat) (v w : Int) : Option β := (N5 k w 1 4).bind fun b1 => cond (!b1) (RET []) (cond (decide ((i64.wrap (8 * w)) < 0)) none ((N5 k v 0 (i64.wrap ((i64.wrap (1 * 2 ^ (min (i64.wrap (8 * w)).toNat 64))) - 1))).bind fun b2 => cond (!b2) (RET []) ((F93 k v w).bind fun b3 => RET b3)))
def F73 := Xin (β := Aa) some
theorem X7b {β : Type} (k : Nat) (v w : Int) (K : KT β) : Af (X84 k) Tryz.f73 (PsT.put Xzz (v, w, ())) K = (F73 k v w).bind fun r => K (F73_O.put r) :=
 Eq.trans (b := Xin (fun r => K (F73_O.put r)) k v w) (by kernel_rfl) (by simp only [F73, Xin, z1, z2, z3, z4, z5, z6, z7, z8])
def X0e (k : Nat) : FD := ⟨73, Xzz, F73_O, F73 k⟩
theorem X9i (k : Nat) : (X0e k).Ok Tryz.prog := ⟨fun x => Ab (Aj (Ah (.c (Eb k) (.c (Xps k) .n))) _ _ _ _) Ag Tryz.func73 rfl rfl (X7b k _ _ some), .of (by kernel_rfl)⟩
end
end Go.Proofs.YtdmepjjepogddaaGreat.Gn
end

section
set_option linter.unusedVariables false
set_option linter.unusedSimpArgs false
namespace Go.Proofs.YtdmepjjepogddaaGreat.Gn
open Go.Rf IntKind
noncomputable section
abbrev X5u (k : Nat) : Env := Bd (A0 [D3 k, M7 k]) Am .own [] k
abbrev Xo5 : List PA := [.agg m_3]
abbrev F226_O : RO := ⟨[.v], [mB]⟩
def W0 {β : Type} (RET : Bool → Option β) (k : Nat) (v : (den Ci)) : Option β := Dg v fun v0 v1 v2 v3 => (N5 k v1 0 16).bind fun b1 => cond b1 ((F65 k v0).bind fun b2 => cond b2 (cond (decide ((i64.wrap (16 - v1)) < 0)) none (cond (decide ((i64.wrap (1 * 2 ^ (min (i64.wrap (16 - v1)).toNat 64))) = 0)) none (cond ((v0.tmod (i64.wrap (1 * 2 ^ (min (i64.wrap (16 - v1)).toNat 64)))) == 0) ((F65 k v2).bind fun b3 => cond b3 ((N5 k v3 1 48).bind fun b4 => RET b4) (RET false)) (RET false)))) (RET false)) (RET false)
def Xke := W0 (β := Bool) some
theorem Xy5 {β : Type} (k : Nat) (v : (den Ci)) (K : KT β) : Af (X5u k) Tryz.f226 (PsT.put Xo5 (v, ())) K = (Xke k v).bind fun r => K (F226_O.put r) :=
 Eq.trans (b := W0 (fun r => K (F226_O.put r)) k v) (by kernel_rfl) (by simp only [Xke, W0, z1, z2, z3, z4, z5, z6, z7, z8, Dg])
def Xsp (k : Nat) : FD := ⟨226, Xo5, F226_O, Xke k⟩
theorem X6q (k : Nat) : (Xsp k).Ok Tryz.prog := ⟨fun x => Ab (Aj (Ah (.c (Eb k) (.c (Qx k) .n))) _ _ _ _) Ag Tryz.func226 rfl rfl (Xy5 k _ some), .of (by kernel_rfl)⟩
abbrev X10 (k : Nat) : Env := Bd Bq Am .own [] k
abbrev Xoz : List PA := [.one mI]
abbrev F228_O : RO := ⟨[.v], [mB]⟩
def Xji (k : Nat) (v : Int) : Option (Bool) := some (v != v)
theorem Xvr {β : Type} (k : Nat) (v : Int) (K : KT β) : Af (X10 k) Tryz.f228 (PsT.put Xoz (v, ())) K = (Xji k v).bind fun r => K (F228_O.put r) :=
 Eq.trans (b := K (F228_O.put (v != v))) (by kernel_rfl) (by simp only [Xji, z1, z2, z3, z4, z5, z6, z7, z8])
def Xml (k : Nat) : FD := ⟨228, Xoz, F228_O, Xji k⟩
theorem X5p (k : Nat) : (Xml k).Ok Tryz.prog := ⟨fun x => Ab (Aj .none _ _ _ _) Ag Tryz.func228 rfl rfl (Xvr k _ some), .of (by kernel_rfl)⟩
abbrev X1j (k : Nat) : Env := Bd (A0 [Xml k]) Am .own [] k
abbrev Xs7 : List PA := [.one mI, .one mI]
abbrev F162_O : RO := ⟨[.v], [mI]⟩
def Wp {β : Type} (RET : Int → Option β) (k : Nat) (v w : Int) : Option β := (Xji k v).bind fun b1 => (Xji k w).bind fun b2 => cond b1 (cond b2 (RET 0) (RET (-1))) (cond b2 (RET 1) (cond (decide (v < w)) (RET (-1)) (cond (decide (v > w)) (RET 1) (RET 0))))
def Xe0 := Wp (β := Int) some
theorem Xuv {β : Type} (k : Nat) (v w : Int) (K : KT β) : Af (X1j k) Tryz.f162 (PsT.put Xs7 (v, w, ())) K = (Xe0 k v w).bind fun r => K (F162_O.put r) :=
 Eq.trans (b := Wp (fun r => K (F162_O.put r)) k v w) (by kernel_rfl) (by simp only [Xe0, Wp, z1, z2, z3, z4, z5, z6, z7, z8])
def Xm5 (k : Nat) : FD := ⟨162, Xs7, F162_O, Xe0 k⟩
theorem X2i (k : Nat) : (Xm5 k).Ok Tryz.prog := ⟨fun x => Ab (Aj (Ah (.c (X5p k) .n)) _ _ _ _) Ag Tryz.func162 rfl rfl (Xuv k _ _ some), .of (by kernel_rfl)⟩
def X7m : Nat → Hint
 | 0 => ⟨pl 3 1 (pl 6 3 []), []⟩
 | _ => ⟨[], []⟩
abbrev Yv (k : Nat) : Env := Bd Bq X7m .own [] k
abbrev Xev : List PA := [.one (.sl .ro (.int .i64))]
abbrev F280_O : RO := ⟨[.v], [mI]⟩
noncomputable def X3v {β : Type} (k : Nat) (v : Bv) (K : KT β) : Ex → St → Option β := Bx (Yv k) Tryz.f280 (PsT.put Xev (v, ())) K
def Xwo (v : Bv) (x8_0 : Int) : St := ⟨dz 3 ((.one (vI 0)) :: (.one .d) :: (.one .d) :: (.one (.s .ro (.int .i64) v)) :: (.one (vI (v.length : Int))) :: (.one (vI x8_0)) :: dz 9 []), []⟩
noncomputable def P6 {β : Type} (k : Nat) (v : Bv) (K : KT β) (n : Nat) (x8_0 : Int) : Option β := A7 (Yv k) Tryz.f280 [1, 1, 0, 1, 0] 0 (Ap (Yv k) [1, 1, 0, 1, 0] (Ar Tryz.f280) 0 (X3v k v K)) n (Xwo v x8_0)
def Ev {β : Type} (NX : Int → Option β) (RET : Int → Option β) (k : Nat) (v : Bv) (x8_0 : Int) : Option β := cond (decide (x8_0 < (v.length : Int))) (Az x8_0 v (cond ((Aw v x8_0) != 0) (RET (Aw v x8_0)) (NX (i64.wrap (x8_0 + 1))))) (RET 0)
def Fv (k : Nat) (v : Bv) : Nat → Int → Option (Int)
 | 0, _ => none
 | n + 1, x8_0 => Ev (Fv k v n) some k v x8_0
theorem Xeg {β : Type} (k : Nat) (v : Bv) (K : KT β) (n : Nat) : ∀ (x8_0 : Int), P6 k v K n x8_0 =
  (Fv k v n x8_0).bind fun r => K (F280_O.put r) := by
 induction n with
 | zero => intros; rfl
 | succ n ih =>
  intro x8_0
  refine Eq.trans (b := Ev (P6 k v K n) (fun r => K (F280_O.put r)) k v x8_0) (by kernel_rfl) ?_
  rw [Fv]
  simp only [Ev, z1, z2, z3, z4, z5, z6, z7, z8, ih]
def Xfd {β : Type} (LP0 : Int → Option β) (k : Nat) (v : Bv) : Option β := LP0 0
def Xp0 (k : Nat) (v : Bv) : Option (Int) := Xfd (Fv k v k) k v
theorem Xzg {β : Type} (k : Nat) (v : Bv) (K : KT β) : Af (Yv k) Tryz.f280 (PsT.put Xev (v, ())) K = (Xp0 k v).bind fun r => K (F280_O.put r) :=
 Eq.trans (b := Xfd (P6 k v K k) k v) (by kernel_rfl) (by simp only [Xp0, Xfd, z1, z2, z3, z4, z5, z6, z7, z8, Xeg])
def Xlt (k : Nat) : FD := ⟨280, Xev, F280_O, Xp0 k⟩
theorem X2w (k : Nat) : (Xlt k).Ok Tryz.prog := ⟨fun x => Ab (Aj .none _ _ _ _) Ag Tryz.func280 rfl rfl (Xzg k _ some), .of (by kernel_rfl)⟩
abbrev X6g (k : Nat) : Env := Bd (A0 [Xm5 k, Xlt k]) Am .own [] k
abbrev Xnp : List PA := [.agg m_3, .agg m_3]
abbrev F227_O : RO := ⟨[.v], [mI]⟩
def Zu {β : Type} (RET : Int → Option β) (k : Nat) (v w : (den Ci)) : Option β := (Xe0 k v.2.1 w.2.1).bind fun b1 => (Xe0 k v.1 w.1).bind fun b2 => (Xp0 k [b1, b2]).bind fun b3 => RET b3
def Xju := Zu (β := Int) some
theorem Xyo {β : Type} (k : Nat) (v w : (den Ci)) (K : KT β) : Af (X6g k) Tryz.f227 (PsT.put Xnp (v, w, ())) K = (Xju k v w).bind fun r => K (F227_O.put r) :=
 Eq.trans (b := Zu (fun r => K (F227_O.put r)) k v w) (by kernel_rfl) (by simp only [Xju, Zu, z1, z2, z3, z4, z5, z6, z7, z8, Dg])
def Xoj (k : Nat) : FD := ⟨227, Xnp, F227_O, Xju k⟩
theorem X3m (k : Nat) : (Xoj k).Ok Tryz.prog := ⟨fun x => Ab (Aj (Ah (.c (X2i k) (.c (X2w k) .n))) _ _ _ _) Ag Tryz.func227 rfl rfl (Xyo k _ _ some), .of (by kernel_rfl)⟩
def X2f : Nat → Hint
 | 0 => ⟨pl 0 1 (pl 5 3 []), []⟩
 | _ => ⟨[], []⟩
abbrev Zd (k : Nat) : Env := Bd (A0 [Xsp k, Xoj k]) X2f .own [] k
abbrev Xd5 : List PA := [.one (.sl .ro Ci)]
abbrev F158_O : RO := ⟨[.v], [mB]⟩
noncomputable def X4o {β : Type} (k : Nat) (v : A3) (K : KT β) : Ex → St → Option β := Bx (Zd k) Tryz.f158 (PsT.put Xd5 (v, ())) K
def Xwx (v : A3) (x7_0 : Int) : St := ⟨(.one (.s .ro Ci v)) :: dz 4 ((.one (.s .ro Ci v)) :: (.one (vI (v.length : Int))) :: (.one (vI x7_0)) :: dz 25 []), []⟩
noncomputable def P3 {β : Type} (k : Nat) (v : A3) (K : KT β) (n : Nat) (x7_0 : Int) : Option β := A7 (Zd k) Tryz.f158 [1, 0, 1, 0] 0 (Ap (Zd k) [1, 0, 1, 0] (Ar Tryz.f158) 0 (X4o k v K)) n (Xwx v x7_0)
def Jp {β : Type} (NX : Int → Option β) (RET : Bool → Option β) (k : Nat) (v : A3) (x7_0 : Int) : Option β := cond (decide (x7_0 < (v.length : Int))) (Az x7_0 v ((Xke k (Aw v x7_0)).bind fun b1 => cond (!b1) (RET false) (cond (decide (x7_0 > 0)) (Az (i64.wrap (x7_0 - 1)) v ((Xju k (Aw v (i64.wrap (x7_0 - 1))) (Aw v x7_0)).bind fun b2 => cond (decide (b2 ≥ 0)) (RET false) (NX (i64.wrap (x7_0 + 1))))) (NX (i64.wrap (x7_0 + 1)))))) (RET (decide ((v.length : Int) ≤ 8)))
def Kx (k : Nat) (v : A3) : Nat → Int → Option (Bool)
 | 0, _ => none
 | n + 1, x7_0 => Jp (Kx k v n) some k v x7_0
theorem Xgq {β : Type} (k : Nat) (v : A3) (K : KT β) (n : Nat) : ∀ (x7_0 : Int), P3 k v K n x7_0 =
  (Kx k v n x7_0).bind fun r => K (F158_O.put r) := by
 induction n with
 | zero => intros; rfl
 | succ n ih =>
  intro x7_0
  refine Eq.trans (b := Jp (P3 k v K n) (fun r => K (F158_O.put r)) k v x7_0) (by kernel_rfl) ?_
  rw [Kx]
  simp only [Jp, z1, z2, z3, z4, z5, z6, z7, z8, ih]
def Xfk {β : Type} (LP0 : Int → Option β) (k : Nat) (v : A3) : Option β := LP0 0
def Xka (k : Nat) (v : A3) : Option (Bool) := Xfk (Kx k v k) k v
theorem Xzi {β : Type} (k : Nat) (v : A3) (K : KT β) : Af (Zd k) Tryz.f158 (PsT.put Xd5 (v, ())) K = (Xka k v).bind fun r => K (F158_O.put r) :=
 Eq.trans (b := Xfk (P3 k v K k) k v) (by kernel_rfl) (by simp only [Xka, Xfk, z1, z2, z3, z4, z5, z6, z7, z8, Xgq])
def Xrc (k : Nat) : FD := ⟨158, Xd5, F158_O, Xka k⟩
theorem X56 (k : Nat) : (Xrc k).Ok Tryz.prog := ⟨fun x => Ab (Aj (Ah (.c (X6q k) (.c (X3m k) .n))) _ _ _ _) Ag Tryz.func158 rfl rfl (Xzi k _ some), .of (by kernel_rfl)⟩
abbrev Yaf (k : Nat) : Env := Bd (A0 [M7 k, Xrc k]) Am .own [] k
abbrev X0d : List PA := [.agg (.pair mI (.sl .ro Ci))]
abbrev F88_O : RO := ⟨[.v], [mB]⟩
def F88 (k : Nat) (v : (den sta)) : Option (Bool) := (F65 k v.1).bind fun b1 => cond b1 ((Xka k v.2).bind fun b2 => some b2) (some false)
theorem X67 {β : Type} (k : Nat) (v : (den sta)) (K : KT β) : Af (Yaf k) Tryz.f88 (PsT.put X0d (v, ())) K = (F88 k v).bind fun r => K (F88_O.put r) :=
 Eq.trans (b := (F65 k v.1).bind fun b1 => cond b1 ((Xka k v.2).bind fun b2 => K (F88_O.put b2)) (K (F88_O.put false))) (by kernel_rfl) (by simp only [F88, z1, z2, z3, z4, z5, z6, z7, z8])
def X0z (k : Nat) : FD := ⟨88, X0d, F88_O, F88 k⟩
theorem X8h (k : Nat) : (X0z k).Ok Tryz.prog := ⟨fun x => Ab (Aj (Ah (.c (Qx k) (.c (X56 k) .n))) _ _ _ _) Ag Tryz.func88 rfl rfl (X67 k _ some), .of (by kernel_rfl)⟩
abbrev X36 (k : Nat) : Env := Bd Bq Am .own [(false, 1000)] k
abbrev Xpv : List PA := [.agg (.pair mI (.sl .ro Ci)), .p mI]
abbrev F148_O : RO := ⟨[.v], [mB, mI]⟩
def Xrz (k : Nat) (v : (den sta)) (w : Int) : Option (Bool × Int) := some ((v.1 == w), w)
theorem Xu6 {β : Type} (k : Nat) (v : (den sta)) (w : Int) (K : KT β) : Af (X36 k) Tryz.f148 (PsT.put Xpv (v, w, ())) K = (Xrz k v w).bind fun r => K (F148_O.put r) :=
 Eq.trans (b := K (F148_O.put ((v.1 == w), w))) (by kernel_rfl) (by simp only [Xrz, z1, z2, z3, z4, z5, z6, z7, z8])
def Xn2 (k : Nat) : FD := ⟨148, Xpv, F148_O, Xrz k⟩
theorem X11 (k : Nat) : (Xn2 k).Ok Tryz.prog := ⟨fun x => Ab (Aj .none _ _ _ _) Ag Tryz.func148 rfl rfl (Xu6 k _ _ some), .of (by kernel_rfl)⟩
def X2m : Nat → Hint
 | 0 => ⟨pl 0 2 (pl 7 2 []), pl 1100 1 []⟩
 | _ => ⟨[], []⟩
abbrev Y8 (k : Nat) : Env := Bd (A0 [Xn2 k]) X2m .own [(false, 1100)] k
abbrev Xe6 : List PA := [.one (.sl .ro sta), .fc 148 [mI]]
abbrev F147_O : RO := ⟨[.v], [mI, mI]⟩
noncomputable def X5y {β : Type} (k : Nat) (v : Aq) (wx : Int) (K : KT β) : Ex → St → Option β := Bx (Y8 k) Tryz.f147 (PsT.put Xe6 (v, (wx, ()), ())) K
def Xx3 (v : Aq) (wx : Int) (x8_0 m1100_0 : Int) : St := ⟨(.one (.s .ro sta v)) :: (.one (.fn 148 [((.cell 1100), 1, 0)])) :: dz 5 ((.one (vI (v.length : Int))) :: (.one (vI x8_0)) :: dz 10 []), [iM 1100 m1100_0]⟩
noncomputable def P7 {β : Type} (k : Nat) (v : Aq) (wx : Int) (K : KT β) (n : Nat) (x8_0 m1100_0 : Int) : Option β := A7 (Y8 k) Tryz.f147 [1, 0, 1, 0] 0 (Ap (Y8 k) [1, 0, 1, 0] (Ar Tryz.f147) 0 (X5y k v wx K)) n (Xx3 v wx x8_0 m1100_0)
def K3 {β : Type} (NX : Int → Int → Option β) (RET : (Int × Int) → Option β) (k : Nat) (v : Aq) (wx : Int) (x8_0 m1100_0 : Int) : Option β := cond (decide (x8_0 < (v.length : Int))) (Az x8_0 v ((Xrz k (Aw v x8_0) m1100_0).bind fun b1 => cond b1.1 (RET (x8_0, b1.2)) (NX (i64.wrap (x8_0 + 1)) b1.2))) (RET ((-1), m1100_0))
def Ko (k : Nat) (v : Aq) (wx : Int) : Nat → Int → Int → Option (Int × Int)
 | 0, _, _ => none
 | n + 1, x8_0, m1100_0 => K3 (Ko k v wx n) some k v wx x8_0 m1100_0
theorem Xe8 {β : Type} (k : Nat) (v : Aq) (wx : Int) (K : KT β) (n : Nat) : ∀ (x8_0 m1100_0 : Int), P7 k v wx K n x8_0 m1100_0 =
  (Ko k v wx n x8_0 m1100_0).bind fun r => K (F147_O.put r) := by
 induction n with
 | zero => intros; rfl
 | succ n ih =>
  intro x8_0 m1100_0
  refine Eq.trans (b := K3 (P7 k v wx K n) (fun r => K (F147_O.put r)) k v wx x8_0 m1100_0) (by kernel_rfl) ?_
  rw [Ko]
  simp only [K3, z1, z2, z3, z4, z5, z6, z7, z8, ih]
def Xc5 {β : Type} (LP0 : Int → Int → Option β) (k : Nat) (v : Aq) (wx : Int) : Option β := LP0 0 wx
def Xod (k : Nat) (v : Aq) (wx : Int) : Option (Int × Int) := Xc5 (Ko k v wx k) k v wx
theorem Xvi {β : Type} (k : Nat) (v : Aq) (wx : Int) (K : KT β) : Af (Y8 k) Tryz.f147 (PsT.put Xe6 (v, (wx, ()), ())) K = (Xod k v wx).bind fun r => K (F147_O.put r) :=
 Eq.trans (b := Xc5 (P7 k v wx K k) k v wx) (by kernel_rfl) (by simp only [Xod, Xc5, z1, z2, z3, z4, z5, z6, z7, z8, Xe8])
def Xni (k : Nat) : FD := ⟨147, Xe6, F147_O, Xod k⟩
theorem X2z (k : Nat) : (Xni k).Ok Tryz.prog := ⟨fun x => Ab (Aj (Ah (.c (X11 k) .n)) _ _ _ _) Ag Tryz.func147 rfl rfl (Xvi k _ _ some), .of (by kernel_rfl)⟩
abbrev X99 (k : Nat) : Env := Bd (A0 [Xni k]) Am .own [] k
abbrev Xzp : List PA := [.one (.sl .ro sta), .one mI]
abbrev F75_O : RO := ⟨[.v], [mI]⟩
def F75 (k : Nat) (v : Aq) (w : Int) : Option (Int) := (Xod k v w).bind fun b1 => some b1.1
theorem X5i {β : Type} (k : Nat) (v : Aq) (w : Int) (K : KT β) : Af (X99 k) Tryz.f75 (PsT.put Xzp (v, w, ())) K = (F75 k v w).bind fun r => K (F75_O.put r) :=
 Eq.trans (b := (Xod k v w).bind fun b1 => K (F75_O.put b1.1)) (by kernel_rfl) (by simp only [F75, z1, z2, z3, z4, z5, z6, z7, z8])
def Xi3 (k : Nat) : FD := ⟨75, Xzp, F75_O, F75 k⟩
theorem Xse (k : Nat) : (Xi3 k).Ok Tryz.prog := ⟨fun x => Ab (Aj (Ah (.c (X2z k) .n)) _ _ _ _) Ag Tryz.func75 rfl rfl (X5i k _ _ some), .of (by kernel_rfl)⟩
def Yab : Nat → Hint
 | 0 => ⟨pl 0 1 (pl 5 3 []), []⟩
 | _ => ⟨[], []⟩
abbrev Xhc (k : Nat) : Env := Bd (A0 [X0z k, Xi3 k]) Yab .own [] k
abbrev Xrm : List PA := [.one (.sl .ro sta)]
abbrev F31_O : RO := ⟨[.v], [mB]⟩
noncomputable def X9p {β : Type} (k : Nat) (v : Aq) (K : KT β) : Ex → St → Option β := Bx (Xhc k) Tryz.f31 (PsT.put Xrm (v, ())) K
def X3l (v : Aq) (x7_0 : Int) : St := ⟨(.one (.s .ro sta v)) :: dz 4 ((.one (.s .ro sta v)) :: (.one (vI (v.length : Int))) :: (.one (vI x7_0)) :: dz 19 []), []⟩
noncomputable def Su {β : Type} (k : Nat) (v : Aq) (K : KT β) (n : Nat) (x7_0 : Int) : Option β := A7 (Xhc k) Tryz.f31 [1, 0, 1, 0] 0 (Ap (Xhc k) [1, 0, 1, 0] (Ar Tryz.f31) 0 (X9p k v K)) n (X3l v x7_0)
def Mn {β : Type} (NX : Int → Option β) (RET : Bool → Option β) (k : Nat) (v : Aq) (x7_0 : Int) : Option β := cond (decide (x7_0 < (v.length : Int))) (Az x7_0 v ((F88 k (Aw v x7_0)).bind fun b1 => cond (!b1) (RET false) ((F75 k v (Aw v x7_0).1).bind fun b2 => cond (decide (b2 < x7_0)) (RET false) (NX (i64.wrap (x7_0 + 1)))))) (RET (decide ((v.length : Int) ≤ 5)))
def Pu (k : Nat) (v : Aq) : Nat → Int → Option (Bool)
 | 0, _ => none
 | n + 1, x7_0 => Mn (Pu k v n) some k v x7_0
theorem Xln {β : Type} (k : Nat) (v : Aq) (K : KT β) (n : Nat) : ∀ (x7_0 : Int), Su k v K n x7_0 =
  (Pu k v n x7_0).bind fun r => K (F31_O.put r) := by
 induction n with
 | zero => intros; rfl
 | succ n ih =>
  intro x7_0
  refine Eq.trans (b := Mn (Su k v K n) (fun r => K (F31_O.put r)) k v x7_0) (by kernel_rfl) ?_
  rw [Pu]
  simp only [Mn, z1, z2, z3, z4, z5, z6, z7, z8, ih]
def Xq5 {β : Type} (LP0 : Int → Option β) (k : Nat) (v : Aq) : Option β := LP0 0
def F31 (k : Nat) (v : Aq) : Option (Bool) := Xq5 (Pu k v k) k v
theorem X26 {β : Type} (k : Nat) (v : Aq) (K : KT β) : Af (Xhc k) Tryz.f31 (PsT.put Xrm (v, ())) K = (F31 k v).bind fun r => K (F31_O.put r) :=
 Eq.trans (b := Xq5 (Su k v K k) k v) (by kernel_rfl) (by simp only [F31, Xq5, z1, z2, z3, z4, z5, z6, z7, z8, Xln])
def Xpl (k : Nat) : FD := ⟨31, Xrm, F31_O, F31 k⟩
theorem X0x (k : Nat) : (Xpl k).Ok Tryz.prog := ⟨fun x => Ab (Aj (Ah (.c (X8h k) (.c (Xse k) .n))) _ _ _ _) Ag Tryz.func31 rfl rfl (X26 k _ some), .of (by kernel_rfl)⟩
abbrev X5d (k : Nat) : Env := Bd Bq Am .own [] k
abbrev Xoi : List PA := [.one (.sl .own (.int .u8))]
abbrev F197_O : RO := ⟨[.v], [.sl .own (.int .u8)]⟩
def Zw {β : Type} (RET : Aa → Option β) (k : Nat) (v : Aa) : Option β := cond (decide (0 ≤ (v.length : Int)) && decide ((v.length : Int) ≤ (v.length : Int))) (cond (decide ((v.length : Int) = (v.length : Int))) (RET ((v.take ((v.length : Int).toNat)).drop 0)) none) none
def Xjo := Zw (β := Aa) some
theorem Xyq {β : Type} (k : Nat) (v : Aa) (K : KT β) : Af (X5d k) Tryz.f197 (PsT.put Xoi (v, ())) K = (Xjo k v).bind fun r => K (F197_O.put r) :=
 Eq.trans (b := Zw (fun r => K (F197_O.put r)) k v) (by kernel_rfl) (by simp only [Xjo, Zw, z1, z2, z3, z4, z5, z6, z7, z8])
def Xte (k : Nat) : FD := ⟨197, Xoi, F197_O, Xjo k⟩
theorem X8a (k : Nat) : (Xte k).Ok Tryz.prog := ⟨fun x => Ab (Aj .none _ _ _ _) Ag Tryz.func197 rfl rfl (Xyq k _ some), .of (by kernel_rfl)⟩
abbrev X79 (k : Nat) : Env := Bd (A0 [Xte k]) Am .own [] k
abbrev Xql : List PA := [.one (.sl .ro (.int .u8))]
abbrev F121_O : RO := ⟨[.v], [.sl .own (.int .u8)]⟩
def Xt {β : Type} (RET : Aa → Option β) (k : Nat) (v : Aa) : Option β := cond ((v.length : Int) == 0) (RET []) (Bi (([] : Aa).length) (v.length) 1 ((Xjo k ([] ++ v)).bind fun b1 => RET b1))
def Uf := Xt (β := Aa) some
theorem Xyh {β : Type} (k : Nat) (v : Aa) (K : KT β) : Af (X79 k) Tryz.f121 (PsT.put Xql (v, ())) K = (Uf k v).bind fun r => K (F121_O.put r) :=
 Eq.trans (b := Xt (fun r => K (F121_O.put r)) k v) (by kernel_rfl) (by simp only [Uf, Xt, z1, z2, z3, z4, z5, z6, z7, z8])
def Sf (k : Nat) : FD := ⟨121, Xql, F121_O, Uf k⟩
theorem Zl (k : Nat) : (Sf k).Ok Tryz.prog := ⟨fun x => Ab (Aj (Ah (.c (X8a k) .n)) _ _ _ _) Ag Tryz.func121 rfl rfl (Xyh k _ some), .of (by kernel_rfl)⟩
abbrev X6h (k : Nat) : Env := Bd (A0 [Sf k]) Am .own [] k
abbrev Xsr : List PA := [.agg (.pair mI Ka)]
abbrev F214_O : RO := ⟨[.a], [.pair mI Xfv]⟩
def Qy (k : Nat) (v : (den Ak)) : Option ((den Ak)) := A5 v fun v0 v1 v2 v3 v4 v5 v6 v7 v8 => (Uf k v8).bind fun b1 => some (v0, v1, v2, v3, v4, v5, v6, v7, b1)
theorem Xxf {β : Type} (k : Nat) (v : (den Ak)) (K : KT β) : Af (X6h k) Tryz.f214 (PsT.put Xsr (v, ())) K = (Qy k v).bind fun r => K (F214_O.put r) :=
 Eq.trans (b := (Uf k v.2.2.2.2.2.2.2.2).bind fun b1 => K (F214_O.put (v.1, v.2.1, v.2.2.1, v.2.2.2.1, v.2.2.2.2.1, v.2.2.2.2.2.1, v.2.2.2.2.2.2.1, v.2.2.2.2.2.2.2.1, b1))) (by kernel_rfl) (by simp only [Qy, z1, z2, z3, z4, z5, z6, z7, z8, A5])
def Pd (k : Nat) : FD := ⟨214, Xsr, F214_O, Qy k⟩
theorem Rw (k : Nat) : (Pd k).Ok Tryz.prog := ⟨fun x => Ab (Aj (Ah (.c (Zl k) .n)) _ _ _ _) Ag Tryz.func214 rfl rfl (Xxf k _ some), .of (by kernel_rfl)⟩
abbrev Yag (k : Nat) : Env := Bd (A0 [M7 k, D3 k]) Am .own [] k
abbrev Xzu : List PA := [.agg (.pair mI Ka)]
abbrev F89_O : RO := ⟨[.v], [mB]⟩
def Xis {β : Type} (RET : Bool → Option β) (k : Nat) (v : (den Ak)) : Option β := A5 v fun v0 v1 v2 v3 v4 v5 v6 v7 v8 => (F65 k v0).bind fun b1 => cond b1 ((F65 k v1).bind fun b2 => cond b2 ((N5 k v2 0 255).bind fun b3 => cond b3 ((N5 k v3 0 255).bind fun b4 => cond b4 ((N5 k v4 0 255).bind fun b5 => cond b5 ((N5 k v5 0 255).bind fun b6 => cond b6 (cond (decide ((v8.length : Int) ≤ 48)) (cond (!v6) (cond (!v7) (RET true) (cond (v5 == 0) (RET (!v6)) (RET false))) (cond (decide ((v8.length : Int) > 0)) (cond (!v7) (RET true) (cond (v5 == 0) (RET (!v6)) (RET false))) (RET false))) (RET false)) (RET false)) (RET false)) (RET false)) (RET false)) (RET false)) (RET false)
def F89 := Xis (β := Bool) some
theorem X61 {β : Type} (k : Nat) (v : (den Ak)) (K : KT β) : Af (Yag k) Tryz.f89 (PsT.put Xzu (v, ())) K = (F89 k v).bind fun r => K (F89_O.put r) :=
 Eq.trans (b := Xis (fun r => K (F89_O.put r)) k v) (by kernel_rfl) (by simp only [F89, Xis, z1, z2, z3, z4, z5, z6, z7, z8, A5])
def Xil (k : Nat) : FD := ⟨89, Xzu, F89_O, F89 k⟩
theorem Xls (k : Nat) : (Xil k).Ok Tryz.prog := ⟨fun x => Ab (Aj (Ah (.c (Qx k) (.c (Eb k) .n))) _ _ _ _) Ag Tryz.func89 rfl rfl (X61 k _ some), .of (by kernel_rfl)⟩
def X4y : Nat → Hint
 | 0 => ⟨pl 7 1 (pl 30 3 []), []⟩
 | _ => ⟨[], []⟩
abbrev Zg (k : Nat) : Env := Bd (A0 [D3 k]) X4y .own [] k
abbrev Xfr : List PA := [.one (.sl .ro (.int .u8)), .one mI, .one mI]
abbrev F201_O : RO := ⟨[.v], [mI]⟩
noncomputable def X71 {β : Type} (k : Nat) (v : Aa) (w p : Int) (K : KT β) : Ex → St → Option β := Bx (Zg k) Tryz.f201 (PsT.put Xfr (v, w, p, ())) K
def Xx5 (v : Aa) (w p : Int) (x7_0 x32_0 : Int) : St := ⟨dz 7 ((.one (vI x7_0)) :: dz 22 ((.one (.s .ro (.int .u8) ((v.take ((i64.wrap (w + p)).toNat)).drop w.toNat))) :: (.one (vI (((v.take ((i64.wrap (w + p)).toNat)).drop w.toNat).length : Int))) :: (.one (vI x32_0)) :: dz 10 [])), []⟩
noncomputable def P2 {β : Type} (k : Nat) (v : Aa) (w p : Int) (K : KT β) (n : Nat) (x7_0 x32_0 : Int) : Option β := A7 (Zg k) Tryz.f201 [1, 1, 1, 0, 1, 0] 0 (Ap (Zg k) [1, 1, 1, 0, 1, 0] (Ar Tryz.f201) 0 (X71 k v w p K)) n (Xx5 v w p x7_0 x32_0)
def Eu {β : Type} (NX : Int → Int → Option β) (RET : Int → Option β) (k : Nat) (v : Aa) (w p : Int) (x7_0 x32_0 : Int) : Option β := cond (decide (x32_0 < (((v.take ((i64.wrap (w + p)).toNat)).drop w.toNat).length : Int))) (Az x32_0 ((v.take ((i64.wrap (w + p)).toNat)).drop w.toNat) (NX (Cf .or .i64 (i64.wrap (x7_0 * 2 ^ (8))) (i64.wrap (Aw ((v.take ((i64.wrap (w + p)).toNat)).drop w.toNat) x32_0))) (i64.wrap (x32_0 + 1)))) (RET x7_0)
def Fh (k : Nat) (v : Aa) (w p : Int) : Nat → Int → Int → Option (Int)
 | 0, _, _ => none
 | n + 1, x7_0, x32_0 => Eu (Fh k v w p n) some k v w p x7_0 x32_0
theorem Xeh {β : Type} (k : Nat) (v : Aa) (w p : Int) (K : KT β) (n : Nat) : ∀ (x7_0 x32_0 : Int), P2 k v w p K n x7_0 x32_0 =
  (Fh k v w p n x7_0 x32_0).bind fun r => K (F201_O.put r) := by
 induction n with
 | zero => intros; rfl
 | succ n ih =>
  intro x7_0 x32_0
  refine Eq.trans (b := Eu (P2 k v w p K n) (fun r => K (F201_O.put r)) k v w p x7_0 x32_0) (by kernel_rfl) ?_
  rw [Fh]
  simp only [Eu, z1, z2, z3, z4, z5, z6, z7, z8, ih]
def Yo {β : Type} (LP0 : Int → Int → Option β) (RET : Int → Option β) (k : Nat) (v : Aa) (w p : Int) : Option β := (N5 k p 1 4).bind fun b1 => cond (!b1) (RET (-1)) (cond (decide (w < 0)) (RET (-1)) (cond (decide (w > (i64.wrap ((v.length : Int) - p)))) (RET (-1)) (cond (decide (0 ≤ (i64.wrap (w + p))) && decide ((i64.wrap (w + p)) ≤ (v.length : Int))) (cond (decide (0 ≤ w) && decide (w ≤ (i64.wrap (w + p)))) (LP0 0 0) none) none)))
def Xkb (k : Nat) (v : Aa) (w p : Int) : Option (Int) := Yo (Fh k v w p k) some k v w p
theorem Xwu {β : Type} (k : Nat) (v : Aa) (w p : Int) (K : KT β) : Af (Zg k) Tryz.f201 (PsT.put Xfr (v, w, p, ())) K = (Xkb k v w p).bind fun r => K (F201_O.put r) :=
 Eq.trans (b := Yo (P2 k v w p K k) (fun r => K (F201_O.put r)) k v w p) (by kernel_rfl) (by simp only [Xkb, Yo, z1, z2, z3, z4, z5, z6, z7, z8, Xeh])
def Xrk (k : Nat) : FD := ⟨201, Xfr, F201_O, Xkb k⟩
theorem X7t (k : Nat) : (Xrk k).Ok Tryz.prog := ⟨fun x => Ab (Aj (Ah (.c (Eb k) .n)) _ _ _ _) Ag Tryz.func201 rfl rfl (Xwu k _ _ _ some), .of (by kernel_rfl)⟩
abbrev X1o (k : Nat) : Env := Bd (A0 [D3 k, M7 k]) Am .own [] k
abbrev Xqp : List PA := [.agg (.pair mI X5l)]
abbrev F374_O : RO := ⟨[.v], [mB]⟩
def Xl {β : Type} (RET : Bool → Option β) (k : Nat) (v : (Int × (Int × Aa))) : Option β := (N5 k v.1 1 6).bind fun b1 => cond b1 ((F65 k v.2.1).bind fun b2 => cond b2 (RET (decide ((v.2.2.length : Int) ≤ 20))) (RET false)) (RET false)
def Xjs := Xl (β := Bool) some
theorem Xv1 {β : Type} (k : Nat) (v : (Int × (Int × Aa))) (K : KT β) : Af (X1o k) Tryz.f374 (PsT.put Xqp (v, ())) K = (Xjs k v).bind fun r => K (F374_O.put r) :=
 Eq.trans (b := Xl (fun r => K (F374_O.put r)) k v) (by kernel_rfl) (by simp only [Xjs, Xl, z1, z2, z3, z4, z5, z6, z7, z8])
def Xuc (k : Nat) : FD := ⟨374, Xqp, F374_O, Xjs k⟩
theorem X4t (k : Nat) : (Xuc k).Ok Tryz.prog := ⟨fun x => Ab (Aj (Ah (.c (Eb k) (.c (Qx k) .n))) _ _ _ _) Ag Tryz.func374 rfl rfl (Xv1 k _ some), .of (by kernel_rfl)⟩
abbrev X3k (k : Nat) : Env := Bd Bq Am .own [] k
abbrev Xus : List PA := [.one (.nil (.int .u8)), .one mI]
abbrev F163_O : RO := ⟨[.v], [.sl .own (.int .u8)]⟩
def Y3 {β : Type} (RET : Aa → Option β) (k : Nat) (v : Aa) (w : Int) : Option β := cond (decide (w < 0)) none (cond (decide ((i64.wrap (w - 0)) > 0)) (cond (decide (0 ≤ 0) && decide (0 ≤ ((0 : Nat) : Int))) (cond (decide (0 < (i64.wrap (w - 0))) && decide ((i64.wrap (w - 0)) * (1 : Nat) ≤ 140737488355328)) (cond (decide (0 ≤ 0) && decide (0 ≤ ((List.replicate ((i64.wrap (w - 0)).toNat) (Be (.int .u8))).length : Int))) (RET (((List.replicate ((i64.wrap (w - 0)).toNat) (Be (.int .u8))).take 0).drop 0)) none) none) none) (RET []))
def Xk4 := Y3 (β := Aa) some
theorem Xyt {β : Type} (k : Nat) (v : Aa) (w : Int) (K : KT β) : Af (X3k k) Tryz.f163 (PsT.put Xus (v, w, ())) K = (Xk4 k v w).bind fun r => K (F163_O.put r) :=
 Eq.trans (b := Y3 (fun r => K (F163_O.put r)) k v w) (by kernel_rfl) (by simp only [Xk4, Y3, z1, z2, z3, z4, z5, z6, z7, z8])
def Xtx (k : Nat) : FD := ⟨163, Xus, F163_O, Xk4 k⟩
theorem X1k (k : Nat) : (Xtx k).Ok Tryz.prog := ⟨fun x => Ab (Aj .none _ _ _ _) Ag Tryz.func163 rfl rfl (Xyt k _ _ some), .of (by kernel_rfl)⟩
def X9n : Nat → Hint
 | 0 => ⟨pl 0 1 (pl 3 1 (pl 9 3 [])), []⟩
 | 2 => ⟨(6, .own .own (.int .u8) []) :: (pl 25 3 []), []⟩
 | _ => ⟨[], []⟩
abbrev Vf (k : Nat) : Env := Bd (A0 [Xtx k]) X9n .own [] k
abbrev Xuh : List PA := [.one (.sl .ro (.sl (.int .u8)))]
abbrev F92_O : RO := ⟨[.v], [.sl .own (.int .u8)]⟩
noncomputable def Xzv {β : Type} (k : Nat) (v : Ff) (K : KT β) : Ex → St → Option β := Bx (Vf k) Tryz.f92 (PsT.put Xuh (v, ())) K
def X03 (v : Ff) (x27_2 : Int) (m6900_2 : Aa) : St := ⟨dz 6 ((.one (.a (.cell 6900) 0 0 none)) :: dz 18 ((.one (.s .ro (.sl (.int .u8)) v)) :: (.one (vI (v.length : Int))) :: (.one (vI x27_2)) :: dz 8 [])), [eM 6900 (.s .own (.int .u8) m6900_2)]⟩
noncomputable def Sa {β : Type} (k : Nat) (v : Ff) (K : KT β) (n : Nat) (x27_2 : Int) (m6900_2 : Aa) : Option β := A7 (Vf k) Tryz.f92 [1, 1, 1, 1, 0, 1, 0] 2 (Ap (Vf k) [1, 1, 1, 1, 0, 1, 0] (Ar Tryz.f92) 0 (Xzv k v K)) n (X03 v x27_2 m6900_2)
def Ny {β : Type} (NX : Int → Aa → Option β) (RET : Aa → Option β) (k : Nat) (v : Ff) (x27_2 : Int) (m6900_2 : Aa) : Option β := cond (decide (x27_2 < (v.length : Int))) (Az x27_2 v (Bi (m6900_2.length) ((Aw v x27_2).length) 1 (NX (i64.wrap (x27_2 + 1)) (m6900_2 ++ (Aw v x27_2))))) (RET m6900_2)
def Ps (k : Nat) (v : Ff) : Nat → Int → Aa → Option (Aa)
 | 0, _, _ => none
 | n + 1, x27_2, m6900_2 => Ny (Ps k v n) some k v x27_2 m6900_2
theorem Xjb {β : Type} (k : Nat) (v : Ff) (K : KT β) (n : Nat) : ∀ (x27_2 : Int) (m6900_2 : Aa), Sa k v K n x27_2 m6900_2 =
  (Ps k v n x27_2 m6900_2).bind fun r => K (F92_O.put r) := by
 induction n with
 | zero => intros; rfl
 | succ n ih =>
  intro x27_2 m6900_2
  refine Eq.trans (b := Ny (Sa k v K n) (fun r => K (F92_O.put r)) k v x27_2 m6900_2) (by kernel_rfl) ?_
  rw [Ps]
  simp only [Ny, z1, z2, z3, z4, z5, z6, z7, z8, ih]
def X1e (v : Ff) (x3_0 x11_0 : Int) : St := ⟨(.one (.s .ro (.sl (.int .u8)) v)) :: (.one .d) :: (.one .d) :: (.one (vI x3_0)) :: dz 5 ((.one (.s .ro (.sl (.int .u8)) v)) :: (.one (vI (v.length : Int))) :: (.one (vI x11_0)) :: dz 24 []), []⟩
noncomputable def Um {β : Type} (k : Nat) (v : Ff) (K : KT β) (n : Nat) (x3_0 x11_0 : Int) : Option β := A7 (Vf k) Tryz.f92 [1, 1, 0, 1, 0] 0 (Ap (Vf k) [1, 1, 0, 1, 0] (Ar Tryz.f92) 0 (Xzv k v K)) n (X1e v x3_0 x11_0)
def M9 {β : Type} (NX : Int → Int → Option β) (LP2 : Int → Aa → Option β) (k : Nat) (v : Ff) (x3_0 x11_0 : Int) : Option β := cond (decide (x11_0 < (v.length : Int))) (Az x11_0 v (cond (decide ((i64.wrap (x3_0 + ((Aw v x11_0).length : Int))) < 0)) none (NX (i64.wrap (x3_0 + ((Aw v x11_0).length : Int))) (i64.wrap (x11_0 + 1))))) ((Xk4 k [] x3_0).bind fun b1 => LP2 0 b1)
def O9 (k : Nat) (v : Ff) : Nat → Int → Int → Option (Aa)
 | 0, _, _ => none
 | n + 1, x3_0, x11_0 => M9 (O9 k v n) (Ps k v k) k v x3_0 x11_0
theorem Xjv {β : Type} (k : Nat) (v : Ff) (K : KT β) (n : Nat) : ∀ (x3_0 x11_0 : Int), Um k v K n x3_0 x11_0 =
  (O9 k v n x3_0 x11_0).bind fun r => K (F92_O.put r) := by
 induction n with
 | zero => intros; rfl
 | succ n ih =>
  intro x3_0 x11_0
  refine Eq.trans (b := M9 (Um k v K n) (Sa k v K k) k v x3_0 x11_0) (by kernel_rfl) ?_
  rw [O9]
  simp only [M9, z1, z2, z3, z4, z5, z6, z7, z8, Xjb, ih]
def Xhf {β : Type} (LP0 : Int → Int → Option β) (k : Nat) (v : Ff) : Option β := LP0 0 0
def F92 (k : Nat) (v : Ff) : Option (Aa) := Xhf (O9 k v k) k v
theorem X25 {β : Type} (k : Nat) (v : Ff) (K : KT β) : Af (Vf k) Tryz.f92 (PsT.put Xuh (v, ())) K = (F92 k v).bind fun r => K (F92_O.put r) :=
 Eq.trans (b := Xhf (Um k v K k) k v) (by kernel_rfl) (by simp only [F92, Xhf, z1, z2, z3, z4, z5, z6, z7, z8, Xjv])
def Xnm (k : Nat) : FD := ⟨92, Xuh, F92_O, F92 k⟩
theorem Xz5 (k : Nat) : (Xnm k).Ok Tryz.prog := ⟨fun x => Ab (Aj (Ah (.c (X1k k) .n)) _ _ _ _) Ag Tryz.func92 rfl rfl (X25 k _ some), .of (by kernel_rfl)⟩
end
end Go.Proofs.YtdmepjjepogddaaGreat.Gn
end

section
set_option linter.unusedVariables false
set_option linter.unusedSimpArgs false
namespace Go.Proofs.YtdmepjjepogddaaGreat.Gn
open Go.Rf IntKind
noncomputable section
abbrev X3t (k : Nat) : Env := Bd (A0 [Xuc k, Xhd k, Xnm k]) Am .own [] k
abbrev Xri : List PA := [.agg (.pair mI X5l)]
abbrev F366_O : RO := ⟨[.v], [.sl .own (.int .u8)]⟩
def Wm {β : Type} (RET : Aa → Option β) (k : Nat) (v : (Int × (Int × Aa))) : Option β := u_4 v fun v0 v1 v2 => (Xjs k v).bind fun b1 => cond (!b1) (RET []) ((F93 k v1 2).bind fun b2 => (F92 k [[u8.wrap v0], b2, [u8.wrap (v2.length : Int)], v2]).bind fun b3 => RET b3)
def Xch := Wm (β := Aa) some
theorem Xve {β : Type} (k : Nat) (v : (Int × (Int × Aa))) (K : KT β) : Af (X3t k) Tryz.f366 (PsT.put Xri (v, ())) K = (Xch k v).bind fun r => K (F366_O.put r) :=
 Eq.trans (b := Wm (fun r => K (F366_O.put r)) k v) (by kernel_rfl) (by simp only [Xch, Wm, z1, z2, z3, z4, z5, z6, z7, z8, u_4])
def Xfw (k : Nat) : FD := ⟨366, Xri, F366_O, Xch k⟩
theorem Xnf (k : Nat) : (Xfw k).Ok Tryz.prog := ⟨fun x => Ab (Aj (Ah (.c (X4t k) (.c (Xps k) (.c (Xz5 k) .n)))) _ _ _ _) Ag Tryz.func366 rfl rfl (Xve k _ some), .of (by kernel_rfl)⟩
def X2q : Nat → Hint
 | 0 => ⟨pl 0 2 (pl 12 2 []), []⟩
 | _ => ⟨[], []⟩
abbrev X8 (k : Nat) : Env := Bd Bq X2q .own [] k
abbrev Xed : List PA := [.one (.sl .ro (.int .u8)), .one (.sl .ro (.int .u8))]
abbrev F159_O : RO := ⟨[.v], [mB]⟩
noncomputable def X8c {β : Type} (k : Nat) (v w : Aa) (K : KT β) : Ex → St → Option β := Bx (X8 k) Tryz.f159 (PsT.put Xed (v, w, ())) K
def Xv7 (v w : Aa) (x13_0 : Int) : St := ⟨(.one (.s .ro (.int .u8) v)) :: (.one (.s .ro (.int .u8) w)) :: dz 10 ((.one (vI (v.length : Int))) :: (.one (vI x13_0)) :: dz 12 []), []⟩
noncomputable def Pp {β : Type} (k : Nat) (v w : Aa) (K : KT β) (n : Nat) (x13_0 : Int) : Option β := A7 (X8 k) Tryz.f159 [1, 1, 0, 1, 0] 0 (Ap (X8 k) [1, 1, 0, 1, 0] (Ar Tryz.f159) 0 (X8c k v w K)) n (Xv7 v w x13_0)
def Gu {β : Type} (NX : Int → Option β) (RET : Bool → Option β) (k : Nat) (v w : Aa) (x13_0 : Int) : Option β := cond (decide (x13_0 < (v.length : Int))) (Az x13_0 v (Az x13_0 w (cond ((Aw v x13_0) != (Aw w x13_0)) (RET false) (NX (i64.wrap (x13_0 + 1)))))) (RET true)
def G4 (k : Nat) (v w : Aa) : Nat → Int → Option (Bool)
 | 0, _ => none
 | n + 1, x13_0 => Gu (G4 k v w n) some k v w x13_0
theorem Xc2 {β : Type} (k : Nat) (v w : Aa) (K : KT β) (n : Nat) : ∀ (x13_0 : Int), Pp k v w K n x13_0 =
  (G4 k v w n x13_0).bind fun r => K (F159_O.put r) := by
 induction n with
 | zero => intros; rfl
 | succ n ih =>
  intro x13_0
  refine Eq.trans (b := Gu (Pp k v w K n) (fun r => K (F159_O.put r)) k v w x13_0) (by kernel_rfl) ?_
  rw [G4]
  simp only [Gu, z1, z2, z3, z4, z5, z6, z7, z8, ih]
def Yn {β : Type} (LP0 : Int → Option β) (RET : Bool → Option β) (k : Nat) (v w : Aa) : Option β := cond ((v.length : Int) != (w.length : Int)) (RET false) (LP0 0)
def Xe4 (k : Nat) (v w : Aa) : Option (Bool) := Yn (G4 k v w k) some k v w
theorem Xye {β : Type} (k : Nat) (v w : Aa) (K : KT β) : Af (X8 k) Tryz.f159 (PsT.put Xed (v, w, ())) K = (Xe4 k v w).bind fun r => K (F159_O.put r) :=
 Eq.trans (b := Yn (Pp k v w K k) (fun r => K (F159_O.put r)) k v w) (by kernel_rfl) (by simp only [Xe4, Yn, z1, z2, z3, z4, z5, z6, z7, z8, Xc2])
def Xcw (k : Nat) : FD := ⟨159, Xed, F159_O, Xe4 k⟩
theorem Xsu (k : Nat) : (Xcw k).Ok Tryz.prog := ⟨fun x => Ab (Aj .none _ _ _ _) Ag Tryz.func159 rfl rfl (Xye k _ _ some), .of (by kernel_rfl)⟩
abbrev X2r (k : Nat) : Env := Bd (A0 [Xrk k, Sf k, Xfw k, Xcw k]) Am .own [] k
abbrev Xug : Type := (Int × (Int × Aa)) × Bool
abbrev Xsl : List PA := [.one (.sl .ro (.int .u8))]
abbrev F365_O : RO := ⟨[.a, .v], [.pair mI m_12, mB]⟩
def Wr {β : Type} (RET : Xug → Option β) (k : Nat) (v : Aa) : Option β := cond (decide ((v.length : Int) < 4)) (RET ((0, 0, []), false)) (cond (decide (0 < (v.length : Int))) ((Xkb k v 1 2).bind fun b1 => cond (decide (0 ≤ 4) && decide (4 ≤ (v.length : Int))) ((Uf k (v.drop 4)).bind fun b2 => (Xch k (i64.wrap (Aw v 0), b1, b2)).bind fun b3 => (Xe4 k b3 v).bind fun b4 => cond (!b4) (RET ((0, 0, []), false)) (RET ((i64.wrap (Aw v 0), b1, b2), true))) none) none)
def Xj2 := Wr (β := Xug) some
theorem Xw9 {β : Type} (k : Nat) (v : Aa) (K : KT β) : Af (X2r k) Tryz.f365 (PsT.put Xsl (v, ())) K = (Xj2 k v).bind fun r => K (F365_O.put r) :=
 Eq.trans (b := Wr (fun r => K (F365_O.put r)) k v) (by kernel_rfl) (by simp only [Xj2, Wr, z1, z2, z3, z4, z5, z6, z7, z8])
def Xr4 (k : Nat) : FD := ⟨365, Xsl, F365_O, Xj2 k⟩
theorem X3a (k : Nat) : (Xr4 k).Ok Tryz.prog := ⟨fun x => Ab (Aj (Ah (.c (X7t k) (.c (Zl k) (.c (Xnf k) (.c (Xsu k) .n))))) _ _ _ _) Ag Tryz.func365 rfl rfl (Xw9 k _ some), .of (by kernel_rfl)⟩
abbrev X18 (k : Nat) : Env := Bd (A0 [Xr4 k]) Am .own [] k
abbrev Xq6 : List PA := [.agg (.pair mI Ka)]
abbrev F350_O : RO := ⟨[.v], [mB]⟩
def Xa {β : Type} (RET : Bool → Option β) (k : Nat) (v : (den Ak)) : Option β := (Xj2 k v.2.2.2.2.2.2.2.2).bind fun b1 => cond b1.2 (cond (v.2.2.1 == 1) (RET (decide (b1.1.1 ≥ 3))) (RET false)) (RET false)
def Xi5 := Xa (β := Bool) some
theorem Xu9 {β : Type} (k : Nat) (v : (den Ak)) (K : KT β) : Af (X18 k) Tryz.f350 (PsT.put Xq6 (v, ())) K = (Xi5 k v).bind fun r => K (F350_O.put r) :=
 Eq.trans (b := Xa (fun r => K (F350_O.put r)) k v) (by kernel_rfl) (by simp only [Xi5, Xa, z1, z2, z3, z4, z5, z6, z7, z8, A5])
def Xsg (k : Nat) : FD := ⟨350, Xq6, F350_O, Xi5 k⟩
theorem X60 (k : Nat) : (Xsg k).Ok Tryz.prog := ⟨fun x => Ab (Aj (Ah (.c (X3a k) .n)) _ _ _ _) Ag Tryz.func350 rfl rfl (Xu9 k _ some), .of (by kernel_rfl)⟩
abbrev X7w (k : Nat) : Env := Bd Bq Am .own [] k
abbrev Xqn : List PA := [.one mB, .one mI]
abbrev F199_O : RO := ⟨[.v], [mI]⟩
def Xfn (k : Nat) (v : Bool) (w : Int) : Option (Int) := cond v (some w) (some 0)
theorem Xvt {β : Type} (k : Nat) (v : Bool) (w : Int) (K : KT β) : Af (X7w k) Tryz.f199 (PsT.put Xqn (v, w, ())) K = (Xfn k v w).bind fun r => K (F199_O.put r) :=
 Eq.trans (b := cond v (K (F199_O.put w)) (K (F199_O.put 0))) (by kernel_rfl) (by simp only [Xfn, z1, z2, z3, z4, z5, z6, z7, z8])
def Xrw (k : Nat) : FD := ⟨199, Xqn, F199_O, Xfn k⟩
theorem X01 (k : Nat) : (Xrw k).Ok Tryz.prog := ⟨fun x => Ab (Aj .none _ _ _ _) Ag Tryz.func199 rfl rfl (Xvt k _ _ some), .of (by kernel_rfl)⟩
def X1q : Nat → Hint
 | 0 => ⟨pl 3 1 (pl 6 3 []), []⟩
 | _ => ⟨[], []⟩
abbrev Xu (k : Nat) : Env := Bd Bq X1q .own [] k
abbrev Xde : List PA := [.one (.sl .ro (.int .i64))]
abbrev F165_O : RO := ⟨[.v], [mI]⟩
noncomputable def X1s {β : Type} (k : Nat) (v : Bv) (K : KT β) : Ex → St → Option β := Bx (Xu k) Tryz.f165 (PsT.put Xde (v, ())) K
def Xw5 (v : Bv) (x3_0 x8_0 : Int) : St := ⟨dz 3 ((.one (vI x3_0)) :: (.one .d) :: (.one .d) :: (.one (.s .ro (.int .i64) v)) :: (.one (vI (v.length : Int))) :: (.one (vI x8_0)) :: dz 12 []), []⟩
noncomputable def Py {β : Type} (k : Nat) (v : Bv) (K : KT β) (n : Nat) (x3_0 x8_0 : Int) : Option β := A7 (Xu k) Tryz.f165 [1, 1, 0, 1, 0] 0 (Ap (Xu k) [1, 1, 0, 1, 0] (Ar Tryz.f165) 0 (X1s k v K)) n (Xw5 v x3_0 x8_0)
def Em {β : Type} (NX : Int → Int → Option β) (RET : Int → Option β) (k : Nat) (v : Bv) (x3_0 x8_0 : Int) : Option β := cond (decide (x8_0 < (v.length : Int))) (Az x8_0 v (cond (decide ((i64.wrap (x3_0 + (Aw v x8_0))) > 65535)) (NX (i64.wrap ((i64.wrap (x3_0 + (Aw v x8_0))) - 65535)) (i64.wrap (x8_0 + 1))) (NX (i64.wrap (x3_0 + (Aw v x8_0))) (i64.wrap (x8_0 + 1))))) (RET x3_0)
def Ek (k : Nat) (v : Bv) : Nat → Int → Int → Option (Int)
 | 0, _, _ => none
 | n + 1, x3_0, x8_0 => Em (Ek k v n) some k v x3_0 x8_0
theorem Xf1 {β : Type} (k : Nat) (v : Bv) (K : KT β) (n : Nat) : ∀ (x3_0 x8_0 : Int), Py k v K n x3_0 x8_0 =
  (Ek k v n x3_0 x8_0).bind fun r => K (F165_O.put r) := by
 induction n with
 | zero => intros; rfl
 | succ n ih =>
  intro x3_0 x8_0
  refine Eq.trans (b := Em (Py k v K n) (fun r => K (F165_O.put r)) k v x3_0 x8_0) (by kernel_rfl) ?_
  rw [Ek]
  simp only [Em, z1, z2, z3, z4, z5, z6, z7, z8, ih]
def Xc4 {β : Type} (LP0 : Int → Int → Option β) (k : Nat) (v : Bv) : Option β := LP0 0 0
def Xb2 (k : Nat) (v : Bv) : Option (Int) := Xc4 (Ek k v k) k v
theorem Xza {β : Type} (k : Nat) (v : Bv) (K : KT β) : Af (Xu k) Tryz.f165 (PsT.put Xde (v, ())) K = (Xb2 k v).bind fun r => K (F165_O.put r) :=
 Eq.trans (b := Xc4 (Py k v K k) k v) (by kernel_rfl) (by simp only [Xb2, Xc4, z1, z2, z3, z4, z5, z6, z7, z8, Xf1])
def Xpm (k : Nat) : FD := ⟨165, Xde, F165_O, Xb2 k⟩
theorem X6b (k : Nat) : (Xpm k).Ok Tryz.prog := ⟨fun x => Ab (Aj .none _ _ _ _) Ag Tryz.func165 rfl rfl (Xza k _ some), .of (by kernel_rfl)⟩
def X81 : Nat → Hint
 | 0 => ⟨pl 3 1 [], pl 3000 1 []⟩
 | _ => ⟨[], []⟩
abbrev Fk (k : Nat) : Env := Bd (A0 [Xpm k]) X81 .own [] k
abbrev Xqy : List PA := [.one (.sl .ro (.int .u8))]
abbrev F94_O : RO := ⟨[.v], [mI]⟩
noncomputable def Vx {β : Type} (k : Nat) (v : Aa) (K : KT β) : Ex → St → Option β := Bx (Fk k) Tryz.f94 (PsT.put Xqy (v, ())) K
def Ou (v : Aa) (m3000_0 : Int) : St := ⟨dz 3 ((.one (.ptr (.cell 3000) 1 0)) :: dz 25 []), [iM 3000 m3000_0]⟩
def E3 (k : Nat) (v : Aa) : List Aa → Int → Option (Int)
 | [], m3000_0 => some (i64.wrap (65535 - m3000_0))
 | z0_0 :: r, m3000_0 => cond (decide (0 < (z0_0.length : Int))) (cond (decide ((z0_0.length : Int) > 1)) (cond (decide (1 < (z0_0.length : Int))) ((Xb2 k [m3000_0, Cf .or .i64 (i64.wrap ((i64.wrap (Aw z0_0 0)) * 2 ^ (8))) (i64.wrap (Aw z0_0 1))]).bind fun b1 => E3 k v r b1) none) ((Xb2 k [m3000_0, i64.wrap ((i64.wrap (Aw z0_0 0)) * 2 ^ (8))]).bind fun b2 => E3 k v r b2)) none
theorem Xkr {β : Type} (k : Nat) (v : Aa) (m3000_0 : Int) (K : KT β) :
  Fa (Fk k) Tryz.f94 [1, 1, 0, 1, 0] 0 8 (Ap (Fk k) [1, 1, 0, 1, 0] (Ar Tryz.f94) 0 (Vx k v K)) ([] : List Aa) (Ou v m3000_0) =
  K (F94_O.put (i64.wrap (65535 - m3000_0))) := by kernel_rfl
theorem Xkz {β : Type} (k : Nat) (v : Aa) (z0_0 : Aa) (r : List Aa) (m3000_0 : Int) (K : KT β) :
  Fa (Fk k) Tryz.f94 [1, 1, 0, 1, 0] 0 8 (Ap (Fk k) [1, 1, 0, 1, 0] (Ar Tryz.f94) 0 (Vx k v K)) (z0_0 :: r) (Ou v m3000_0) =
  cond (decide (0 < (z0_0.length : Int))) (cond (decide ((z0_0.length : Int) > 1)) (cond (decide (1 < (z0_0.length : Int))) ((Xb2 k [m3000_0, Cf .or .i64 (i64.wrap ((i64.wrap (Aw z0_0 0)) * 2 ^ (8))) (i64.wrap (Aw z0_0 1))]).bind fun b1 => Fa (Fk k) Tryz.f94 [1, 1, 0, 1, 0] 0 8 (Ap (Fk k) [1, 1, 0, 1, 0] (Ar Tryz.f94) 0 (Vx k v K)) r (Ou v b1)) none) ((Xb2 k [m3000_0, i64.wrap ((i64.wrap (Aw z0_0 0)) * 2 ^ (8))]).bind fun b2 => Fa (Fk k) Tryz.f94 [1, 1, 0, 1, 0] 0 8 (Ap (Fk k) [1, 1, 0, 1, 0] (Ar Tryz.f94) 0 (Vx k v K)) r (Ou v b2))) none := by kernel_rfl
theorem Xkp {β : Type} (k : Nat) (v : Aa) (K : KT β) (l : List Aa) : ∀ (m3000_0 : Int), Fa (Fk k) Tryz.f94 [1, 1, 0, 1, 0] 0 8 (Ap (Fk k) [1, 1, 0, 1, 0] (Ar Tryz.f94) 0 (Vx k v K)) l (Ou v m3000_0) =
  (E3 k v l m3000_0).bind fun r => K (F94_O.put r) := by
 induction l with
 | nil => intros; rw [Xkr, E3]; simp only [z1, z2, z3, z4, z5, z6, z7, z8]
 | cons z r ih =>
  intros
  rw [Xkz, E3]
  simp only [z1, z2, z3, z4, z5, z6, z7, z8, ih]
def F94 (k : Nat) (v : Aa) : Option (Int) := cond (decide (1 ≤ 2) && decide (2 ≤ 9223372036854775807) && decide (v.length ≤ 140737488355328)) (E3 k v (B8 ((2 : Int).toNat) v) 0) none
theorem X4p {β : Type} (k : Nat) (v : Aa) (K : KT β) : Af (Fk k) Tryz.f94 (PsT.put Xqy (v, ())) K = (F94 k v).bind fun r => K (F94_O.put r) :=
 Eq.trans (b := cond (decide (1 ≤ 2) && decide (2 ≤ 9223372036854775807) && decide (v.length ≤ 140737488355328)) (Fa (Fk k) Tryz.f94 [1, 1, 0, 1, 0] 0 8 (Ap (Fk k) [1, 1, 0, 1, 0] (Ar Tryz.f94) 0 (Vx k v K)) (B8 ((2 : Int).toNat) v) (Ou v 0)) none) (by kernel_rfl) (by simp only [F94, z1, z2, z3, z4, z5, z6, z7, z8, Xkp])
def X0u (k : Nat) : FD := ⟨94, Xqy, F94_O, F94 k⟩
theorem X91 (k : Nat) : (X0u k).Ok Tryz.prog := ⟨fun x => Ab (Aj (Ah (.c (X6b k) .n)) _ _ _ _) Ag Tryz.func94 rfl rfl (X4p k _ some), .of (by kernel_rfl)⟩
abbrev X63 (k : Nat) : Env := Bd (A0 [Xhd k, Xrw k, Xnm k, X0u k]) Am .own [] k
abbrev Xuk : List PA := [.agg (.pair mI Ka)]
abbrev F351_O : RO := ⟨[.v], [.sl .own (.int .u8)]⟩
def Yu {β : Type} (RET : Aa → Option β) (k : Nat) (v : (den Ak)) : Option β := A5 v fun v0 v1 v2 v3 v4 v5 v6 v7 v8 => (F93 k v0 2).bind fun b1 => (F93 k v1 2).bind fun b2 => (Xfn k v6 1).bind fun b3 => (Xfn k v7 2).bind fun b4 => (F92 k [b1, b2, [u8.wrap v2, u8.wrap v3, u8.wrap v4, u8.wrap v5, u8.wrap (i64.wrap (b3 + b4)), u8.wrap (v8.length : Int)]]).bind fun b5 => (F94 k b5).bind fun b6 => (F93 k b6 2).bind fun b7 => (F92 k [b5, b7, v8]).bind fun b8 => RET b8
def Xlj := Yu (β := Aa) some
theorem Xxd {β : Type} (k : Nat) (v : (den Ak)) (K : KT β) : Af (X63 k) Tryz.f351 (PsT.put Xuk (v, ())) K = (Xlj k v).bind fun r => K (F351_O.put r) :=
 Eq.trans (b := Yu (fun r => K (F351_O.put r)) k v) (by kernel_rfl) (by simp only [Xlj, Yu, z1, z2, z3, z4, z5, z6, z7, z8, A5])
def Xs6 (k : Nat) : FD := ⟨351, Xuk, F351_O, Xlj k⟩
theorem X4h (k : Nat) : (Xs6 k).Ok Tryz.prog := ⟨fun x => Ab (Aj (Ah (.c (Xps k) (.c (X01 k) (.c (Xz5 k) (.c (X91 k) .n))))) _ _ _ _) Ag Tryz.func351 rfl rfl (Xxd k _ some), .of (by kernel_rfl)⟩
abbrev X7y (k : Nat) : Env := Bd (A0 [Xfw k]) Am .own [] k
abbrev Xop : List PA := [.one mI, .agg (.pair mI Ka), .agg (.pair mI X5l)]
abbrev F352_O : RO := ⟨[.a], [.pair mI Xfv]⟩
def Xor (k : Nat) (v : Int) (w : (den Ak)) (p : (Int × (Int × Aa))) : Option ((den Ak)) := (Xch k p).bind fun b1 => some (v, w.1, 1, 64, w.2.2.2.2.1, 0, false, false, b1)
theorem Xxh {β : Type} (k : Nat) (v : Int) (w : (den Ak)) (p : (Int × (Int × Aa))) (K : KT β) : Af (X7y k) Tryz.f352 (PsT.put Xop (v, w, p, ())) K = (Xor k v w p).bind fun r => K (F352_O.put r) :=
 Eq.trans (b := (Xch k p).bind fun b1 => K (F352_O.put (v, w.1, 1, 64, w.2.2.2.2.1, 0, false, false, b1))) (by kernel_rfl) (by simp only [Xor, z1, z2, z3, z4, z5, z6, z7, z8, u_4, A5])
def Xup (k : Nat) : FD := ⟨352, Xop, F352_O, Xor k⟩
theorem X4g (k : Nat) : (Xup k).Ok Tryz.prog := ⟨fun x => Ab (Aj (Ah (.c (Xnf k) .n)) _ _ _ _) Ag Tryz.func352 rfl rfl (Xxh k _ _ _ some), .of (by kernel_rfl)⟩
abbrev X5t (k : Nat) : Env := Bd (A0 [Xil k, M7 k, Xsg k, D3 k, Xs6 k, Xup k]) Am .own [] k
abbrev Xrp : List PA := [.agg (.pair mI Ka), .one mI, .one mI, .one mI]
abbrev F326_O : RO := ⟨[.a, .v], [.pair mI Xfv, mB]⟩
def Wx {β : Type} (RET : (den Ak) × Bool → Option β) (k : Nat) (v : (den Ak)) (w p q : Int) : Option β := (F89 k v).bind fun b1 => cond (!b1) (RET ((0, 0, 0, 0, 0, 0, false, false, []), false)) ((F65 k w).bind fun b2 => cond (!b2) (RET ((0, 0, 0, 0, 0, 0, false, false, []), false)) (cond (v.2.2.2.2.2.1 != 0) (RET ((0, 0, 0, 0, 0, 0, false, false, []), false)) ((Xi5 k v).bind fun b3 => cond b3 (RET ((0, 0, 0, 0, 0, 0, false, false, []), false)) ((N5 k p 3 6).bind fun b4 => cond (!b4) (RET ((0, 0, 0, 0, 0, 0, false, false, []), false)) ((F65 k q).bind fun b5 => cond (!b5) (RET ((0, 0, 0, 0, 0, 0, false, false, []), false)) ((Xlj k v).bind fun b6 => cond (decide (0 ≤ (if 20 < (b6.length : Int) then 20 else (b6.length : Int))) && decide ((if 20 < (b6.length : Int) then 20 else (b6.length : Int)) ≤ (b6.length : Int))) ((Xor k w v (p, q, (b6.take ((if 20 < (b6.length : Int) then 20 else (b6.length : Int)).toNat)).drop 0)).bind fun b7 => RET (b7, true)) none))))))
def Xa1 := Wx (β := (den Ak) × Bool) some
theorem Xv9 {β : Type} (k : Nat) (v : (den Ak)) (w p q : Int) (K : KT β) : Af (X5t k) Tryz.f326 (PsT.put Xrp (v, w, p, q, ())) K = (Xa1 k v w p q).bind fun r => K (F326_O.put r) :=
 Eq.trans (b := Wx (fun r => K (F326_O.put r)) k v w p q) (by kernel_rfl) (by simp only [Xa1, Wx, z1, z2, z3, z4, z5, z6, z7, z8, A5])
def Xm4 (k : Nat) : FD := ⟨326, Xrp, F326_O, Xa1 k⟩
theorem X74 (k : Nat) : (Xm4 k).Ok Tryz.prog := ⟨fun x => Ab (Aj (Ah (.c (Xls k) (.c (Qx k) (.c (X60 k) (.c (Eb k) (.c (X4h k) (.c (X4g k) .n))))))) _ _ _ _) Ag Tryz.func326 rfl rfl (Xv9 k _ _ _ _ some), .of (by kernel_rfl)⟩
abbrev X4u (k : Nat) : Env := Bd (A0 [Xm4 k]) Am .own [] k
abbrev Xur : List PA := [.agg (.pair mI (.sl .ro Ci)), .agg (.pair mI Ka), .one mI, .one mI]
abbrev F264_O : RO := ⟨[.a], [X4m]⟩
def Xci (k : Nat) (v : (den sta)) (w : (den Ak)) (p q : Int) : Option ((den Uy)) := (Xa1 k w v.1 p q).bind fun b1 => cond (!b1.2) (some (0, 0, [])) (some (3, 0, [b1.1]))
theorem Xx8 {β : Type} (k : Nat) (v : (den sta)) (w : (den Ak)) (p q : Int) (K : KT β) : Af (X4u k) Tryz.f264 (PsT.put Xur (v, w, p, q, ())) K = (Xci k v w p q).bind fun r => K (F264_O.put r) :=
 Eq.trans (b := (Xa1 k w v.1 p q).bind fun b1 => cond (!b1.2) (K (F264_O.put (0, 0, []))) (K (F264_O.put (3, 0, [b1.1])))) (by kernel_rfl) (by simp only [Xci, z1, z2, z3, z4, z5, z6, z7, z8, A5])
def Xt3 (k : Nat) : FD := ⟨264, Xur, F264_O, Xci k⟩
theorem X45 (k : Nat) : (Xt3 k).Ok Tryz.prog := ⟨fun x => Ab (Aj (Ah (.c (X74 k) .n)) _ _ _ _) Ag Tryz.func264 rfl rfl (Xx8 k _ _ _ _ some), .of (by kernel_rfl)⟩
abbrev Yaa : List PA := [.one (.sl .ro Ci), .one mI, .one mI]
abbrev X85 : RO := ⟨[.a, .v], [m_3, mB]⟩
def F74 (k : Nat) (v : A3) (w p : Int) : Option (den Ci × Bool) := Rt.to v w p
def Xpg (k : Nat) : FD := ⟨74, Yaa, X85, F74 k⟩
theorem X0c (k : Nat) : (Xpg k).Ok Tryz.prog := ⟨fun x => Rt.con x.1 x.2.1 x.2.2.1, .of (by kernel_rfl)⟩
abbrev X2a (k : Nat) : Env := Bd Bq Am .own [] k
abbrev Xpx : List PA := [.one (.sl .own Ak)]
abbrev F266_O : RO := ⟨[.v], [.sl .own Ak]⟩
def Yz {β : Type} (RET : Al → Option β) (k : Nat) (v : Al) : Option β := cond (decide (0 ≤ (v.length : Int)) && decide ((v.length : Int) ≤ (v.length : Int))) (cond (decide ((v.length : Int) = (v.length : Int))) (RET ((v.take ((v.length : Int).toNat)).drop 0)) none) none
def Xa5 := Yz (β := Al) some
theorem Xyj {β : Type} (k : Nat) (v : Al) (K : KT β) : Af (X2a k) Tryz.f266 (PsT.put Xpx (v, ())) K = (Xa5 k v).bind fun r => K (F266_O.put r) :=
 Eq.trans (b := Yz (fun r => K (F266_O.put r)) k v) (by kernel_rfl) (by simp only [Xa5, Yz, z1, z2, z3, z4, z5, z6, z7, z8])
def Xgo (k : Nat) : FD := ⟨266, Xpx, F266_O, Xa5 k⟩
theorem Xm0 (k : Nat) : (Xgo k).Ok Tryz.prog := ⟨fun x => Ab (Aj .none _ _ _ _) Ag Tryz.func266 rfl rfl (Xyj k _ some), .of (by kernel_rfl)⟩
def X8d : Nat → Hint
 | 0 => ⟨pl 2 1 (pl 6 2 []), pl 2000 9 ((6000, .own .own Ak []) :: (pl 7000 1 []))⟩
 | _ => ⟨[], []⟩
abbrev D9 (k : Nat) : Env := Bd (A0 [Pd k, Sf k, Xgo k]) X8d .own [] k
abbrev Xff : List PA := [.agg (.pair mI Ka), .one mI]
abbrev F265_O : RO := ⟨[.v, .v], [.sl .own Ak, mB]⟩
noncomputable def Us {β : Type} (k : Nat) (v : (den Ak)) (w : Int) (K : KT β) : Ex → St → Option β := Bx (D9 k) Tryz.f265 (PsT.put Xff (v, w, ())) K
def Mf (v : (den Ak)) (w : Int) (m6000_0 : Al) (m7000_0 : Int) : St := ⟨(.one .d) :: (.one .d) :: (.one (.ptr (.cell 2000) 9 0)) :: dz 3 ((.one (.ptr (.cell 6000) 1 0)) :: (.one (.ptr (.cell 7000) 1 0)) :: dz 54 []), Cj 2000 (Jb (.pair mI Ka) v) [eM 6000 (.s .own Ak m6000_0), iM 7000 m7000_0]⟩
def Fj (k : Nat) (v : (den Ak)) (w : Int) : List Aa → Al → Int → Option (Al × Bool)
 | [], m6000_0, m7000_0 => Az (i64.wrap ((m6000_0.length : Int) - 1)) m6000_0 ((sto (m6000_0.set ((i64.wrap ((m6000_0.length : Int) - 1)).toNat) ((Aw m6000_0 (i64.wrap ((m6000_0.length : Int) - 1))).1, (Aw m6000_0 (i64.wrap ((m6000_0.length : Int) - 1))).2.1, (Aw m6000_0 (i64.wrap ((m6000_0.length : Int) - 1))).2.2.1, (Aw m6000_0 (i64.wrap ((m6000_0.length : Int) - 1))).2.2.2.1, (Aw m6000_0 (i64.wrap ((m6000_0.length : Int) - 1))).2.2.2.2.1, (Aw m6000_0 (i64.wrap ((m6000_0.length : Int) - 1))).2.2.2.2.2.1, v.2.2.2.2.2.2.1, (Aw m6000_0 (i64.wrap ((m6000_0.length : Int) - 1))).2.2.2.2.2.2.2))).bind fun b3 => cond v.2.2.2.2.2.2.2.1 (some ([], false)) (cond (decide ((Aw b3 (i64.wrap ((m6000_0.length : Int) - 1))).2.2.2.2.2.1 > 255)) (some ([], false)) ((Xa5 k b3).bind fun b4 => some (b4, true))))
 | z0_0 :: r, m6000_0, m7000_0 => A5 v fun v0 v1 v2 v3 v4 _ _ v7 _ => (Uf k z0_0).bind fun b2 => Bi (m6000_0.length) ([(v0, v1, v2, v3, v4, m7000_0, true, v7, b2)].length) 80 (Fj k v w r (m6000_0 ++ [(v0, v1, v2, v3, v4, m7000_0, true, v7, b2)]) (i64.wrap (m7000_0 + (z0_0.length : Int))))
theorem Xdo {β : Type} (k : Nat) (v : (den Ak)) (w : Int) (m6000_0 : Al) (m7000_0 : Int) (K : KT β) :
  Fa (D9 k) Tryz.f265 [1, 1, 1, 1, 0, 1, 0] 0 25 (Ap (D9 k) [1, 1, 1, 1, 0, 1, 0] (Ar Tryz.f265) 0 (Us k v w K)) ([] : List Aa) (Mf v w m6000_0 m7000_0) =
  Az (i64.wrap ((m6000_0.length : Int) - 1)) m6000_0 ((sto (m6000_0.set ((i64.wrap ((m6000_0.length : Int) - 1)).toNat) ((Aw m6000_0 (i64.wrap ((m6000_0.length : Int) - 1))).1, (Aw m6000_0 (i64.wrap ((m6000_0.length : Int) - 1))).2.1, (Aw m6000_0 (i64.wrap ((m6000_0.length : Int) - 1))).2.2.1, (Aw m6000_0 (i64.wrap ((m6000_0.length : Int) - 1))).2.2.2.1, (Aw m6000_0 (i64.wrap ((m6000_0.length : Int) - 1))).2.2.2.2.1, (Aw m6000_0 (i64.wrap ((m6000_0.length : Int) - 1))).2.2.2.2.2.1, v.2.2.2.2.2.2.1, (Aw m6000_0 (i64.wrap ((m6000_0.length : Int) - 1))).2.2.2.2.2.2.2))).bind fun b3 => cond v.2.2.2.2.2.2.2.1 (K (F265_O.put ([], false))) (cond (decide ((Aw b3 (i64.wrap ((m6000_0.length : Int) - 1))).2.2.2.2.2.1 > 255)) (K (F265_O.put ([], false))) ((Xa5 k b3).bind fun b4 => K (F265_O.put (b4, true))))) := by kernel_rfl
theorem Xgd {β : Type} (k : Nat) (v : (den Ak)) (w : Int) (z0_0 : Aa) (r : List Aa) (m6000_0 : Al) (m7000_0 : Int) (K : KT β) :
  Fa (D9 k) Tryz.f265 [1, 1, 1, 1, 0, 1, 0] 0 25 (Ap (D9 k) [1, 1, 1, 1, 0, 1, 0] (Ar Tryz.f265) 0 (Us k v w K)) (z0_0 :: r) (Mf v w m6000_0 m7000_0) =
  A5 v fun v0 v1 v2 v3 v4 _ _ v7 _ => (Uf k z0_0).bind fun b2 => Bi (m6000_0.length) ([(v0, v1, v2, v3, v4, m7000_0, true, v7, b2)].length) 80 (Fa (D9 k) Tryz.f265 [1, 1, 1, 1, 0, 1, 0] 0 25 (Ap (D9 k) [1, 1, 1, 1, 0, 1, 0] (Ar Tryz.f265) 0 (Us k v w K)) r (Mf v w (m6000_0 ++ [(v0, v1, v2, v3, v4, m7000_0, true, v7, b2)]) (i64.wrap (m7000_0 + (z0_0.length : Int))))) := by kernel_rfl
theorem Xgi {β : Type} (k : Nat) (v : (den Ak)) (w : Int) (K : KT β) (l : List Aa) : ∀ (m6000_0 : Al) (m7000_0 : Int), Fa (D9 k) Tryz.f265 [1, 1, 1, 1, 0, 1, 0] 0 25 (Ap (D9 k) [1, 1, 1, 1, 0, 1, 0] (Ar Tryz.f265) 0 (Us k v w K)) l (Mf v w m6000_0 m7000_0) =
  (Fj k v w l m6000_0 m7000_0).bind fun r => K (F265_O.put r) := by
 induction l with
 | nil => intros; rw [Xdo, Fj]; simp only [z1, z2, z3, z4, z5, z6, z7, z8, A5]
 | cons z r ih =>
  intros
  rw [Xgd, Fj]
  simp only [z1, z2, z3, z4, z5, z6, z7, z8, A5, ih]
def Xb3 (k : Nat) (v : (den Ak)) (w : Int) : Option (Al × Bool) := cond (decide ((v.2.2.2.2.2.2.2.2.length : Int) ≤ w)) ((Qy k v).bind fun b1 => some ([b1], true)) (cond (decide (1 ≤ w) && decide (w ≤ 9223372036854775807) && decide (v.2.2.2.2.2.2.2.2.length ≤ 140737488355328)) (Fj k v w (B8 ((w : Int).toNat) v.2.2.2.2.2.2.2.2) [] v.2.2.2.2.2.1) none)
theorem Xvq {β : Type} (k : Nat) (v : (den Ak)) (w : Int) (K : KT β) : Af (D9 k) Tryz.f265 (PsT.put Xff (v, w, ())) K = (Xb3 k v w).bind fun r => K (F265_O.put r) :=
 Eq.trans (b := cond (decide ((v.2.2.2.2.2.2.2.2.length : Int) ≤ w)) ((Qy k v).bind fun b1 => K (F265_O.put ([b1], true))) (cond (decide (1 ≤ w) && decide (w ≤ 9223372036854775807) && decide (v.2.2.2.2.2.2.2.2.length ≤ 140737488355328)) (Fa (D9 k) Tryz.f265 [1, 1, 1, 1, 0, 1, 0] 0 25 (Ap (D9 k) [1, 1, 1, 1, 0, 1, 0] (Ar Tryz.f265) 0 (Us k v w K)) (B8 ((w : Int).toNat) v.2.2.2.2.2.2.2.2) (Mf v w [] v.2.2.2.2.2.1)) none)) (by kernel_rfl) (by simp only [Xb3, z1, z2, z3, z4, z5, z6, z7, z8, A5, Xgi])
def Xq4 (k : Nat) : FD := ⟨265, Xff, F265_O, Xb3 k⟩
theorem X7d (k : Nat) : (Xq4 k).Ok Tryz.prog := ⟨fun x => Ab (Aj (Ah (.c (Rw k) (.c (Zl k) (.c (Xm0 k) .n)))) _ _ _ _) Ag Tryz.func265 rfl rfl (Xvq k _ _ some), .of (by kernel_rfl)⟩
def X8e : Nat → Hint
 | 1 => ⟨pl 4 2 (pl 7 1 (pl 66 2 [])), pl 4000 3 (pl 5000 4 (pl 59000 1 []))⟩
 | _ => ⟨[], []⟩
abbrev Yt (k : Nat) : Env := Bd (A0 [Pd k, Xt3 k, Xpg k, Xq4 k]) X8e .own [] k
abbrev Xdr : List PA := [.agg (.pair mI (.sl .ro Ci)), .agg (.pair mI Ka)]
abbrev F208_O : RO := ⟨[.a], [X4m]⟩
noncomputable def X3b {β : Type} (k : Nat) (v : (den sta)) (w : (den Ak)) (K : KT β) : Ex → St → Option β := Bx (Yt k) Tryz.f208 (PsT.put Xdr (v, w, ())) K
def Xw4 (v : (den sta)) (w : (den Ak)) (x66_1 x67_1 : Int) (m5000_1 : (den Ci)) (m59000_1 : Al) : St := ⟨dz 4 ((.one (.ptr (.cell 4000) 3 0)) :: (.one (.ptr (.cell 5000) 4 0)) :: (.one .d) :: (.one (.a (.cell 59000) 0 0 none)) :: dz 58 ((.one (vI x66_1)) :: (.one (vI x67_1)) :: dz 15 [])), Cj 4000 (Jb X4m (0, 0, [])) (Cj 5000 (Jb m_3 m5000_1) [eM 59000 (.s .own Ak m59000_1)])⟩
noncomputable def O6 {β : Type} (k : Nat) (v : (den sta)) (w : (den Ak)) (K : KT β) (n : Nat) (x66_1 x67_1 : Int) (m5000_1 : (den Ci)) (m59000_1 : Al) : Option β := A7 (Yt k) Tryz.f208 [1, 1, 1, 1, 1, 1, 1, 0, 1, 0] 1 (Ap (Yt k) [1, 1, 1, 1, 1, 1, 1, 0, 1, 0] (Ar Tryz.f208) 0 (X3b k v w K)) n (Xw4 v w x66_1 x67_1 m5000_1 m59000_1)
def Gm {β : Type} (NX : Int → Int → (den Ci) → Al → Option β) (RET : (den Uy) → Option β) (k : Nat) (v : (den sta)) (w : (den Ak)) (x66_1 x67_1 : Int) (m5000_1 : (den Ci)) (m59000_1 : Al) : Option β := cond (decide (x67_1 < x66_1)) (Az x67_1 m59000_1 (Az x67_1 m59000_1 (NX x66_1 (i64.wrap (x67_1 + 1)) m5000_1 (m59000_1.set x67_1.toNat ((Aw m59000_1 x67_1).1, (Aw m59000_1 x67_1).2.1, (Aw m59000_1 x67_1).2.2.1, i64.wrap ((Aw m59000_1 x67_1).2.2.2.1 - 1), (Aw m59000_1 x67_1).2.2.2.2))))) (RET (2, m5000_1.2.2.1, m59000_1))
def El (k : Nat) (v : (den sta)) (w : (den Ak)) : Nat → Int → Int → (den Ci) → Al → Option ((den Uy))
 | 0, _, _, _, _ => none
 | n + 1, x66_1, x67_1, m5000_1, m59000_1 => Gm (El k v w n) some k v w x66_1 x67_1 m5000_1 m59000_1
theorem Xd6 {β : Type} (k : Nat) (v : (den sta)) (w : (den Ak)) (K : KT β) (n : Nat) : ∀ (x66_1 x67_1 : Int) (m5000_1 : (den Ci)) (m59000_1 : Al), O6 k v w K n x66_1 x67_1 m5000_1 m59000_1 =
  (El k v w n x66_1 x67_1 m5000_1 m59000_1).bind fun r => K (F208_O.put r) := by
 induction n with
 | zero => intros; rfl
 | succ n ih =>
  intro x66_1 x67_1 m5000_1 m59000_1
  refine Eq.trans (b := Gm (O6 k v w K n) (fun r => K (F208_O.put r)) k v w x66_1 x67_1 m5000_1 m59000_1) (by kernel_rfl) ?_
  rw [El]
  simp only [Gm, z1, z2, z3, z4, z5, z6, z7, z8, A5, ih]
def T6 {β : Type} (LP1 : Int → Int → (den Ci) → Al → Option β) (RET : (den Uy) → Option β) (k : Nat) (v : (den sta)) (w : (den Ak)) : Option β := cond (w.2.1 == v.1) ((Qy k w).bind fun b1 => RET (1, 0, [b1])) (cond (decide (w.2.2.2.1 < 2)) ((Xci k v w 4 0).bind fun b2 => RET b2) ((F74 k v.2 w.2.1 17).bind fun b3 => cond (!b3.2) ((Xci k v w 3 0).bind fun b4 => RET b4) (cond (decide ((w.2.2.2.2.2.2.2.2.length : Int) > b3.1.2.2.2)) (cond w.2.2.2.2.2.2.2.1 ((Xci k v w 6 b3.1.2.2.2).bind fun b5 => RET b5) ((Xb3 k w b3.1.2.2.2).bind fun b6 => cond (!b6.2) (RET (0, 0, [])) (LP1 (b6.1.length : Int) 0 b3.1 b6.1))) ((Xb3 k w b3.1.2.2.2).bind fun b7 => cond (!b7.2) (RET (0, 0, [])) (LP1 (b7.1.length : Int) 0 b3.1 b7.1)))))
def Xf (k : Nat) (v : (den sta)) (w : (den Ak)) : Option ((den Uy)) := T6 (El k v w k) some k v w
theorem Xxg {β : Type} (k : Nat) (v : (den sta)) (w : (den Ak)) (K : KT β) : Af (Yt k) Tryz.f208 (PsT.put Xdr (v, w, ())) K = (Xf k v w).bind fun r => K (F208_O.put r) :=
 Eq.trans (b := T6 (O6 k v w K k) (fun r => K (F208_O.put r)) k v w) (by kernel_rfl) (by simp only [Xf, T6, z1, z2, z3, z4, z5, z6, z7, z8, A5, Xd6])
def Xt8 (k : Nat) : FD := ⟨208, Xdr, F208_O, Xf k⟩
theorem X4z (k : Nat) : (Xt8 k).Ok Tryz.prog := ⟨fun x => Ab (Aj (Ah (.c (Rw k) (.c (X45 k) (.c (X0c k) (.c (X7d k) .n))))) _ _ _ _) Ag Tryz.func208 rfl rfl (Xxg k _ _ some), .of (by kernel_rfl)⟩
end
end Go.Proofs.YtdmepjjepogddaaGreat.Gn
end
