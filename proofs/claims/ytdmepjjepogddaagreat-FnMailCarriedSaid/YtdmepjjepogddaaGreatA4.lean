/-
  What the proof of this row needs, part 4: the typed evaluator of the translated code, the functions that the law reaches as plain functions, and what they answer.
-/
import Derived.RangeFuncBox
import Derived.RangeFuncLeaves
import Derived.Shelf.Abstract
import Derived.WalkKit
import Derived.OwnWalkIn
import Derived.TacticsInMore
import Derived.LoopNIn
import Derived.LoopIn
import Derived.Test.YtdmepjjepogddaaGreatChecked
import Derived.KernelRfl
import Derived.RangeFuncNested
import Derived.Shelf.Spec.SlicesInsertGrow
import Derived.Shelf.RegionOpenPlain
import Derived.Deep.LoopGhost
import Derived.Deep.RegionLaw
import Derived.Lib.Walk
import Derived.Lib.SliceRun
import Derived.Lib.SlicesDelete
import Derived.Test.YtdmepjjepogddaaGreatA3
section
namespace Go.Proofs.YtdmepjjepogddaaGreat.It
open Go.RowKit Go.Shelf Go.Rf
attribute [local go_sem] Oper.semAt_some
set_option linter.unusedVariables false
set_option maxRecDepth 100000 in
set_option maxHeartbeats 2000000 in
theorem mk (w : World) (a : Option Addr) (len cap : Nat) (n : Int) (hn : 1 ≤ n) : CallsIn Fence.wide 1 Tryz.prog 164 #[.slice a len cap, .int .i64 n] w fun e w' =>
  e = .returned (.func (.func 229) #[] #[.pointer (some ⟨w.heap.size, 0, none⟩), .pointer (some ⟨w.heap.size + 1, 0, none⟩)]) ∧ w' = (w.alloc (.cells #[.slice a len cap] 23)).alloc (.cells #[.int .i64 n] 3) := by
 have hlt : (decide (n < 1)) = false := decide_eq_false (by omega)
 refine callsIn_of_wp Tryz.func164 rfl trivial ?_ rfl
 simp only [Tryz.ntmps164, List.size_toArray, List.length_cons, List.length_nil, Nat.reduceAdd, Nat.reduceSub, Array.replicate_succ, Array.replicate_zero, List.push_toArray, List.append_toArray, List.nil_append, List.cons_append]
 gi_wp2
 go_ret
 exact ⟨rfl, rfl⟩
set_option maxRecDepth 100000 in
set_option maxHeartbeats 4000000 in
theorem it (lp N : Nat) (a : Option Addr) (len cap b1 b2 : Nat) (J : Nat → World → Prop) (W : World) (hN : 1 ≤ N) (hl : len ≤ 140737488355328) (hN2 : (N : Int) ≤ 9223372036854775807) (hc : len ≤ cap) (ha : a = none → len = 0)
    (hJ : ∀ j W, J j W → W.cell? ⟨b1, 0, none⟩ = some (.slice a len cap) ∧ W.cell? ⟨b2, 0, none⟩ = some (.int .i64 (N : Int))) (hd : ∀ j W, J j W → J j { W with drawn := W.drawn + 1 })
    (hY : ∀ j W, j * N < len → J j W → YieldAt Fence.wide 0 Tryz.prog lp #[.slice (a.map (·.add (j * N * 1))) (min N (len - j * N)) (min N (len - j * N))] W fun e W' => e = .returned (.bool true) ∧ J (j + 1) W') (h0 : J 0 W) :
    CallsIn Fence.wide 1 Tryz.prog 229 #[.func (.yield lp) #[] #[], .pointer (some ⟨b1, 0, none⟩), .pointer (some ⟨b2, 0, none⟩)] W fun e W' => (∃ v, e = .returned v) ∧ J ((len + N - 1) / N) W' := by
  refine callsIn_of_wp Tryz.func229 rfl trivial ?_ rfl
  simp only [Tryz.ntmps229, List.size_toArray, List.length_cons, List.length_nil, Nat.reduceAdd, Nat.reduceSub, Array.replicate_succ, Array.replicate_zero, List.push_toArray, List.append_toArray, List.nil_append, List.cons_append]
  gi_wp2
  gi_loopw [4] (fun i wr => ∃ k : Nat, i = .int .i64 ((k * N : Nat) : Int) ∧ (k = 0 ∨ (k - 1) * N < len) ∧ J k wr) (fun i _ => len + N - (intOf i).toNat)
  case atStart => exact ⟨0, by simp, .inl rfl, h0⟩
  case round =>
    obtain ⟨k, rfl, hk, hJs⟩ := hrel
    obtain ⟨hc1, hc2⟩ := hJ k wr hJs
    by_cases hlt : k * N < len
    · obtain ⟨⟨ab, ao, asp⟩, rfl⟩ : ∃ ad, a = some ad := by
        cases a with
        | none => exact absurd (ha rfl) (by omega)
        | some ad => exact ⟨ad, rfl⟩
      have hkn : ((k : Int) * (N : Int)) < (len : Int) := by exact_mod_cast hlt
      have hkc : ((k : Int) * (N : Int)) ≤ (cap : Int) := by omega
      have hk0 : (0 : Int) ≤ (k : Int) * (N : Int) := by exact_mod_cast Nat.zero_le (k * N)
      gi_wp2
      gi_region
      have hm : (if len - k * N < N then ((len - k * N : Nat) : Int) else ((N : Nat) : Int)) = ((min N (len - k * N) : Nat) : Int) := by split <;> omega
      first | rw [hm] | rw [show min (N : Int) ((len - k * N : Nat) : Int) = ((min N (len - k * N) : Nat) : Int) by omega]
      obtain ⟨hc3, hc4⟩ := hJ k wr.drew (hd k wr hJs)
      obtain ⟨fn, tmps, assign, body, hy, hR⟩ := hY k wr.drew hlt (hd k wr hJs)
      simp only [Option.map_some, Nat.mul_one] at hy
      have he1 : 1 ≤ min N (len - k * N) := by omega
      have he2 : k * N + min N (len - k * N) ≤ len := by omega
      have he3 : min N (len - k * N) ≤ N := by omega
      generalize min N (len - k * N) = e at *
      have he4 : ((k : Int) * (N : Int)) + (e : Int) ≤ (cap : Int) := by have : ((k * N + e : Nat) : Int) ≤ (len : Int) := by exact_mod_cast he2
                                                                         push_cast at this; omega
      gi_wp2
      refine hR.mono ?_
      rintro e' W3 ⟨rfl, hJ3⟩
      obtain ⟨hc5, hc6⟩ := hJ (k + 1) W3 hJ3
      have hk2 : k = 0 ∨ ((k : Int) * (N : Int)) + (N : Int) ≤ 9223372036854775807 := by
        rcases Nat.eq_zero_or_pos k with h | h
        · exact .inl h
        · right
          have : N ≤ k * N := Nat.le_mul_of_pos_left N h
          have : ((k * N : Nat) : Int) + (N : Int) ≤ 9223372036854775807 := by omega
          push_cast at this
          exact this
      have hk3 : ((k : Int) * (N : Int)) + (N : Int) ≤ 9223372036854775807 := by
        rcases hk2 with rfl | h
        · simpa using hN2
        · exact h
      gi_wp2
      go_roundw
      case rel =>
        refine ⟨k + 1, ?_, .inr (by simpa using hlt), hJ3⟩
        congr 1
        rw [Nat.add_mul]
        push_cast
        omega
      case measure =>
        simp [RowKit.intOf]
        have e1 : ((k : Int) * (N : Int)) = ((k * N : Nat) : Int) := by push_cast; rfl
        rw [e1]
        generalize k * N = q at *
        omega
    · have hkn : ¬ ((k : Int) * (N : Int)) < (len : Int) := by exact_mod_cast hlt
      gi_wp2
      go_end0
      refine ⟨⟨_, rfl⟩, ?_⟩
      have : (len + N - 1) / N = k := by
        rcases hk with rfl | hk
        · have : len = 0 := by omega
          subst this
          rw [Nat.zero_add]
          exact Nat.div_eq_of_lt (by omega)
        · have h1 : 1 ≤ k := by
            rcases Nat.eq_zero_or_pos k with rfl | h
            · simp at hk hlt; omega
            · exact h
          obtain ⟨m, rfl⟩ : ∃ m, k = m + 1 := ⟨k - 1, by omega⟩
          rw [Nat.add_sub_cancel] at hk
          have h2 : (m + 1) * N = m * N + N := Nat.succ_mul m N
          rw [h2] at hlt
          refine Nat.div_eq_of_lt_le ?_ ?_
          · rw [h2]; omega
          · rw [Nat.succ_mul, h2]; omega
      rw [this]
      exact hJs
theorem mkOk : ItMk Tryz.prog 164 229 := ⟨FnOk.of (by kernel_rfl), fun w a len cap n hn => Calls.mono (callsIn_wide.1 (mk w a len cap n hn)) fun e w' ⟨h1, h2⟩ => by
 subst h2
 have hs : ((w.alloc (.cells #[.slice a len cap] 23)).alloc (.cells #[.int .i64 n] 3)).heap.size = w.heap.size + 2 := by simp
 have c1 : (w.alloc (.cells #[.slice a len cap] 23)).heap[w.heap.size]? = some (.cells #[.slice a len cap] 23) := World.alloc_heap_new w _
 have c2 : ((w.alloc (.cells #[.slice a len cap] 23)).alloc (.cells #[.int .i64 n] 3)).heap[w.heap.size + 1]? = some (.cells #[.int .i64 n] 3) := by
  have := World.alloc_heap_new (w.alloc (.cells #[.slice a len cap] 23)) (.cells #[.int .i64 n] 3); rwa [World.size_alloc] at this
 have c3 : ((w.alloc (.cells #[.slice a len cap] 23)).alloc (.cells #[.int .i64 n] 3)).heap[w.heap.size]? = some (.cells #[.slice a len cap] 23) := (Below.heap_alloc _ _ _ (by simp)).trans c1
 refine ⟨w.heap.size, w.heap.size + 1, h1, ⟨by omega, by omega⟩, ⟨by omega, by omega⟩, by simp only [cellAt, World.cell?]; rw [c3]; rfl, by simp only [cellAt, World.cell?]; rw [c2]; rfl, fun q hq => (Below.heap_alloc _ _ _ (by simp; omega)).trans (Below.heap_alloc _ _ _ hq), by omega, ⟨rfl, rfl, rfl⟩⟩⟩
theorem itOk : ItOk Tryz.prog 229 (.int .u8) := ⟨FnOk.of (by kernel_rfl), fun lp n a len cap b1 b2 J W hn hl hc ha hJ hd hY h0 => by
 obtain ⟨N, rfl⟩ := Int.eq_ofNat_of_zero_le (show 0 ≤ n by have := hn.1; omega)
 exact it lp N a len cap b1 b2 J W (by have := hn.1; omega) hl hn.2 hc ha hJ hd hY h0⟩
end Go.Proofs.YtdmepjjepogddaaGreat.It
end

section
set_option linter.unusedVariables false
set_option linter.unusedSimpArgs false
namespace Go.Proofs.YtdmepjjepogddaaGreat.Gr
open Go.Rf IntKind
noncomputable section
abbrev Ci : Ty := (.pair (.int .i64) (.pair (.int .i64) (.pair (.int .i64) (.int .i64))))
abbrev Tm : MT := .pair mI (.pair mI (.pair mI mI))
abbrev C7 {β : Type} (e : (den Ci)) (f : Int → Int → Int → Int → β) : β := f e.1 e.2.1 e.2.2.1 e.2.2.2
def tyT : List (Nat × TyI) := [(3, ⟨(.int .i64), false, 0⟩), (4, ⟨.bool, false, 0⟩), (114, ⟨Ci, true, 0⟩)]
def Xhj : Xnr := [(114, [(0, 1, false), (1, 1, false), (2, 1, false), (3, 1, false)])]
def eqT : List Nat := []
def Bc (tab : Tab) (hint : Nat → Hint) (rm : Rf.Mode) (pins : List (Bool × Nat)) (k : Nat) : Env :=
 { tab := tab, lend := (fun _ => []), lent := (fun _ => []), pins := pins, ty := asc tyT, fld := Nl Xhj, pw := fun _ => none, cw := fun _ => [], hint := hint, eqt := Ce eqT, rm := rm, fuel := k }
theorem tyOk : AllT (TyOk Tryz.prog) tyT :=
 ⟨.ofInt (b := 8) (by kernel_rfl) (by kernel_rfl), .ofBool (b := 1) (by kernel_rfl) (by kernel_rfl), .ofAgg (b := 32) (by kernel_rfl) (by kernel_rfl), trivial⟩
theorem fldOk : AllF Tryz.prog Xhj :=
 ⟨⟨⟨by kernel_rfl, by kernel_rfl⟩, ⟨by kernel_rfl, by kernel_rfl⟩, ⟨by kernel_rfl, by kernel_rfl⟩, ⟨by kernel_rfl, by kernel_rfl⟩, trivial⟩, trivial⟩
theorem Ak : Tryz.prog.follows .mixedOrders = true := by kernel_rfl
theorem bldOk : AllT (fun t i => i.agg = true → BldOk Tryz.prog t (Nl Xhj t)) tyT :=
 ⟨nofun, nofun, fun _ => Ef (row := [(0, 1, false), (1, 1, false), (2, 1, false), (3, 1, false)]) rfl (by kernel_rfl) (by kernel_rfl), trivial⟩
theorem eqOkT : AllT (fun t i => Ce eqT t = true → EqOk Tryz.prog t i.ty) tyT :=
 ⟨fun h => absurd h (by decide), fun h => absurd h (by decide), fun h => absurd h (by decide), trivial⟩
theorem Xpu (tab : Tab) (hint : Nat → Hint) (rm : Rf.Mode) (pins : List (Bool × Nat)) (k : Nat) : TysOk Tryz.prog (Bc tab hint rm pins k) :=
 ⟨fun t i h => tyOk.get h, fun s f z h => fldOk.get h, fun t i h => bldOk.get h, fun t i h h2 => eqOkT.get h2 h, fun _ h => by cases h⟩
theorem Am {tab : Tab} (h : TabFn Tryz.prog tab) (hint : Nat → Hint) (rm : Rf.Mode) (pins : List (Bool × Nat)) (k : Nat) : EnvOk Tryz.prog (Bc tab hint rm pins k) := EnvOk.of (Xpu tab hint rm pins k) h
def Bx : Tab := fun _ _ => none
def Ao : Nat → Hint := fun _ => ⟨[], []⟩
abbrev X5v (k : Nat) : Env := Bc Bx Ao .own [] k
abbrev Xws : List PA := [.agg Tm, .one mI]
abbrev F146_O : RO := ⟨[.v], [mB]⟩
def W8 {β : Type} (RET : Bool → Option β) (k : Nat) (v : (den Ci)) (w : Int) : Option β := C7 v fun v0 v1 _ _ => cond (decide ((i64.wrap (16 - v1)) < 0)) none (cond (decide ((i64.wrap (16 - v1)) < 0)) none (RET ((w.fdiv (2 ^ (min (i64.wrap (16 - v1)).toNat 64))) == (v0.fdiv (2 ^ (min (i64.wrap (16 - v1)).toNat 64))))))
def Xms := W8 (β := Bool) some
theorem X1f {β : Type} (k : Nat) (v : (den Ci)) (w : Int) (K : KT β) : Aj (X5v k) Tryz.f146 (PsT.put Xws (v, w, ())) K = (Xms k v w).bind fun r => K (F146_O.put r) :=
 Eq.trans (b := W8 (fun r => K (F146_O.put r)) k v w) (by kernel_rfl) (by simp only [Xms, W8, z1, z2, z3, z4, z5, z6, z7, z8, C7])
def X96 (k : Nat) : FD := ⟨146, Xws, F146_O, Xms k⟩
theorem X5d (k : Nat) : (X96 k).Ok Tryz.prog := ⟨fun x => Ac (Am .none _ _ _ _) Ak Tryz.func146 rfl rfl (X1f k _ _ some), .of (by kernel_rfl)⟩
end
end Go.Proofs.YtdmepjjepogddaaGreat.Gr
end

section
namespace Go.Proofs.YtdmepjjepogddaaGreat.Rt
open Go.RowKit Go.Shelf Go.Rf
attribute [local go_sem] Oper.semAt_some
set_option linter.unusedVariables false
abbrev E : Ty := .pair (.int .i64) (.pair (.int .i64) (.pair (.int .i64) (.int .i64)))
def okB (r : den E) : Bool := decide (0 ≤ (r.2.1 : Int)) && decide ((r.2.1 : Int) ≤ 16)
def Vm (w : Int) (r : den E) : Bool := w.fdiv (2 ^ (16 - r.2.1 : Int).toNat) == (r.1 : Int).fdiv (2 ^ (16 - r.2.1 : Int).toNat)
def B6 (w p : Int) : List (den E) → den E × Bool
 | [] => ((0, 0, 0, 0), false)
 | r :: l => cond (decide ((r.2.1 : Int) < p) && Vm w r) (r, true) (B6 w p l)
def to (v : List (den E)) (w p : Int) : Option (den E × Bool) := cond (v.all okB && decide (v.length ≤ 1000000)) (some (B6 w p v.reverse)) none
set_option maxRecDepth 100000 in
set_option maxHeartbeats 1000000 in
theorem mk (F : Fence) (n : Nat) (hF : F.fn 145) (hro : F.round = none) (w : World) (a : Option Addr) (len cap : Nat) : CallsIn F n Tryz.prog 145 #[.slice a len cap] w fun e w' =>
  e = .returned (.func (.func 223) #[] #[.pointer (some ⟨w.heap.size, 0, none⟩)]) ∧ w' = w.alloc (.cells #[.slice a len cap] 50) := by
 refine callsIn_of_wp Tryz.func145 rfl hF ?_ hro
 simp only [Tryz.ntmps145, List.size_toArray, List.length_cons, List.length_nil, Nat.reduceAdd, Nat.reduceSub, Array.replicate_succ, Array.replicate_zero, List.push_toArray, List.append_toArray, List.nil_append, List.cons_append]
 gi_wp2
 go_ret
 exact ⟨rfl, rfl⟩
def rv (r : den E) : Value := .agg #[.int .i64 r.1, .int .i64 r.2.1, .int .i64 r.2.2.1, .int .i64 r.2.2.2]
def zr : den E := (0, 0, 0, 0)
def Ng {α : Type} (f : Nat → α) (k : Nat) : List α := (List.range k).map f
theorem Wj {α : Type} (f : Nat → α) (k : Nat) : Ng f (k + 1) = Ng f k ++ [f k] := by simp [Ng, List.range_succ]
theorem Xbz {α : Type} (f : Nat → α) (k : Nat) : (Ng f k).length = k := by simp [Ng]
def bk (zs : List (den E)) (j : Nat) : Nat × den E := (zs.length - 1 - j, zs[zs.length - 1 - j]?.getD zr)
abbrev RT : Type := { x : Nat × den E // okB x.2 = true }
theorem Ye8 {zs : List (den E)} (h : zs.all okB = true) (j : Nat) : okB (bk zs j).2 = true := by
 unfold bk
 by_cases hj : zs.length - 1 - j < zs.length
 ·rw [List.getElem?_eq_getElem hj, Option.getD_some]
  exact List.all_eq_true.1 h _ (List.getElem_mem hj)
 ·rw [List.getElem?_eq_none (by omega)]; rfl
def bks (zs : List (den E)) (h : zs.all okB = true) (j : Nat) : RT := ⟨bk zs j, Ye8 h j⟩
set_option maxRecDepth 100000 in
set_option maxHeartbeats 2000000 in
theorem Yeh (F : Fence) (n : Nat) (hF : F.fn 223) (hro : F.round = none) (hn : 1 ≤ n) (l Bs n₀ b off cap : Nat) (zs : List (den E)) (hz : zs.all okB = true) (hreach : zs.length ≤ 1000000) (hcap : zs.length ≤ cap) (hb : b < n₀) (J Jx : List RT → World → Prop)
  (hY : ∀ pre x W, J pre W → pre.length < zs.length → YieldAt F (n - 1) Tryz.prog l #[.int .i64 (x.1.1 : Int), rv x.1.2] W fun e W' =>
   (e = .returned (.bool true) ∧ J (pre ++ [x]) W' ∧ (Below n₀ W W' ∧ W'.cell? ⟨Bs, 0, none⟩ = W.cell? ⟨Bs, 0, none⟩)) ∨ (e = .returned (.bool false) ∧ Jx (pre ++ [x]) W'))
  (W : World) (hBs : W.cell? ⟨Bs, 0, none⟩ = some (.slice (some ⟨b, off, none⟩) zs.length cap))
  (hc : ∀ i, i < zs.length → W.cell? ⟨b, off + i * 4, none⟩ = some (.int .i64 (zs[i]?.getD zr).1) ∧ W.cell? ⟨b, off + i * 4 + 1, none⟩ = some (.int .i64 (zs[i]?.getD zr).2.1) ∧ W.cell? ⟨b, off + i * 4 + 2, none⟩ = some (.int .i64 (zs[i]?.getD zr).2.2.1) ∧ W.cell? ⟨b, off + i * 4 + 3, none⟩ = some (.int .i64 (zs[i]?.getD zr).2.2.2)) (h0 : J [] W) :
  CallsIn F n Tryz.prog 223 #[.func (.yield l) #[] #[], .pointer (some ⟨Bs, 0, none⟩)] W fun e W' => (∃ v, e = .returned v) ∧
   ((∃ ys, ys = Ng (bks zs hz) zs.length ∧ J ys W') ∨ (∃ pre, (∃ k, k ≤ zs.length ∧ pre = Ng (bks zs hz) k) ∧ Jx pre W')) := by
 refine callsIn_of_wp Tryz.func223 rfl hF ?_ hro
 simp only [Tryz.ntmps223, List.size_toArray, List.length_cons, List.length_nil, Nat.reduceAdd, Nat.reduceSub, Array.replicate_succ, Array.replicate_zero, List.push_toArray, List.append_toArray, List.nil_append, List.cons_append]
 gi_wp2
 gi_loopw [3] (fun i wr => ∃ k : Nat, k ≤ zs.length ∧ i = .int .i64 ((zs.length : Int) - 1 - k) ∧ J (Ng (bks zs hz) k) wr ∧ (Below n₀ W wr ∧ wr.cell? ⟨Bs, 0, none⟩ = W.cell? ⟨Bs, 0, none⟩))
  (fun i _ => (RowKit.intOf i + 1).toNat)
 case atStart => exact ⟨0, Nat.zero_le _, by simp, h0, Below.refl _ _, rfl⟩
 case round =>
  obtain ⟨k, hk, rfl, hJs, hnx, hbs⟩ := hrel
  rw [hBs] at hbs
  by_cases hlt : k < zs.length
  ·obtain ⟨fn, tmps, assign, body, hy, hR⟩ := hY _ (bks zs hz k) wr hJs (by rw [Xbz]; exact hlt)
   obtain ⟨c0, c1, c2, c3⟩ := hc (zs.length - 1 - k) (by omega)
   have d0 := (hnx.cell (p := ⟨b, off + (zs.length - 1 - k) * 4, none⟩) hb).trans c0
   have d1 := (hnx.cell (p := ⟨b, off + (zs.length - 1 - k) * 4 + 1, none⟩) hb).trans c1
   have d2 := (hnx.cell (p := ⟨b, off + (zs.length - 1 - k) * 4 + 2, none⟩) hb).trans c2
   have d3 := (hnx.cell (p := ⟨b, off + (zs.length - 1 - k) * 4 + 3, none⟩) hb).trans c3
   have e1 : ((zs.length : Int) - 1 - (k : Int)) = ((zs.length - 1 - k : Nat) : Int) := by omega
   rw [e1]
   simp only [bks, bk] at hy
   have hj : zs.length - 1 - k < zs.length := by omega
   generalize hjj : zs.length - 1 - k = j at *
   simp only [rv, List.getElem?_eq_getElem hj, Option.getD_some] at hy
   gi_wp2
   refine hR.mono ?_
   rintro e W3 (⟨rfl, hJ3, hk3, hk4⟩ | ⟨rfl, hJx3⟩)
   ·gi_wp2
    go_roundw
    case rel => exact ⟨k + 1, by omega, by congr 1; omega, by rw [Wj]; exact hJ3, hnx.trans hk3, by rw [hk4, hbs, hBs]⟩
    case measure => simp [RowKit.intOf]
   ·gi_wp2
    refine bodyPost_ret (results_none rfl _ _ _) rfl ?_
    exact ⟨⟨_, rfl⟩, .inr ⟨_, ⟨k + 1, by omega, (Wj _ _).symm⟩, hJx3⟩⟩
  ·obtain rfl : k = zs.length := by omega
   gi_wp2
   go_end0
   exact ⟨⟨_, rfl⟩, .inl ⟨_, rfl, hJs⟩⟩
set_option maxRecDepth 100000 in
set_option maxHeartbeats 1000000 in
theorem Yfe (F : Fence) (n : Nat) (hF : F.fn 223) (hro : F.round = none) (l Bs cap : Nat) (ad : Option Addr) (J : List RT → World → Prop) (W : World) (hBs : W.cell? ⟨Bs, 0, none⟩ = some (.slice ad 0 cap)) (h0 : J [] W) :
  CallsIn F n Tryz.prog 223 #[.func (.yield l) #[] #[], .pointer (some ⟨Bs, 0, none⟩)] W fun e W' => (∃ v, e = .returned v) ∧ J [] W' := by
 refine callsIn_of_wp Tryz.func223 rfl hF ?_ hro
 simp only [Tryz.ntmps223, List.size_toArray, List.length_cons, List.length_nil, Nat.reduceAdd, Nat.reduceSub, Array.replicate_succ, Array.replicate_zero, List.push_toArray, List.append_toArray, List.nil_append, List.cons_append]
 gi_wp2
 gi_loopw [3] (fun i wr => i = .int .i64 (-1) ∧ J [] wr) (fun _ _ => 0)
 case atStart => exact ⟨rfl, h0⟩
 case round =>
  obtain ⟨rfl, hJs⟩ := hrel
  gi_wp2
  go_end0
  exact ⟨⟨_, rfl⟩, hJs⟩
def Rts (n₀ : Nat) (W : World) (sv : Value) (zs : List (den E)) : Prop :=
 (∃ ad c, sv = .slice ad 0 c ∧ zs = []) ∨ ∃ b off cap, sv = .slice (some ⟨b, off, none⟩) zs.length cap ∧ zs.length ≤ cap ∧ b < n₀ ∧
  ∀ i, i < zs.length → W.cell? ⟨b, off + i * 4, none⟩ = some (.int .i64 (zs[i]?.getD zr).1) ∧ W.cell? ⟨b, off + i * 4 + 1, none⟩ = some (.int .i64 (zs[i]?.getD zr).2.1) ∧ W.cell? ⟨b, off + i * 4 + 2, none⟩ = some (.int .i64 (zs[i]?.getD zr).2.2.1) ∧ W.cell? ⟨b, off + i * 4 + 3, none⟩ = some (.int .i64 (zs[i]?.getD zr).2.2.2)
theorem Rts.below {n₀ : Nat} {A B : World} (h : Below n₀ A B) {sv : Value} {zs : List (den E)} : Rts n₀ A sv zs → Rts n₀ B sv zs
 | .inl e => .inl e
 | .inr ⟨b, off, cap, e, hl, hb, hc⟩ => .inr ⟨b, off, cap, e, hl, hb, fun i hi => by
  obtain ⟨c0, c1, c2, c3⟩ := hc i hi
  exact ⟨(h.cell (p := ⟨b, _, none⟩) hb).trans c0, (h.cell (p := ⟨b, _, none⟩) hb).trans c1, (h.cell (p := ⟨b, _, none⟩) hb).trans c2, (h.cell (p := ⟨b, _, none⟩) hb).trans c3⟩⟩
def KP (n₀ Bs : Nat) (A B : World) : Prop := Below n₀ A B ∧ B.cell? ⟨Bs, 0, none⟩ = A.cell? ⟨Bs, 0, none⟩
theorem KP.t {n₀ Bs : Nat} {A B C : World} (h : KP n₀ Bs A B) (k : KP n₀ Bs B C) : KP n₀ Bs A C := ⟨h.1.trans k.1, k.2.trans h.2⟩
theorem Xtj {W : World} {l q : Nat} {o' : Obj} (h : q ≠ l) : (W.putObj l o').cell? ⟨q, 0, none⟩ = W.cell? ⟨q, 0, none⟩ := by
 simp only [World.cell?, World.putObj_heap_other h]
theorem KP.b {n₀ Bs : Nat} {w : World} (hn : n₀ ≤ w.heap.size) (hB : Bs < w.heap.size) (W : World) (l : Nat) (o o' : Obj) (hl : w.heap.size ≤ l) (h : W.heap[l]? = some o) (h1 : o.isCells = false) (h2 : o.isWalk = false) : KP n₀ Bs W (W.putObj l o') :=
 ⟨belowK_b hn W l o o' hl h h1 h2, Xtj (by omega)⟩
theorem stops (F : Fence) (n : Nat) (hF : F.fn 223) (hro : F.round = none) (hn : 1 ≤ n) (Bs n₀ : Nat) (sv : Value) (zs : List (den E)) (hz : zs.all okB = true) (hreach : zs.length ≤ 1000000) (w : World) (hBs : Bs < w.heap.size) (hn₀ : n₀ ≤ w.heap.size)
  (hc : w.cell? ⟨Bs, 0, none⟩ = some sv) (hI : Rts n₀ w sv zs) :
  SeqStopsK F n Tryz.prog 223 #[.pointer (some ⟨Bs, 0, none⟩)] (fun x : RT => #[Value.int .i64 (x.1.1 : Int), rv x.1.2]) (KP n₀ Bs) (fun ys => ys = Ng (bks zs hz) zs.length)
   (fun pre => ∃ k, k ≤ zs.length ∧ pre = Ng (bks zs hz) k) zs.length w := fun l J Jx W hW _ _ hY h0 => by
 have hc' := (hW.cell (p := ⟨Bs, 0, none⟩) hBs).trans hc
 rcases hI.below (hW.mono hn₀) with ⟨ad, c, rfl, rfl⟩ | ⟨b, off, cap, rfl, hl, hb, hcs⟩
 ·exact (Yfe F n hF hro l Bs c ad J W hc' h0).mono fun e W' ⟨he, hj⟩ => ⟨he, .inl ⟨_, rfl, hj⟩⟩
 ·exact Yeh F n hF hro hn l Bs n₀ b off cap zs hz hreach hl hb J Jx hY W hc' hcs h0
theorem c146 (r : den E) (w : Int) : Contract Tryz.prog 146 [.agg [.l (.v (.int .i64 r.1)), .l (.v (.int .i64 r.2.1)), .l (.v (.int .i64 r.2.2.1)), .l (.v (.int .i64 r.2.2.2))], .one (.l (.v (.int .i64 w)))] ⟨Gr.Xms 0 r w, fun b => (.one (.v (.bool b)), [])⟩ := (Gr.X5d 0).con (r, w, ())
theorem Mf (F : Fence) (hF : Fw F) (n : Nat) (r : den E) (w : Int) (hr : okB r = true) (W : World) : CallsIn F n Tryz.prog 146 #[rv r, .int .i64 w] W fun e W' => e = .returned (.bool (Vm w r)) ∧ Below W.heap.size W W' := by
 obtain ⟨r0, r1, r2, r3⟩ := r
 simp only [okB, Bool.and_eq_true, decide_eq_true_eq] at hr
 obtain ⟨q0, q1⟩ := hr
 have q0 : @LE.le Int _ 0 r1 := q0
 have q1 : @LE.le Int _ r1 16 := q1
 have hF146 : Gr.Xms 0 (r0, r1, r2, r3) w = some (Vm w (r0, r1, r2, r3)) := by
  unfold Gr.Xms Gr.W8 Vm
  dsimp only [Gr.C7]
  have e : IntKind.i64.wrap (16 - r1) = 16 - r1 := by rw [IntKind.wrap_i64]; omega
  rw [e, decide_eq_false (by omega), cond_false, cond_false, Nat.min_eq_left (by omega)]
 have c := c146 (r0, r1, r2, r3) w W (fun _ => False) [rv (r0, r1, r2, r3), .int .i64 w] [[], []]
  ⟨⟨[.int .i64 r0, .int .i64 r1, .int .i64 r2, .int .i64 r3], [[], [], [], []], rfl, ⟨⟨rfl, rfl⟩, ⟨rfl, rfl⟩, ⟨rfl, rfl⟩, ⟨rfl, rfl⟩, trivial⟩, rfl⟩, ⟨rfl, rfl⟩, trivial⟩
  (by simp) (by simp) (fun _ h => h.elim) (List.nodup_nil (α := Nat × Nat)) (fun a ha => by cases ha) (Vm w (r0, r1, r2, r3)) hF146
 have c2 : Calls Tryz.prog 146 #[rv (r0, r1, r2, r3), .int .i64 w] W fun e W' => e = .returned (.bool (Vm w (r0, r1, r2, r3))) ∧ Below W.heap.size W W' := by
  refine Calls.mono c ?_
  rintro e W' ⟨v, rfl, hP⟩
  obtain ⟨S', bs, bbs, h1, _⟩ := hP.ex
  obtain ⟨rfl, _⟩ := (h1 : v = .bool (Vm w (r0, r1, r2, r3)) ∧ bs = [])
  refine ⟨rfl, hP.io.os, hP.io.tape, hP.io.output, hP.sz, fun q hq => ?_⟩
  exact (hP.frm q hq (by simp)).eq fun o ho => by cases ho
 exact hF.calls c2
def Row4 (W : World) (B : Nat) (r : den E) : Prop := W.heap[B]? = some (.cells #[.int .i64 r.1, .int .i64 r.2.1, .int .i64 r.2.2.1, .int .i64 r.2.2.2] 114 (0, 0))
theorem Row4.lt {W : World} {B : Nat} {r : den E} (h : Row4 W B r) : B < W.heap.size := (Array.getElem?_eq_some_iff.1 h).1
theorem Row4.c {W : World} {B : Nat} {r : den E} (h : Row4 W B r) : W.cell? ⟨B, 0, none⟩ = some (.int .i64 r.1) ∧ W.cell? ⟨B, 1, none⟩ = some (.int .i64 r.2.1) ∧ W.cell? ⟨B, 2, none⟩ = some (.int .i64 r.2.2.1) ∧ W.cell? ⟨B, 3, none⟩ = some (.int .i64 r.2.2.2) := by
 unfold Row4 at h
 simp [World.cell?, h]
theorem Row4.f {W : World} {B : Nat} {r : den E} (h : Row4 W B r) : W.frozen? ⟨B, 0, none⟩ = false ∧ W.frozen? ⟨B, 1, none⟩ = false ∧ W.frozen? ⟨B, 2, none⟩ = false ∧ W.frozen? ⟨B, 3, none⟩ = false := by
 unfold Row4 at h
 simp [World.frozen?, h]
theorem V9 (w p : Int) : ∀ (l : List (den E)), (∀ r ∈ l, (decide ((r.2.1 : Int) < p) && Vm w r) = false) → B6 w p l = ((0, 0, 0, 0), false)
 | [], _ => rfl
 | r :: l, h => by
  rw [B6, h r List.mem_cons_self, cond_false]
  exact V9 w p l fun x hx => h x (List.mem_cons_of_mem _ hx)
theorem Wh (w p : Int) (r : den E) (b : List (den E)) (hr : (decide ((r.2.1 : Int) < p) && Vm w r) = true) : ∀ (a : List (den E)), (∀ r ∈ a, (decide ((r.2.1 : Int) < p) && Vm w r) = false) → B6 w p (a ++ r :: b) = (r, true)
 | [], _ => by rw [List.nil_append, B6, hr]; rfl
 | x :: a, h => by
  rw [List.cons_append, B6, h x List.mem_cons_self, cond_false]
  exact Wh w p r b hr a fun y hy => h y (List.mem_cons_of_mem _ hy)
theorem Xce (v : List (den E)) (hz : v.all okB = true) (k : Nat) (hk : k ≤ v.length) : (Ng (bks v hz) k).map (fun x => x.1.2) = v.reverse.take k := by
 apply List.ext_getElem
 ·simp [Ng]; omega
 ·intro i h1 h2
  have hi : i < k := by simpa [Ng] using h1
  simp only [Ng, List.map_map, List.getElem_map, List.getElem_range, Function.comp_apply, bks, bk, List.getElem_take, List.getElem_reverse]
  rw [List.getElem?_eq_getElem (by omega), Option.getD_some]
theorem Kr {W : World} {B : Nat} {cs : Array Value} {te : TypeId} {fr : Nat × Nat} (h : W.heap[B]? = some (.cells cs te fr)) (o : Nat) (v : Value) : (W.setCell ⟨B, o, none⟩ v).heap[B]? = some (.cells (cs.setIfInBounds o v) te fr) := by
 show (W.heap.modify B _)[B]? = _
 rw [Array.getElem?_modify, if_pos rfl, h]
 rfl
theorem Row4.set {W : World} {B : Nat} {r : den E} (h : Row4 W B r) (r' : den E) : Row4 ((((W.setCell ⟨B, 0, none⟩ (.int .i64 r'.1)).setCell ⟨B, 1, none⟩ (.int .i64 r'.2.1)).setCell ⟨B, 2, none⟩ (.int .i64 r'.2.2.1)).setCell ⟨B, 3, none⟩ (.int .i64 r'.2.2.2)) B r' := by
 have := Kr (Kr (Kr (Kr h 0 (.int .i64 r'.1)) 1 (.int .i64 r'.2.1)) 2 (.int .i64 r'.2.2.1)) 3 (.int .i64 r'.2.2.2)
 simpa [Row4] using this
structure Inv (A : Nat) (w p : Int) (W : World) (sv : Value) (X : World) : Prop where
 b0 : Boxed X A 3 (.int .i64 w)
 b1 : Boxed X (A + 1) 3 (.int .i64 p)
 b2 : ∃ r, Row4 X (A + 1 + 1) r
 b3 : ∃ c, Boxed X (A + 1 + 1 + 1) 4 (.bool c)
 b4 : Boxed X (A + 1 + 1 + 1 + 1) 50 sv
 bel : Below A W X
theorem Inv.heap {A : Nat} {w p : Int} {W : World} {sv : Value} {X Y : World} (h : Inv A w p W sv X) (hs : ∀ k, A ≤ k → k < A + 5 → Y.heap[k]? = X.heap[k]?) (hb : Below A W Y) : Inv A w p W sv Y :=
 ⟨(hs _ (by omega) (by omega)).trans h.b0, (hs _ (by omega) (by omega)).trans h.b1, h.b2.imp fun _ h => (hs _ (by omega) (by omega)).trans h, h.b3.imp fun _ h => (hs _ (by omega) (by omega)).trans h, (hs _ (by omega) (by omega)).trans h.b4, hb⟩
theorem Inv.lt {A : Nat} {w p : Int} {W : World} {sv : Value} {X : World} (h : Inv A w p W sv X) : A + 5 ≤ X.heap.size := by have := h.b4.lt; omega
theorem Inv.own {A : Nat} {w p : Int} {W : World} {sv : Value} (hA : A ≤ W.heap.size) {β : Type} (B : Nat) (hB : A + 5 ≤ B) : OwnFrom B (fun (_ : β) X => Inv A w p W sv X) := fun s X Y row hs hg hr =>
 hs.heap (fun k _ hk => hg.block k (by have := hs.lt; omega) (fun e => by have := (hr k e.symm).1; omega)) (hs.bel.grown hg (by have := hs.lt; omega) (fun k e => by have := (hr k e).1; omega))
theorem Inv.alloc {A : Nat} {w p : Int} {W : World} {sv : Value} {X : World} (h : Inv A w p W sv X) (o : Obj) : Inv A w p W sv (X.alloc o) :=
 h.heap (fun k _ hk => Below.heap_alloc _ _ _ (by have := h.lt; omega)) (h.bel.trans ((Below.refl A X).alloc (by have := h.lt; omega) o))
theorem Inv.call {A : Nat} {w p : Int} {W : World} {sv : Value} {X Y : World} (h : Inv A w p W sv X) (hB : Below X.heap.size X Y) : Inv A w p W sv Y :=
 h.heap (fun k _ hk => hB.block k (by have := h.lt; omega)) (h.bel.trans (hB.mono (by have := h.lt; omega)))
set_option maxRecDepth 100000 in
set_option maxHeartbeats 4000000 in
theorem Ydx (v : List (den E)) (hv : v.length ≤ 1000000) (hok : v.all okB = true) (sv : Value) (w p : Int) (ad : Option Addr) (cap : Nat) (hsv : sv = .slice ad v.length cap) (W : World) (hI : Rts W.heap.size W sv v) :
  CallsIn Fence.wide 3 Tryz.prog 74 #[sv, .int .i64 w, .int .i64 p] W fun e W' => e = .returned (.tuple #[rv (B6 w p v.reverse).1, .bool (B6 w p v.reverse).2]) ∧ Below W.heap.size W W' := by
 subst hsv
 have h1 : 1 ≤ 3 := by omega
 refine callsIn_of_wp_marks Tryz.func74 rfl trivial ?_ rfl
 simp only [Tryz.ntmps74, List.size_toArray, List.length_cons, List.length_nil, Nat.reduceAdd, Nat.reduceSub, Array.replicate_succ, Array.replicate_zero, List.push_toArray, List.append_toArray, List.nil_append, List.cons_append]
 gi_wp2
 refine ⟨trivial, (mk Fence.wide 2 trivial rfl _ _ _ _).mono ?_⟩
 rintro e w' ⟨rfl, rfl⟩
 dsimp only
 gi_wp2
 have hIw := hI
 obtain ⟨w1, hw1⟩ : ∃ w1, (((((W.alloc (Obj.cells #[Value.int IntKind.i64 w] 3)).alloc (Obj.cells #[Value.int IntKind.i64 p] 3)).alloc (Obj.cells #[Value.int IntKind.i64 0, Value.int IntKind.i64 0, Value.int IntKind.i64 0, Value.int IntKind.i64 0] 114)).alloc (Obj.cells #[Value.bool false] 4)).alloc (Obj.cells #[Value.slice ad v.length cap] 50)) = w1 := ⟨_, rfl⟩
 have b0 := Boxed.new W 3 (.int .i64 w)
 have b1 := Boxed.new (W.alloc (Obj.cells #[Value.int IntKind.i64 w] 3)) 3 (.int .i64 p)
 have b2 : Row4 (((W.alloc (Obj.cells #[Value.int IntKind.i64 w] 3)).alloc (Obj.cells #[Value.int IntKind.i64 p] 3)).alloc (Obj.cells #[Value.int IntKind.i64 0, Value.int IntKind.i64 0, Value.int IntKind.i64 0, Value.int IntKind.i64 0] 114)) _ zr := World.alloc_heap_new _ _
 have b3 := Boxed.new (((W.alloc (Obj.cells #[Value.int IntKind.i64 w] 3)).alloc (Obj.cells #[Value.int IntKind.i64 p] 3)).alloc (Obj.cells #[Value.int IntKind.i64 0, Value.int IntKind.i64 0, Value.int IntKind.i64 0, Value.int IntKind.i64 0] 114)) 4 (.bool false)
 have b4 := Boxed.new ((((W.alloc (Obj.cells #[Value.int IntKind.i64 w] 3)).alloc (Obj.cells #[Value.int IntKind.i64 p] 3)).alloc (Obj.cells #[Value.int IntKind.i64 0, Value.int IntKind.i64 0, Value.int IntKind.i64 0, Value.int IntKind.i64 0] 114)).alloc (Obj.cells #[Value.bool false] 4)) 50 (.slice ad v.length cap)
 simp only [World.size_alloc] at b1 b2 b3 b4
 have hB0 : Below W.heap.size W w1 := by
  rw [← hw1]
  exact ((((((Below.refl _ W).alloc (Nat.le_refl _) _).alloc (by simp) _).alloc (by simp; omega) _).alloc (by simp; omega) _).alloc (by simp; omega) _)
 have hs1 : w1.heap.size = W.heap.size + 5 := by rw [← hw1]; simp
 have c0 := (((b0.alloc (Obj.cells #[Value.int IntKind.i64 p] 3)).alloc (Obj.cells #[Value.int IntKind.i64 0, Value.int IntKind.i64 0, Value.int IntKind.i64 0, Value.int IntKind.i64 0] 114)).alloc (Obj.cells #[Value.bool false] 4)).alloc (Obj.cells #[Value.slice ad v.length cap] 50)
 have c1 := ((b1.alloc (Obj.cells #[Value.int IntKind.i64 0, Value.int IntKind.i64 0, Value.int IntKind.i64 0, Value.int IntKind.i64 0] 114)).alloc (Obj.cells #[Value.bool false] 4)).alloc (Obj.cells #[Value.slice ad v.length cap] 50)
 have c3 := b3.alloc (Obj.cells #[Value.slice ad v.length cap] 50)
 have c2 : Row4 w1 (W.heap.size + 1 + 1) zr := by
  rw [← hw1]
  exact (Below.heap_alloc _ _ _ (by simp)).trans ((Below.heap_alloc _ _ _ (by simp)).trans b2)
 rw [hw1] at c0 c1 c3 b4
 rw [hw1]
 simp only [World.size_alloc]
 clear hw1 b0 b1 b2 b3 hI
 generalize hA : W.heap.size = A at *
 have Pa : ∀ {r : den E} {c : Bool} {D : Nat} {Y : World} {t8 t9 t12 t13 t14 t15 t16 t17 t18 t19 t20 t21 t22 t23 t24 : Value}, B6 w p v.reverse = (r, c) → A + 5 ≤ D → Row4 Y (A + 1 + 1) r → Boxed Y (A + 1 + 1 + 1) 4 (.bool c) → Y.heap[D]? = some (.deferred (some [])) → Below W.heap.size W Y →
   bodyPostM Fence.wide 3 Tryz.prog Tryz.f74 (fun e W' => e = .returned (.tuple #[rv (B6 w p v.reverse).1, .bool (B6 w p v.reverse).2]) ∧ Below W.heap.size W W') .ret
    { tmps := #[.slice ad v.length cap, .int .i64 w, .int .i64 p, undef, .pointer (some ⟨A, 0, none⟩), .pointer (some ⟨A + 1, 0, none⟩), .pointer (some ⟨A + 1 + 1, 0, none⟩), .pointer (some ⟨A + 1 + 1 + 1, 0, none⟩), t8, t9, .slice ad v.length cap, .func (.func 223) #[] #[.pointer (some ⟨A + 1 + 1 + 1 + 1, 0, none⟩)], t12, t13, t14, t15, t16, t17, t18, t19, t20, t21, t22, t23, t24], defers := [{ target := .collected D, args := #[] }] } Y := by
  intro r c D Y t8 t9 t12 t13 t14 t15 t16 t17 t18 t19 t20 t21 t22 t23 t24 hf hD h4 h3 hK hb
  rw [hf]
  refine ⟨by simp, .inl ⟨_, _, rfl, run_takeDeferred hK, ?_⟩⟩
  have r4 : Row4 (Y.putObj D (.deferred none)) (A + 1 + 1) r := (World.putObj_heap_other (by omega)).trans h4
  have r3 : Boxed (Y.putObj D (.deferred none)) (A + 1 + 1 + 1) 4 (.bool c) := (World.putObj_heap_other (by omega)).trans h3
  obtain ⟨q0, q1, q2, q3⟩ := r4.c
  have q4 := r3.cell
  refine ⟨.tuple #[rv r, .bool c], ?_, rfl, hb.trans (belowK_b (w := W) (Nat.le_refl _) Y D _ _ (by omega) hK rfl rfl)⟩
  simp [results, Tryz.f74, go_sem, q0, q1, q2, q3, q4, rv]
 refine wpIn_rangeFunc_ownH rfl h1 (gf := 223) (lb := #[.pointer (some ⟨A + 1 + 1 + 1 + 1, 0, none⟩)]) rfl trivial (enters_of Tryz.func223 (by kernel_rfl) rfl)
  (stops Fence.wide 2 trivial rfl (by omega) (A + 1 + 1 + 1 + 1) A (.slice ad v.length cap) v hok hv w1 (by omega) (by omega) b4.cell (hIw.below hB0)) KP.t (KP.b (by omega) (by omega)) (Below.refl _ _) (fun _ => rfl)
  (fun pre X => (∀ x ∈ pre, (decide ((x.1.2.2.1 : Int) < p) && Vm w x.1.2) = false) ∧ Inv A w p W (.slice ad v.length cap) X)
  (fun c pre X => c = .ret ∧ ∃ ini last, pre = ini ++ [last] ∧ (∀ x ∈ ini, (decide ((x.1.2.2.1 : Int) < p) && Vm w x.1.2) = false) ∧ (decide ((last.1.2.2.1 : Int) < p) && Vm w last.1.2) = true ∧ Row4 X (A + 1 + 1) last.1.2 ∧ Boxed X (A + 1 + 1 + 1) 4 (.bool true) ∧ Below A W X)
  ?ownI ?ownX ?h0
  (fun x a' X => ∃ R, A + 5 ≤ R ∧ Row4 X R x.1.2 ∧ a' = { tmps := #[.slice ad v.length cap, .int .i64 w, .int .i64 p, undef, .pointer (some ⟨A, 0, none⟩), .pointer (some ⟨A + 1, 0, none⟩), .pointer (some ⟨A + 1 + 1, 0, none⟩), .pointer (some ⟨A + 1 + 1 + 1, 0, none⟩), undef, .pointer (some ⟨R, 0, none⟩), .slice ad v.length cap, .func (.func 223) #[] #[.pointer (some ⟨A + 1 + 1 + 1 + 1, 0, none⟩)], .int .i64 (x.1.1 : Int), rv x.1.2, undef, undef, undef, undef, undef, undef, undef, undef, undef, undef, undef], defers := [] }) ?ownA ?assign ?body ?done ?stop
 case ownI => exact OwnFrom.and (ownFrom_pure _ _) (Inv.own (by omega) _ (by omega))
 case ownX =>
  intro c s X Y row ⟨h0, ini, last, h1, h2, h3, h4, h5, h6⟩ hg hr
  have l4 := h4.lt
  have l5 := h5.lt
  exact ⟨h0, ini, last, h1, h2, h3, (hg.block _ l4 (fun e => by have := (hr _ e.symm).1; omega)).trans h4, (hg.block _ l5 (fun e => by have := (hr _ e.symm).1; omega)).trans h5, h6.grown hg (by omega) (fun k e => by have := (hr k e).1; omega)⟩
 case h0 => exact ⟨by simp, c0, c1, ⟨_, c2⟩, ⟨_, c3⟩, b4, hB0⟩
 case ownA =>
  intro x a' s X Y row ⟨R, h1, h2, h3⟩ hg hr
  have l2 := h2.lt
  refine ⟨R, h1, (hg.block _ l2 (fun e => ?_)).trans h2, h3⟩
  obtain ⟨_, o, h4, h5⟩ := hr _ e.symm
  rw [show X.heap[R]? = _ from h2] at h4
  cases h4; cases h5
 case assign =>
  intro l pre x X K ⟨hX0, hX⟩ hK
  simp only [rv]
  gi_wp2
  have hl := hX.lt
  refine hK _ _ (KeepsFrom.of_grownBy (World.grownBy_alloc X _ none) (fun j e => by cases e)) ⟨(Below.refl A X).alloc (by omega) _, ?_⟩ ⟨hX0, hX.alloc _⟩ ⟨X.heap.size, hl, World.alloc_heap_new X _, rfl⟩
  rw [(hX.alloc _).b4.cell, hX.b4.cell]
 case body =>
  rintro l pre x a' X hl hr ⟨i0, hX⟩ ⟨R, hR, hRr, rfl⟩ hlen
  obtain ⟨d0, d1, d2, d3⟩ := hRr.c
  have k1 := hX.b0.cell
  have k2 := hX.b1.cell
  have hlX := hX.lt
  have hRX := hRr.lt
  have stay : ∀ {Y : World} (a' : Act), Below X.heap.size X Y → (decide ((x.1.2.2.1 : Int) < p) && Vm w x.1.2) = false → ownPostG w1.heap.size (KP A (A + 1 + 1 + 1 + 1)) (fun pre X => (∀ x ∈ pre, (decide ((x.1.2.2.1 : Int) < p) && Vm w x.1.2) = false) ∧ Inv A w p W (.slice ad v.length cap) X) (fun c pre X => c = .ret ∧ ∃ ini last, pre = ini ++ [last] ∧ (∀ x ∈ ini, (decide ((x.1.2.2.1 : Int) < p) && Vm w x.1.2) = false) ∧ (decide ((last.1.2.2.1 : Int) < p) && Vm w last.1.2) = true ∧ Row4 X (A + 1 + 1) last.1.2 ∧ Boxed X (A + 1 + 1 + 1) 4 (.bool true) ∧ Below A W X) (pre ++ [x]) X .normal a' Y := fun {Y} a' hB hc =>
   ⟨⟨hB.size, fun k o _ h0 _ => (hB.block k (Array.getElem?_eq_some_iff.1 h0).1).trans h0⟩, ⟨hB.mono (by omega), by rw [(hX.call hB).b4.cell, hX.b4.cell]⟩, fun y hy => (List.mem_append.1 hy).elim (i0 y) (fun e => by rw [List.mem_singleton.1 e]; exact hc), hX.call hB⟩
  simp only [rv]
  gi_wp2
  ·refine ⟨trivial, (Mf _ (.inr ⟨l, rfl⟩) 0 x.1.2 w x.2 X).mono ?_⟩
   rintro e w' ⟨rfl, hB⟩
   dsimp only
   have hRr' : Row4 w' R x.1.2 := (hB.block _ hRX).trans hRr
   obtain ⟨e0, e1, e2, e3⟩ := hRr'.c
   have hX' := hX.call hB
   obtain ⟨r0, hr0⟩ := hX'.b2
   obtain ⟨f0, f1, f2, f3⟩ := hr0.c
   obtain ⟨g0, g1, g2, g3⟩ := hr0.f
   obtain ⟨cb, hcb⟩ := hX'.b3
   have m0 := hcb.cell
   have m1 := hcb.frozen
   cases hf : Vm w x.1.2 with
   | false =>
    gi_wp2
    exact stay _ hB (by rw [hf, Bool.and_false])
   | true =>
    gi_wp2
    rename_i hlt
    have h5 := hr0.set x.1.2
    have nb : ∀ (q : Nat), q ≠ A + 1 + 1 → ((((w'.setCell ⟨A + 1 + 1, 0, none⟩ (.int .i64 x.1.2.1)).setCell ⟨A + 1 + 1, 1, none⟩ (.int .i64 x.1.2.2.1)).setCell ⟨A + 1 + 1, 2, none⟩ (.int .i64 x.1.2.2.2.1)).setCell ⟨A + 1 + 1, 3, none⟩ (.int .i64 x.1.2.2.2.2)).heap[q]? = w'.heap[q]? := fun q hq => by
     rw [Au hq, Au hq, Au hq, Au hq]
    have h6 : Boxed ((((w'.setCell ⟨A + 1 + 1, 0, none⟩ (.int .i64 x.1.2.1)).setCell ⟨A + 1 + 1, 1, none⟩ (.int .i64 x.1.2.2.1)).setCell ⟨A + 1 + 1, 2, none⟩ (.int .i64 x.1.2.2.2.1)).setCell ⟨A + 1 + 1, 3, none⟩ (.int .i64 x.1.2.2.2.2)) (A + 1 + 1 + 1) 4 (.bool cb) := (nb _ (by omega)).trans hcb
    refine ⟨(KeepsFrom.mk hB.size fun k o _ h0 _ => (hB.block k (Array.getElem?_eq_some_iff.1 h0).1).trans h0).trans ((((((KeepsOthers.setCell _ _ _).from _).trans ((KeepsOthers.setCell _ _ _).from _)).trans ((KeepsOthers.setCell _ _ _).from _)).trans ((KeepsOthers.setCell _ _ _).from _)).trans ((KeepsOthers.setCell _ _ _).from _)), rfl, pre, x, rfl, i0, by rw [hf, Bool.and_true]; exact decide_eq_true hlt, ?_, h6.set _, ?_⟩
    ·exact (Au (by omega)).trans h5
    ·exact ((((hX'.bel.setCell (p := ⟨A + 1 + 1, 0, none⟩) (by show A ≤ A + 1 + 1; omega) _).setCell (p := ⟨A + 1 + 1, 1, none⟩) (by show A ≤ A + 1 + 1; omega) _).setCell (p := ⟨A + 1 + 1, 2, none⟩) (by show A ≤ A + 1 + 1; omega) _).setCell (p := ⟨A + 1 + 1, 3, none⟩) (by show A ≤ A + 1 + 1; omega) _).setCell (p := ⟨A + 1 + 1 + 1, 0, none⟩) (by show A ≤ A + 1 + 1 + 1; omega) _
  ·refine ⟨trivial, ?_⟩
   gi_wp2
   rename_i hge
   exact stay _ (Below.refl _ _) (by rw [decide_eq_false (Int.not_lt.2 hge), Bool.false_and])
 case done =>
  rintro D xs X hD rfl ⟨hne, hX⟩ hK
  obtain ⟨r0, hr0⟩ := hX.b2
  obtain ⟨f0, f1, f2, f3⟩ := hr0.c
  obtain ⟨g0, g1, g2, g3⟩ := hr0.f
  obtain ⟨cb, hcb⟩ := hX.b3
  have m0 := hcb.cell
  have m1 := hcb.frozen
  have hfd : B6 w p v.reverse = ((0, 0, 0, 0), false) := V9 w p _ fun r hr => by
   rw [← List.take_length (l := v.reverse), List.length_reverse, ← Xce v hok _ (Nat.le_refl _)] at hr
   obtain ⟨x, hx, rfl⟩ := List.mem_map.1 hr
   exact hne x hx
  gi_wp2
  have nb : ∀ (q : Nat), q ≠ A + 1 + 1 → ((((X.setCell ⟨A + 1 + 1, 0, none⟩ (.int .i64 0)).setCell ⟨A + 1 + 1, 1, none⟩ (.int .i64 0)).setCell ⟨A + 1 + 1, 2, none⟩ (.int .i64 0)).setCell ⟨A + 1 + 1, 3, none⟩ (.int .i64 0)).heap[q]? = X.heap[q]? := fun q hq => by
   rw [Au hq, Au hq, Au hq, Au hq]
  have h6 : Boxed ((((X.setCell ⟨A + 1 + 1, 0, none⟩ (.int .i64 0)).setCell ⟨A + 1 + 1, 1, none⟩ (.int .i64 0)).setCell ⟨A + 1 + 1, 2, none⟩ (.int .i64 0)).setCell ⟨A + 1 + 1, 3, none⟩ (.int .i64 0)) (A + 1 + 1 + 1) 4 (.bool cb) := (nb _ (by omega)).trans hcb
  have h5 := hr0.set zr
  have hbel := ((((hX.bel.setCell (p := ⟨A + 1 + 1, 0, none⟩) (by show A ≤ A + 1 + 1; omega) (.int .i64 0)).setCell (p := ⟨A + 1 + 1, 1, none⟩) (by show A ≤ A + 1 + 1; omega) (.int .i64 0)).setCell (p := ⟨A + 1 + 1, 2, none⟩) (by show A ≤ A + 1 + 1; omega) (.int .i64 0)).setCell (p := ⟨A + 1 + 1, 3, none⟩) (by show A ≤ A + 1 + 1; omega) (.int .i64 0)).setCell (p := ⟨A + 1 + 1 + 1, 0, none⟩) (by show A ≤ A + 1 + 1 + 1; omega) (.bool false)
  exact Pa hfd (by omega) ((Au (by omega)).trans h5) (h6.set _) ((Au (by omega)).trans ((nb D (by omega)).trans hK)) (by rw [hA]; exact hbel)
 case stop =>
  rintro D c pre X hD ⟨k, hk, rfl⟩ ⟨rfl, ini, last, e1, e2, e3, hr4, hb3, hbel⟩ hK
  have hfd : B6 w p v.reverse = (last.1.2, true) := by
   have h2 := Xce v hok k hk
   rw [e1, List.map_append, List.map_singleton] at h2
   have h3 : v.reverse = ini.map (fun x => x.1.2) ++ last.1.2 :: v.reverse.drop k := by
    conv => lhs; rw [← List.take_append_drop k v.reverse, ← h2]
    simp
   rw [h3]
   refine Wh w p _ _ e3 _ fun r hr => ?_
   obtain ⟨x, hx, rfl⟩ := List.mem_map.1 hr
   exact e2 x hx
  gi_wp2
  exact Pa hfd (by omega) hr4 hb3 hK (by rw [hA]; exact hbel)
theorem Xwr {w : World} {S : Nat → Prop} {a b c : Arg} {vals : List Value} {bss : List (List Nat)} (h : ArgsV w S [a, b, c] vals bss) :
  ∃ y iv z bl bi bv, vals = [y, iv, z] ∧ bss = [bl, bi, bv] ∧ ArgV w S a y bl ∧ ArgV w S b iv bi ∧ ArgV w S c z bv := by
 rcases vals with _ | ⟨y, _ | ⟨iv, _ | ⟨z, _ | _⟩⟩⟩ <;> rcases bss with _ | ⟨bl, _ | ⟨bi, _ | ⟨bv, _ | _⟩⟩⟩ <;> simp only [ArgsV, and_false] at h
 exact ⟨_, _, _, _, _, _, rfl, rfl, h.1, h.2.1, h.2.2.1⟩
theorem Yee {w : World} {S : Nat → Prop} {m : Rf.Mode} {x : den E} {u : List Value} {b : List Nat} (h : Rd w S E m x u b) : u = [.int .i64 x.1, .int .i64 x.2.1, .int .i64 x.2.2.1, .int .i64 x.2.2.2] := by
 obtain ⟨_, _, _, _, rfl, rfl, ⟨rfl, rfl⟩, _, _, _, _, rfl, rfl, ⟨rfl, rfl⟩, _, _, _, _, rfl, rfl, ⟨rfl, rfl⟩, ⟨rfl, rfl⟩⟩ := h
 rfl
theorem X8c {w : World} {S : Nat → Prop} {v : List (den E)} {y : Value} {bs : List Nat} (h : Rd w S (.sl E) .ro v [y] bs) (hS : ∀ b, S b → b < w.heap.size) :
  (∃ ad cap, y = .slice ad v.length cap) ∧ Rts w.heap.size w y v ∧ bs = [] := by
 obtain ⟨y', hy, ad, c, rfl, hc, _, hr⟩ := h
 simp only [List.cons.injEq, and_true] at hy
 subst hy
 refine ⟨⟨_, _, rfl⟩, ?_, ?_⟩
 ·cases v with
  | nil => exact .inl ⟨_, _, rfl, rfl⟩
  | cons r0 v =>
   rcases hr with ⟨_, h, _⟩ | ⟨b, o, bss, rfl, hl, _, h2, _, hel⟩
   ·cases h
   ·obtain ⟨_, _, h3⟩ := h2 rfl
    refine .inr ⟨b, o, c, rfl, hc, hS _ (h3 (by simp)), fun i hi => ?_⟩
    obtain ⟨vs, hvl, hcell, hrd⟩ := hel i ((r0 :: v)[i]) (bss[i]'(by omega)) (by simp) (List.getElem?_eq_getElem hi) (List.getElem?_eq_getElem (by omega))
    have he := Yee hrd
    subst he
    rw [List.getElem?_eq_getElem hi, Option.getD_some]
    exact ⟨hcell 0 (by decide), hcell 1 (by decide), hcell 2 (by decide), hcell 3 (by decide)⟩
 ·rcases hr with ⟨_, _, _, h⟩ | ⟨b, o, bss, rfl, hl, _, h2, _, hel⟩
  ·exact h
  ·exact (h2 rfl).1
set_option maxRecDepth 100000 in
theorem con (v : List (den E)) (w p : Int) : Contract Tryz.prog 74 [.one (.l (.s .ro E v)), .one (.l (.v (.int .i64 w))), .one (.l (.v (.int .i64 p)))]
  ⟨to v w p, fun r => (.tup [(true, enc .own E r.1), (false, [.v (.bool r.2)])], [])⟩ := by
 intro W S vals bss hA hnd hown hS _ _ r hr
 obtain ⟨y, iv, z, bl, bi, bv, rfl, rfl, h1, h2, h3⟩ := Xwr hA
 obtain ⟨rfl, rfl⟩ : iv = .int .i64 w ∧ bi = [] := h2
 obtain ⟨rfl, rfl⟩ : z = .int .i64 p ∧ bv = [] := h3
 have hr : to v w p = some r := hr
 unfold to at hr
 cases hk : (v.all okB && decide (v.length ≤ 1000000)) with
 | false => rw [hk] at hr; cases hr
 | true =>
  rw [hk, cond_true, Option.some.injEq] at hr
  simp only [Bool.and_eq_true, decide_eq_true_eq] at hk
  obtain ⟨⟨ad, cap, hy⟩, hI, rfl⟩ := X8c (show Rd W S (.sl E) .ro v [y] bl from h1) hS
  have c := callsIn_wide.1 (Ydx v hk.2 hk.1 y w p ad cap hy W hI)
  rw [hr] at c
  refine c.mono ?_
  rintro e W' ⟨rfl, hB⟩
  refine ⟨_, rfl, ⟨S, [], [], ⟨[rv r.1, .bool r.2], [[], []], rfl, ⟨⟨_, [[], [], [], []], rfl, ⟨⟨rfl, rfl⟩, ⟨rfl, rfl⟩, ⟨rfl, rfl⟩, ⟨rfl, rfl⟩, trivial⟩, rfl⟩, ⟨rfl, rfl⟩, trivial⟩, rfl⟩, trivial, by simp, by simp, fun _ h => h, fun q h => Nat.lt_of_lt_of_le (hS q h) hB.size, fun q h => .inl h, by simp, by simp [resBk, Sz]⟩, hB.size, ⟨hB.os, hB.tape, hB.output⟩, fun q h1 h2 => .inl (hB.block q h1).symm⟩
#print axioms con
end Go.Proofs.YtdmepjjepogddaaGreat.Rt
end

section
namespace Go.Proofs.YtdmepjjepogddaaGreat.De
open Go.RowKit Go.Shelf Go.Lib Go.Proofs
set_option linter.unusedVariables false
set_option linter.unusedSimpArgs false
theorem u100 : Tryz.prog.underlying 100 = some (.slice 196) := by kernel_rfl
abbrev Z : Value := .agg #[.slice none 0 0, .int .i64 0]
theorem Xiz : ∃ i, Tryz.prog.info? 196 = some i ∧ i.zero = some Z ∧ i.size = 2 ∧ i.bytes = 32 := info_parts (by kernel_rfl)
theorem Ye2 (w : World) : (zeroValue 196).run Tryz.prog w = .ok Z w := by
 obtain ⟨i, h1, h2, _⟩ := Xiz
 simp [zeroValue, typeInfo, h1, h2]
abbrev zz : List Value := [.slice none 0 0, .int .i64 0]
theorem Yb6 (w : World) (ty : TypeId) (b o c : Nat) (hc : ∀ j, j < 2 → (w.cell? ⟨b, o + j, none⟩).isSome = true) (hf : ∀ j, j < 2 → w.frozen? ⟨b, o + j, none⟩ = false) :
  (Builtin.clear_ #[100] ty #[.slice (some ⟨b, o, none⟩) 1 c]).run Tryz.prog w = .ok (.tuple #[]) (w.setCells b o zz) := by
 have hst := run_storeCells_cells (P := Tryz.prog) b o zz 0 w (by simpa using hc) (by simpa using hf) (by intro v hv; simp at hv; rcases hv with rfl | rfl <;> rfl)
 simp only [Nat.add_zero] at hst
 have hzc : (Builtin.zeroCells Z.cells 1).toList = zz := by
  simp [Builtin.zeroCells, Value.cells]
  rfl
 simp [Builtin.clear_, run_underlying u100, Ye2, hzc, hst]
set_option maxHeartbeats 4000000 in
set_option maxRecDepth 1000000 in
theorem del1 (b o c : Nat) (w : World) (hc1 : 1 ≤ c) (hc : ∀ j, j < 2 → (w.cell? ⟨b, o + j, none⟩).isSome = true) (hf : ∀ j, j < 2 → w.frozen? ⟨b, o + j, none⟩ = false) :
  Calls Tryz.prog 219 #[.slice (some ⟨b, o, none⟩) 1 c, .int .i64 0, .int .i64 1] w fun e w' => e = .returned (.slice (some ⟨b, o, none⟩) 0 c) ∧ w' = w.drew.setCells b o zz := by
 have Ak : Tryz.prog.follows .mixedOrders = true := by kernel_rfl
 obtain ⟨i0, hi0, hz0, hz1, hz2⟩ := Xiz
 have hcl := fun ty cc => Yb6 w.drew ty b o cc hc hf
 obtain ⟨A, hA⟩ : ∃ A : Addr, (if c = 1 then some (⟨b, o, none⟩ : Addr) else some ⟨b, o + 2, none⟩) = some A := by
  by_cases h : c = 1
  ·exact ⟨_, by rw [if_pos h]⟩
  ·exact ⟨_, by rw [if_neg h]⟩
 go_enter Tryz.func219, Tryz.ntmps219
 go_wp2_with fail
 go_region_law_o (refine step_append_room rfl (.tmp 22) (.tmp 25) 100 rfl 196 i0 2 u100 hi0 hz1 b o 0 c (by simp [Act.eval, Act.put]) A 0 (c - 1) [] (by simp [Act.eval, Act.put]; try exact hA) rfl (by intro j u h; simp at h) (by intro u h; cases h) (by omega) (by intro j h; simp at h) ?_)
 rw [show w.drew.setCells b o [] = w.drew from rfl]
 go_wp2
 go_ret
 exact ⟨rfl, rfl⟩
open Go.Rf
abbrev E : Ty := .pair (.sl (.pair (.int .i64) (.pair (.int .i64) (.pair (.int .i64) (.pair (.int .i64) (.pair (.int .i64) (.pair (.int .i64) (.pair .bool (.pair .bool (.sl (.int .u8))))))))))) (.int .i64)
def del (l : List (den E)) (i j : Int) : Option (List (den E)) := cond (decide (i = 0) && decide (j = 1) && decide (l.length = 1)) (some []) none
theorem L8 {b : Nat} : ∀ {vs : List Value} {o : Nat} {w : World}, BlkOk w b (o + vs.length) →
  (∀ q, q ≠ b → (w.setCells b o vs).heap[q]? = w.heap[q]?) ∧ (∀ n, BlkOk w b n → BlkOk (w.setCells b o vs) b n) ∧
   (∀ p, cellAt (w.setCells b o vs) b p = if o ≤ p ∧ p < o + vs.length then vs[p - o]? else cellAt w b p) ∧ (w.setCells b o vs).heap.size = w.heap.size ∧ Io w (w.setCells b o vs)
 | [], o, w, hb => ⟨fun _ _ => rfl, fun _ h => h, fun p => by rw [if_neg (by simp only [List.length_nil]; omega)]; rfl, rfl, Io.refl _⟩
 | v :: vs, o, w, hb => by
  have hb1 : BlkOk w b (o + 1) := by obtain ⟨cs, te, h2, h3⟩ := hb; exact ⟨cs, te, h2, by simp at h3; omega⟩
  obtain ⟨hq, hblk, hcell, hsz, hio⟩ := L8 (b := b) (vs := vs) (o := o + 1) (w := w.setCell ⟨b, o, none⟩ v)
   (Cn (by obtain ⟨cs, te, h2, h3⟩ := hb; exact ⟨cs, te, h2, by simp at h3; omega⟩))
  refine ⟨fun q hne => (hq q hne).trans (Au hne), fun n hn => hblk n (Cn hn), fun p => ?_, hsz.trans (B8 _ _ _), (show Io w (w.setCell ⟨b, o, none⟩ v) from ⟨rfl, rfl, rfl⟩).trans hio⟩
  rw [World.setCells, hcell p]
  by_cases h2 : o + 1 ≤ p ∧ p < o + 1 + vs.length
  ·rw [if_pos h2, if_pos (by simp; omega)]
   rw [show p - o = (p - (o + 1)) + 1 by omega, List.getElem?_cons_succ]
  ·rw [if_neg h2, Dq hb1 (by omega)]
   by_cases h3 : p = o
   ·subst h3
    simp
   ·rw [if_neg (by simp [h3]), if_neg (by simp; omega)]
theorem Xwr {w : World} {S : Nat → Prop} {a b c : Arg} {vals : List Value} {bss : List (List Nat)} (h : ArgsV w S [a, b, c] vals bss) :
  ∃ y iv z bl bi bv, vals = [y, iv, z] ∧ bss = [bl, bi, bv] ∧ ArgV w S a y bl ∧ ArgV w S b iv bi ∧ ArgV w S c z bv := by
 rcases vals with _ | ⟨y, _ | ⟨iv, _ | ⟨z, _ | _⟩⟩⟩ <;> rcases bss with _ | ⟨bl, _ | ⟨bi, _ | ⟨bv, _ | _⟩⟩⟩ <;> simp only [ArgsV, and_false] at h
 exact ⟨_, _, _, _, _, _, rfl, rfl, h.1, h.2.1, h.2.2.1⟩
theorem Xq8 {w : World} {b n p : Nat} (h : BlkOk w b n) (hp : p < n) : (w.cell? ⟨b, p, none⟩).isSome = true ∧ w.frozen? ⟨b, p, none⟩ = false := by
 obtain ⟨cs, te, h1, h2⟩ := h
 unfold World.cell? World.frozen?
 simp only [h1, Option.isSome_none, Bool.false_eq_true, if_false]
 rw [Array.getElem?_eq_getElem (by omega)]
 exact ⟨rfl, by simp⟩
theorem Pa {w w' : World} {S : Nat → Prop} {l : List (den E)} {y : Value} {b : Nat} {own : List Nat} (hR : Rd w' S (.sl E) .own l [y] [b]) (hb : b ∈ own ∨ w.heap.size ≤ b) (hown : ∀ q ∈ own, ¬ S q) (hS : ∀ q, S q → q < w.heap.size)
  (hsz : w.heap.size ≤ w'.heap.size) (hio : Io w w') (hfr : ∀ q, q < w.heap.size → q ∉ own → w'.heap[q]? = w.heap[q]?) : Post w S [] own w' (.one (.s .own E l), []) y := by
 refine ⟨⟨S, [b], [], hR, trivial, by simp, ?_, fun _ h => h, fun q h => Nat.lt_of_lt_of_le (hS q h) hsz, fun q h => .inl h, ?_, ?_⟩, hsz, hio, fun q h1 h2 => .inl (hfr q h1 h2).symm⟩
 ·intro q hq
  simp only [List.flatten_nil, List.append_nil, List.mem_singleton] at hq
  subst hq
  rcases hb with hb | hb
  ·exact hown _ hb
  ·intro h; have := hS _ h; omega
 ·intro q hq
  simp only [List.flatten_nil, List.append_nil, List.mem_singleton] at hq
  subst hq
  exact hb
 ·intro a ha; simp [resBk, Sz] at ha
theorem con (l : List (den E)) (i j : Int) : Contract Tryz.prog 219 [.one (.l (.s .sown E l)), .one (.l (.v (.int .i64 i))), .one (.l (.v (.int .i64 j)))] ⟨del l i j, fun r => (.one (.s .own E r), [])⟩ := by
 intro w S vals bss hA hnd hown hS _ _ r hr
 obtain ⟨y, iv, jv, bl, bi, bj, rfl, rfl, h1, h2, h3⟩ := Xwr hA
 obtain ⟨rfl, rfl⟩ : iv = .int .i64 i ∧ bi = [] := h2
 obtain ⟨rfl, rfl⟩ : jv = .int .i64 j ∧ bj = [] := h3
 have hr : del l i j = some r := hr
 unfold del at hr
 cases hk : (decide (i = 0) && decide (j = 1) && decide (l.length = 1)) with
 | false => rw [hk] at hr; cases hr
 | true =>
  rw [hk, cond_true, Option.some.injEq] at hr
  simp only [Bool.and_eq_true, decide_eq_true_eq] at hk
  obtain ⟨⟨rfl, rfl⟩, hl⟩ := hk
  subst hr
  obtain ⟨y', hy, ad, c, rfl, hlc, _, hh⟩ := (h1 : Rd w S (.sl E) .sown l [y] bl)
  obtain rfl : y = .slice ad l.length c := by simpa using hy
  rcases hh with ⟨_, e, _⟩ | ⟨b, o, bs', rfl, _, hb, _⟩
  ·rw [e] at hl; cases hl
  ·obtain ⟨rfl, hblk⟩ := hb rfl
   have hblk : BlkOk w b (o + c * 2) := hblk
   rw [hl] at hlc ⊢
   have hc : ∀ t, t < 2 → (w.cell? ⟨b, o + t, none⟩).isSome = true ∧ w.frozen? ⟨b, o + t, none⟩ = false := fun t ht => Xq8 hblk (by omega)
   have hd0 : BlkOk w.drew b (o + c * 2) := hblk
   obtain ⟨q1, b1, c1, s1, io1⟩ := L8 (vs := zz) (o := o) (w := w.drew) (b := b) (by obtain ⟨p1, p2, p3, p4⟩ := hd0; exact ⟨p1, p2, p3, by show o + 2 ≤ _; omega⟩)
   refine (del1 b o c w hlc (fun t ht => (hc t ht).1) (fun t ht => (hc t ht).2)).mono ?_
   rintro e w' ⟨rfl, rfl⟩
   refine ⟨_, rfl, ?_⟩
   have hin : b ∈ [b :: bs'.flatten, [], []].flatten := by simp
   have hR : Rd (w.drew.setCells b o zz) S (.sl E) .own [] [.slice (some ⟨b, o, none⟩) 0 c] [b] :=
    ⟨_, rfl, some ⟨b, o, none⟩, c, rfl, Nat.zero_le _, (by intro h; cases h), .inr ⟨b, o, [], rfl, rfl, fun _ => ⟨rfl, b1 _ hd0⟩, (by intro h; cases h), (by intro i h; cases h), (by intro i x b' _ hx; simp at hx)⟩⟩
   exact Pa hR (.inl hin) hown hS (by rw [s1]; exact Nat.le_refl _) ((show Io w w.drew from ⟨rfl, rfl, rfl⟩).trans io1) (fun q h1 h2 => q1 q (fun e => h2 (by rw [e]; exact hin)))
#print axioms con
end Go.Proofs.YtdmepjjepogddaaGreat.De
end

section
set_option linter.unusedVariables false
set_option linter.unusedSimpArgs false
namespace Go.Proofs.YtdmepjjepogddaaGreat.Gn
open Go.Rf IntKind
noncomputable section
abbrev Ci : Ty := (.pair (.int .i64) (.pair (.int .i64) (.pair (.int .i64) (.int .i64))))
abbrev Bd : Ty := (.pair (.int .i64) (.pair (.int .i64) (.pair (.int .i64) (.sl (.int .u8)))))
abbrev sta : Ty := (.pair (.int .i64) (.sl Ci))
abbrev Ay : Ty := (.pair (.int .i64) (.sl Bd))
abbrev Ai : Ty := (.pair (.int .i64) (.pair (.int .i64) (.pair (.int .i64) (.pair (.int .i64) (.pair (.int .i64) (.pair (.int .i64) (.pair .bool (.pair .bool (.sl (.int .u8))))))))))
abbrev A3 : Ty := (.pair (.sl Ai) (.int .i64))
abbrev Sd : Ty := (.pair (.int .i64) (.pair (.int .i64) (.sl Ai)))
abbrev Dg : Ty := (.pair (.sl Ai) A3)
abbrev Aa : Type := List (den (.int .u8))
abbrev Cm : Type := List (den Bd)
abbrev Ab : Type := List (den Ay)
abbrev A5 : Type := List (den Ci)
abbrev An : Type := List (den sta)
abbrev Aq : Type := List (den Ai)
abbrev Al : Type := List (den A3)
abbrev Bn : Type := List (den (.int .i64))
abbrev Ga : Type := List (den (.sl (.int .u8)))
abbrev Cp : Type := List (den (.pair (.int .i64) Ai))
abbrev Tm : MT := .pair (.sl .ro (.int .u8)) mI
abbrev O2 : MT := .pair mI (.sl .ro (.int .u8))
abbrev m_3 : MT := .pair mI (.sl .own (.int .u8))
abbrev m_4 : MT := .pair mB (.sl .ro (.int .u8))
abbrev m_5 : MT := .pair mI (.pair mI (.pair mB m_4))
abbrev Dd : MT := .pair mI (.pair mI (.pair mI m_5))
abbrev m_7 : MT := .pair mI (.pair mI (.pair mI mI))
abbrev m_8 : MT := .pair mB (.sl .own (.int .u8))
abbrev m_9 : MT := .pair mI (.pair mI (.pair mB m_8))
abbrev M5 : MT := .pair mI (.pair mI (.pair mI m_9))
abbrev Xst : MT := .pair mI (.pair mI (.sl .own Ai))
abbrev L0 : MT := .pair (.sl .own Ai) (.pair (.sl .own Ai) mI)
abbrev m_13 : MT := .pair (.sl .ro Ai) (.pair (.sl .ro Ai) mI)
abbrev Xs1 : MT := .pair (.sl .sown Ai) (.pair (.sl .sown Ai) mI)
abbrev X1p : MT := .pair mI (.pair mI (.sl .sown Ai))
abbrev u_0 {β : Type} (e : (Aa × Int)) (f : Aa → Int → β) : β := f e.1 e.2
abbrev Ek {β : Type} (e : (den Bd)) (f : Int → Int → Int → Aa → β) : β := f e.1 e.2.1 e.2.2.1 e.2.2.2
abbrev Az {β : Type} (e : (den Ai)) (f : Int → Int → Int → Int → Int → Int → Bool → Bool → Aa → β) : β := f e.1 e.2.1 e.2.2.1 e.2.2.2.1 e.2.2.2.2.1 e.2.2.2.2.2.1 e.2.2.2.2.2.2.1 e.2.2.2.2.2.2.2.1 e.2.2.2.2.2.2.2.2
abbrev C7 {β : Type} (e : (den Ci)) (f : Int → Int → Int → Int → β) : β := f e.1 e.2.1 e.2.2.1 e.2.2.2
abbrev u_4 {β : Type} (e : (Int × (Int × Aa))) (f : Int → Int → Aa → β) : β := f e.1 e.2.1 e.2.2
abbrev Bm {β : Type} (e : (den A3)) (f : Aq → Int → β) : β := f e.1 e.2
def tyT : List (Nat × TyI) := [(3, ⟨(.int .i64), false, 0⟩), (4, ⟨.bool, false, 0⟩), (5, ⟨(.int .u8), false, 0⟩), (9, ⟨.str, false, 0⟩), (23, ⟨(.sl (.int .u8)), false, 1⟩), (27, ⟨(.sl sta), false, 32⟩), (40, ⟨(.sl Ay), false, 32⟩), (42, ⟨Bd, true, 0⟩), (50, ⟨(.sl Ci), false, 32⟩), (52, ⟨sta, true, 0⟩), (56, ⟨Ai, true, 0⟩), (96, ⟨(.sl Ai), false, 80⟩), (98, ⟨Dg, true, 0⟩), (100, ⟨(.sl A3), false, 32⟩), (114, ⟨Ci, true, 0⟩), (121, ⟨(.sl Bd), false, 48⟩), (123, ⟨Ay, true, 0⟩), (158, ⟨(.sl (.sl (.int .u8))), false, 24⟩), (190, ⟨(.sl (.int .i64)), false, 8⟩), (192, ⟨Sd, true, 0⟩), (196, ⟨A3, true, 0⟩), (207, ⟨(.pair (.sl (.int .u8)) (.int .i64)), true, 0⟩), (224, ⟨(.int .u64), false, 0⟩), (268, ⟨(.pair (.int .i64) Ai), true, 0⟩), (269, ⟨(.sl (.pair (.int .i64) Ai)), false, 88⟩), (346, ⟨(.pair (.int .i64) (.pair (.int .i64) (.sl (.int .u8)))), true, 0⟩)]
def Xhj : Xnr := [(42, [(0, 1, false), (1, 1, false), (2, 1, false), (3, 1, false)]), (52, [(0, 1, false), (1, 1, false)]), (56, [(0, 1, false), (1, 1, false), (2, 1, false), (3, 1, false), (4, 1, false), (5, 1, false), (6, 1, false), (7, 1, false), (8, 1, false)]), (98, [(0, 1, false), (1, 1, false), (2, 1, false)]), (114, [(0, 1, false), (1, 1, false), (2, 1, false), (3, 1, false)]), (123, [(0, 1, false), (1, 1, false)]), (192, [(0, 1, false), (1, 1, false), (2, 1, false)]), (196, [(0, 1, false), (1, 1, false)]), (207, [(0, 1, false), (1, 1, false)]), (268, [(0, 1, false), (1, 9, true)]), (346, [(0, 1, false), (1, 1, false), (2, 1, false)])]
def eqT : List Nat := []
def Bc (tab : Tab) (hint : Nat → Hint) (rm : Rf.Mode) (pins : List (Bool × Nat)) (k : Nat) : Env :=
 { tab := tab, lend := (fun f => cond (Nat.beq f 151) [true] (cond (Nat.beq f 150) [true] (cond (Nat.beq f 219) [true] (cond (Nat.beq f 276) [true] (cond (Nat.beq f 211) [true] (cond (Nat.beq f 271) [true] (cond (Nat.beq f 163) [true] (cond (Nat.beq f 197) [true] (cond (Nat.beq f 266) [true] ([])))))))))), lent := (fun f => cond (Nat.beq f 100) [true] (cond (Nat.beq f 41) [true] (cond (Nat.beq f 40) [true] (cond (Nat.beq f 215) [true] (cond (Nat.beq f 68) [true] (cond (Nat.beq f 20) [true] (cond (Nat.beq f 19) [true] ([])))))))), pins := pins, ty := asc tyT, fld := Nl Xhj, pw := fun _ => none, cw := fun _ => [], hint := hint, eqt := Ce eqT, rm := rm, fuel := k, itr := [(164, 229, (.int .u8))] }
theorem tyOk : AllT (TyOk Tryz.prog) tyT :=
 ⟨.ofInt (b := 8) (by kernel_rfl) (by kernel_rfl), .ofBool (b := 1) (by kernel_rfl) (by kernel_rfl), .ofInt (b := 1) (by kernel_rfl) (by kernel_rfl), .ofStr (b := 16) (by kernel_rfl) (by kernel_rfl), .ofSl (te := 5) (b := 24) (by kernel_rfl) (by kernel_rfl) (by kernel_rfl) (fun _ h => by cases h; kernel_rfl), .ofSl (te := 52) (b := 24) (by kernel_rfl) (by kernel_rfl) (by kernel_rfl) nofun, .ofSl (te := 123) (b := 24) (by kernel_rfl) (by kernel_rfl) (by kernel_rfl) nofun, .ofAgg (b := 48) (by kernel_rfl) (by kernel_rfl), .ofSl (te := 114) (b := 24) (by kernel_rfl) (by kernel_rfl) (by kernel_rfl) nofun, .ofAgg (b := 32) (by kernel_rfl) (by kernel_rfl), .ofAgg (b := 80) (by kernel_rfl) (by kernel_rfl), .ofSl (te := 56) (b := 24) (by kernel_rfl) (by kernel_rfl) (by kernel_rfl) nofun, .ofAgg (b := 56) (by kernel_rfl) (by kernel_rfl), .ofSl (te := 196) (b := 24) (by kernel_rfl) (by kernel_rfl) (by kernel_rfl) nofun, .ofAgg (b := 32) (by kernel_rfl) (by kernel_rfl), .ofSl (te := 42) (b := 24) (by kernel_rfl) (by kernel_rfl) (by kernel_rfl) nofun, .ofAgg (b := 32) (by kernel_rfl) (by kernel_rfl), .ofSl (te := 23) (b := 24) (by kernel_rfl) (by kernel_rfl) (by kernel_rfl) nofun, .ofSl (te := 3) (b := 24) (by kernel_rfl) (by kernel_rfl) (by kernel_rfl) (fun _ h => by cases h; kernel_rfl), .ofAgg (b := 40) (by kernel_rfl) (by kernel_rfl), .ofAgg (b := 32) (by kernel_rfl) (by kernel_rfl), .ofAgg (b := 32) (by kernel_rfl) (by kernel_rfl), .ofInt (b := 8) (by kernel_rfl) (by kernel_rfl), .ofAgg (b := 88) (by kernel_rfl) (by kernel_rfl), .ofSl (te := 268) (b := 24) (by kernel_rfl) (by kernel_rfl) (by kernel_rfl) nofun, .ofAgg (b := 40) (by kernel_rfl) (by kernel_rfl), trivial⟩
theorem fldOk : AllF Tryz.prog Xhj :=
 ⟨⟨⟨by kernel_rfl, by kernel_rfl⟩, ⟨by kernel_rfl, by kernel_rfl⟩, ⟨by kernel_rfl, by kernel_rfl⟩, ⟨by kernel_rfl, by kernel_rfl⟩, trivial⟩, ⟨⟨by kernel_rfl, by kernel_rfl⟩, ⟨by kernel_rfl, by kernel_rfl⟩, trivial⟩, ⟨⟨by kernel_rfl, by kernel_rfl⟩, ⟨by kernel_rfl, by kernel_rfl⟩, ⟨by kernel_rfl, by kernel_rfl⟩, ⟨by kernel_rfl, by kernel_rfl⟩, ⟨by kernel_rfl, by kernel_rfl⟩, ⟨by kernel_rfl, by kernel_rfl⟩, ⟨by kernel_rfl, by kernel_rfl⟩, ⟨by kernel_rfl, by kernel_rfl⟩, ⟨by kernel_rfl, by kernel_rfl⟩, trivial⟩, ⟨⟨by kernel_rfl, by kernel_rfl⟩, ⟨by kernel_rfl, by kernel_rfl⟩, ⟨by kernel_rfl, by kernel_rfl⟩, trivial⟩, ⟨⟨by kernel_rfl, by kernel_rfl⟩, ⟨by kernel_rfl, by kernel_rfl⟩, ⟨by kernel_rfl, by kernel_rfl⟩, ⟨by kernel_rfl, by kernel_rfl⟩, trivial⟩, ⟨⟨by kernel_rfl, by kernel_rfl⟩, ⟨by kernel_rfl, by kernel_rfl⟩, trivial⟩, ⟨⟨by kernel_rfl, by kernel_rfl⟩, ⟨by kernel_rfl, by kernel_rfl⟩, ⟨by kernel_rfl, by kernel_rfl⟩, trivial⟩, ⟨⟨by kernel_rfl, by kernel_rfl⟩, ⟨by kernel_rfl, by kernel_rfl⟩, trivial⟩, ⟨⟨by kernel_rfl, by kernel_rfl⟩, ⟨by kernel_rfl, by kernel_rfl⟩, trivial⟩, ⟨⟨by kernel_rfl, by kernel_rfl⟩, ⟨by kernel_rfl, by kernel_rfl⟩, trivial⟩, ⟨⟨by kernel_rfl, by kernel_rfl⟩, ⟨by kernel_rfl, by kernel_rfl⟩, ⟨by kernel_rfl, by kernel_rfl⟩, trivial⟩, trivial⟩
theorem Ak : Tryz.prog.follows .mixedOrders = true := by kernel_rfl
theorem bldOk : AllT (fun t i => i.agg = true → BldOk Tryz.prog t (Nl Xhj t)) tyT :=
 ⟨nofun, nofun, nofun, nofun, nofun, nofun, nofun, fun _ => Ef (row := [(0, 1, false), (1, 1, false), (2, 1, false), (3, 1, false)]) rfl (by kernel_rfl) (by kernel_rfl), nofun, fun _ => Ef (row := [(0, 1, false), (1, 1, false)]) rfl (by kernel_rfl) (by kernel_rfl), fun _ => Ef (row := [(0, 1, false), (1, 1, false), (2, 1, false), (3, 1, false), (4, 1, false), (5, 1, false), (6, 1, false), (7, 1, false), (8, 1, false)]) rfl (by kernel_rfl) (by kernel_rfl), nofun, fun _ => Ef (row := [(0, 1, false), (1, 1, false), (2, 1, false)]) rfl (by kernel_rfl) (by kernel_rfl), nofun, fun _ => Ef (row := [(0, 1, false), (1, 1, false), (2, 1, false), (3, 1, false)]) rfl (by kernel_rfl) (by kernel_rfl), nofun, fun _ => Ef (row := [(0, 1, false), (1, 1, false)]) rfl (by kernel_rfl) (by kernel_rfl), nofun, nofun, fun _ => Ef (row := [(0, 1, false), (1, 1, false), (2, 1, false)]) rfl (by kernel_rfl) (by kernel_rfl), fun _ => Ef (row := [(0, 1, false), (1, 1, false)]) rfl (by kernel_rfl) (by kernel_rfl), fun _ => Ef (row := [(0, 1, false), (1, 1, false)]) rfl (by kernel_rfl) (by kernel_rfl), nofun, fun _ => Ef (row := [(0, 1, false), (1, 9, true)]) rfl (by kernel_rfl) (by kernel_rfl), nofun, fun _ => Ef (row := [(0, 1, false), (1, 1, false), (2, 1, false)]) rfl (by kernel_rfl) (by kernel_rfl), trivial⟩
theorem eqOkT : AllT (fun t i => Ce eqT t = true → EqOk Tryz.prog t i.ty) tyT :=
 ⟨fun h => absurd h (by decide), fun h => absurd h (by decide), fun h => absurd h (by decide), fun h => absurd h (by decide), fun h => absurd h (by decide), fun h => absurd h (by decide), fun h => absurd h (by decide), fun h => absurd h (by decide), fun h => absurd h (by decide), fun h => absurd h (by decide), fun h => absurd h (by decide), fun h => absurd h (by decide), fun h => absurd h (by decide), fun h => absurd h (by decide), fun h => absurd h (by decide), fun h => absurd h (by decide), fun h => absurd h (by decide), fun h => absurd h (by decide), fun h => absurd h (by decide), fun h => absurd h (by decide), fun h => absurd h (by decide), fun h => absurd h (by decide), fun h => absurd h (by decide), fun h => absurd h (by decide), fun h => absurd h (by decide), fun h => absurd h (by decide), trivial⟩
theorem Xpu (tab : Tab) (hint : Nat → Hint) (rm : Rf.Mode) (pins : List (Bool × Nat)) (k : Nat) : TysOk Tryz.prog (Bc tab hint rm pins k) :=
 ⟨fun t i h => tyOk.get h, fun s f z h => fldOk.get h, fun t i h => bldOk.get h, fun t i h h2 => eqOkT.get h2 h, fun z hz => by obtain rfl := List.mem_singleton.1 hz; exact ⟨It.mkOk, It.itOk⟩⟩
theorem Am {tab : Tab} (h : TabFn Tryz.prog tab) (hint : Nat → Hint) (rm : Rf.Mode) (pins : List (Bool × Nat)) (k : Nat) : EnvOk Tryz.prog (Bc tab hint rm pins k) := EnvOk.of (Xpu tab hint rm pins k) h
theorem Qh (frz : List Nat) {tab : Tab} (h : TabFn Tryz.prog tab) (hint : Nat → Hint) (rm : Rf.Mode) (pins : List (Bool × Nat)) (k : Nat) : EnvOk Tryz.prog { Bc tab hint rm pins k with frz := frz } :=
 have e := Am h hint rm pins k; ⟨e.ty, e.fld, e.bld, e.eq, e.tab, e.fn, e.itr⟩
def Bx : Tab := fun _ _ => none
def Ao : Nat → Hint := fun _ => ⟨[], []⟩
end
end Go.Proofs.YtdmepjjepogddaaGreat.Gn
end

section
set_option linter.unusedVariables false
set_option linter.unusedSimpArgs false
namespace Go.Proofs.YtdmepjjepogddaaGreat.Gn
open Go.Rf IntKind
noncomputable section
abbrev Ydm (k : Nat) : Env := Bc Bx Ao .own [] k
abbrev X3c : List PA := [.one (.sl .ro (.int .u8))]
abbrev F69_O : RO := ⟨[.ptr 2], [Tm]⟩
def Xj4 {β : Type} (RET : (Aa × Int) → Option β) (k : Nat) (v : Aa) : Option β := cond (decide ((v.length : Int) > 2000)) (cond (decide (0 ≤ 2000) && decide (2000 ≤ (v.length : Int))) (RET (v.take 2000, 0)) none) (RET (v, 0))
def F69 := Xj4 (β := (Aa × Int)) some
theorem X9k {β : Type} (k : Nat) (v : Aa) (K : KT β) : Aj (Ydm k) Tryz.f69 (PsT.put X3c (v, ())) K = (F69 k v).bind fun r => K (F69_O.put r) :=
 Eq.trans (b := Xj4 (fun r => K (F69_O.put r)) k v) (by kernel_rfl) (by simp only [F69, Xj4, z1, z2, z3, z4, z5, z6, z7, z8])
def X2f (k : Nat) : FD := ⟨69, X3c, F69_O, F69 k⟩
theorem Yfa (k : Nat) : (X2f k).Ok Tryz.prog := ⟨fun x => Ac (Am .none _ _ _ _) Ak Tryz.func69 rfl rfl (X9k k _ some), .of (by kernel_rfl)⟩
abbrev Yd8 (k : Nat) : Env := Bc Bx Ao .own [(false, 0), (false, 1)] k
abbrev X3w : List PA := [.p Tm, .one mI]
abbrev F71_O : RO := ⟨[.v], [mI, Tm]⟩
def Xkf {β : Type} (RET : (Int × (Aa × Int)) → Option β) (k : Nat) (v : (Aa × Int)) (w : Int) : Option β := u_0 v fun v0 v1 => cond (decide (w < 1)) (RET (0, (v0, i64.wrap (v1 + 1)))) (cond ((v0.length : Int) == 0) (RET (0, (v0, i64.wrap (v1 + 1)))) (cond (decide ((i64.wrap ((i64.wrap (v1 + 1)) - 1)) < (v0.length : Int))) (Ax (i64.wrap ((i64.wrap (v1 + 1)) - 1)) v0 (cond (decide (w = 0)) none (RET (((i64.wrap (Ad v0 (i64.wrap ((i64.wrap (v1 + 1)) - 1)))).tmod w), (v0, i64.wrap (v1 + 1)))))) (cond (decide ((v0.length : Int) = 0)) none (Ax ((i64.wrap ((i64.wrap (v1 + 1)) - 1)).tmod (v0.length : Int)) v0 (cond (decide ((v0.length : Int) = 0)) none (Ax ((i64.wrap ((i64.wrap ((i64.wrap ((i64.wrap (v1 + 1)) - 1)) * 7)) + 3)).tmod (v0.length : Int)) v0 (cond (decide ((v0.length : Int) = 0)) none (cond (decide (w = 0)) none (RET (((Co .xor .i64 (i64.wrap ((i64.wrap ((i64.wrap ((i64.wrap ((i64.wrap (Ad v0 ((i64.wrap ((i64.wrap (v1 + 1)) - 1)).tmod (v0.length : Int)))) * 131)) + (i64.wrap ((i64.wrap (Ad v0 ((i64.wrap ((i64.wrap ((i64.wrap ((i64.wrap (v1 + 1)) - 1)) * 7)) + 3)).tmod (v0.length : Int)))) * 1117)))) + (i64.wrap ((i64.wrap ((i64.wrap (v1 + 1)) - 1)) * 29)))) + (i64.wrap ((i64.wrap ((i64.wrap ((i64.wrap (v1 + 1)) - 1)).tdiv (v0.length : Int))) * 53)))) (i64.wrap ((i64.wrap ((i64.wrap ((i64.wrap ((i64.wrap ((i64.wrap (Ad v0 ((i64.wrap ((i64.wrap (v1 + 1)) - 1)).tmod (v0.length : Int)))) * 131)) + (i64.wrap ((i64.wrap (Ad v0 ((i64.wrap ((i64.wrap ((i64.wrap ((i64.wrap (v1 + 1)) - 1)) * 7)) + 3)).tmod (v0.length : Int)))) * 1117)))) + (i64.wrap ((i64.wrap ((i64.wrap (v1 + 1)) - 1)) * 29)))) + (i64.wrap ((i64.wrap ((i64.wrap ((i64.wrap (v1 + 1)) - 1)).tdiv (v0.length : Int))) * 53)))).tdiv 64))).tmod w), (v0, i64.wrap (v1 + 1))))))))))))
def H7 := Xkf (β := Int × (Aa × Int)) some
theorem X74 {β : Type} (k : Nat) (v : (Aa × Int)) (w : Int) (K : KT β) : Aj (Yd8 k) Tryz.f71 (PsT.put X3w (v, w, ())) K = (H7 k v w).bind fun r => K (F71_O.put r) :=
 Eq.trans (b := Xkf (fun r => K (F71_O.put r)) k v w) (by kernel_rfl) (by simp only [H7, Xkf, z1, z2, z3, z4, z5, z6, z7, z8, u_0])
def T9 (k : Nat) : FD := ⟨71, X3w, F71_O, H7 k⟩
theorem Wk (k : Nat) : (T9 k).Ok Tryz.prog := ⟨fun x => Ac (Am .none _ _ _ _) Ak Tryz.func71 rfl rfl (X74 k _ _ some), .of (by kernel_rfl)⟩
abbrev Yen (k : Nat) : Env := Bc Bx Ao .own [] k
abbrev X2b : List PA := [.one mI, .one mI, .one mI]
abbrev F60_O : RO := ⟨[.v], [mB]⟩
def Hc (k : Nat) (v w p : Int) : Option (Bool) := cond (decide (v ≥ w)) (some (decide (v ≤ p))) (some false)
theorem Yb9 {β : Type} (k : Nat) (v w p : Int) (K : KT β) : Aj (Yen k) Tryz.f60 (PsT.put X2b (v, w, p, ())) K = (Hc k v w p).bind fun r => K (F60_O.put r) :=
 Eq.trans (b := cond (decide (v ≥ w)) (K (F60_O.put (decide (v ≤ p)))) (K (F60_O.put false))) (by kernel_rfl) (by simp only [Hc, z1, z2, z3, z4, z5, z6, z7, z8])
def C9 (k : Nat) : FD := ⟨60, X2b, F60_O, Hc k⟩
theorem Dl (k : Nat) : (C9 k).Ok Tryz.prog := ⟨fun x => Ac (Am .none _ _ _ _) Ak Tryz.func60 rfl rfl (Yb9 k _ _ _ some), .of (by kernel_rfl)⟩
abbrev X79 (k : Nat) : Env := Bc (A0 [C9 k]) Ao .own [] k
abbrev Xqn : List PA := [.agg (.pair mI (.pair mI O2))]
abbrev F152_O : RO := ⟨[.v], [mB]⟩
def Yd {β : Type} (RET : Bool → Option β) (k : Nat) (v : (den Bd)) : Option β := (Hc k v.1 0 65535).bind fun b1 => cond b1 ((Hc k v.2.1 1 255).bind fun b2 => cond b2 ((Hc k v.2.2.1 1 255).bind fun b3 => cond b3 (RET (decide ((v.2.2.2.length : Int) ≤ 40))) (RET false)) (RET false)) (RET false)
def Xb9 := Yd (β := Bool) some
theorem Xzv {β : Type} (k : Nat) (v : (den Bd)) (K : KT β) : Aj (X79 k) Tryz.f152 (PsT.put Xqn (v, ())) K = (Xb9 k v).bind fun r => K (F152_O.put r) :=
 Eq.trans (b := Yd (fun r => K (F152_O.put r)) k v) (by kernel_rfl) (by simp only [Xb9, Yd, z1, z2, z3, z4, z5, z6, z7, z8])
def Xa5 (k : Nat) : FD := ⟨152, Xqn, F152_O, Xb9 k⟩
theorem Xen (k : Nat) : (Xa5 k).Ok Tryz.prog := ⟨fun x => Ac (Am (Ah (.c (Dl k) .n)) _ _ _ _) Ak Tryz.func152 rfl rfl (Xzv k _ some), .of (by kernel_rfl)⟩
def Yd4 : Nat → Hint
 | 0 => ⟨pl 0 1 (pl 3 1 []), []⟩
 | 2 => ⟨pl 0 1 (pl 3 2 []), []⟩
 | _ => ⟨[], []⟩
abbrev Cb (k : Nat) : Env := Bc (A0 [C9 k, Xa5 k]) Yd4 .own [] k
abbrev Xtz : List PA := [.one (.sl .ro Ay)]
abbrev F80_O : RO := ⟨[.v], [mB]⟩
noncomputable def Oh {β : Type} (k : Nat) (v : Ab) (K : KT β) : Ex → St → Option β := Br (Cb k) Tryz.f80 (PsT.put Xtz (v, ())) K
def X6o (v : Ab) (x3_2 x4_2 : Int) : St := ⟨(.one (.s .ro Ay v)) :: (.one .d) :: (.one .d) :: (.one (vI x3_2)) :: (.one (vI x4_2)) :: dz 80 [], []⟩
noncomputable def Nw {β : Type} (k : Nat) (v : Ab) (KK : Ex → St → Option β) (n : Nat) (x3_2 x4_2 : Int) : Option β := A2 (Cb k) Tryz.f80 [1, 0, 1, 0, 0, 1, 0, 0, 1, 1, 0] 2 KK n (X6o v x3_2 x4_2)
def Nv {β : Type} (NX : Int → Int → Option β) (EX0 : (Int × Int × Bool) → Option β) (EX1 : (Int × Int × Bool) → Option β) (EX2 : (Int × Int) → Option β) (k : Nat) (v : Ab) (x3_2 x4_2 : Int) : Option β := Ax x3_2 v (cond (decide (x4_2 < ((Ad v x3_2).2.length : Int))) (Ax x3_2 v (Ax x4_2 (Ad v x3_2).2 ((Xb9 k (Ad (Ad v x3_2).2 x4_2)).bind fun b2 => cond (!b2) (EX0 (x3_2, x4_2, b2)) (Ax x3_2 v (Ax x4_2 (Ad v x3_2).2 (Ax x3_2 v (cond ((Ad (Ad v x3_2).2 x4_2).2.2.1 != (Ad v x3_2).1) (EX1 (x3_2, x4_2, b2)) (NX x3_2 (i64.wrap (x4_2 + 1)))))))))) (EX2 (x3_2, x4_2)))
def J5 (k : Nat) (v : Ab) : Nat → Int → Int → Option ((Sum (Int × Int × Bool) (Sum (Int × Int × Bool) (Int × Int))))
 | 0, _, _ => none
 | n + 1, x3_2, x4_2 => Nv (J5 k v n) (fun y2 => some (.inl y2)) (fun y2 => some (.inr (.inl y2))) (fun y2 => some (.inr (.inr y2))) k v x3_2 x4_2
theorem Xn5 {β : Type} (k : Nat) (v : Ab) (KK : Ex → St → Option β) (n : Nat) : ∀ (x3_2 x4_2 : Int), Nw k v KK n x3_2 x4_2 =
  (J5 k v n x3_2 x4_2).bind fun z => Gz (fun y2 => KK .ret ⟨(.one (.s .ro Ay v)) :: (.one .d) :: (.one (vB false)) :: (.one (vI y2.1)) :: (.one (vI y2.2.1)) :: dz 40 ((.one (vI y2.2.1)) :: (.one (.s .ro Ay v)) :: (.one (vI y2.1)) :: (.one (.ptr (.elem 48000 y2.1.toNat 0) 2 0)) :: (.one (.ptr (.elem 48000 y2.1.toNat 1) 1 0)) :: (.one (.s .ro Bd (Ad v y2.1).2)) :: (.one (vI ((Ad v y2.1).2.length : Int))) :: (.one (vB true)) :: (.one .d) :: (.one .d) :: (.one (.s .ro Ay v)) :: (.one (vI y2.1)) :: (.one (.ptr (.elem 57000 y2.1.toNat 0) 2 0)) :: (.one (.ptr (.elem 57000 y2.1.toNat 1) 1 0)) :: (.one (.s .ro Bd (Ad v y2.1).2)) :: (.one (vI y2.2.1)) :: (.one (.ptr (.elem 61000 y2.2.1.toNat 0) 4 0)) :: (.agg (B0 (.pair mI (.pair mI O2)) (Ad (Ad v y2.1).2 y2.2.1))) :: (.one (vB y2.2.2)) :: (.one (vB (!y2.2.2))) :: (.one (vB true)) :: uz 15 ((.one (vB true)) :: dz 3 [])), [eM 48000 (.s .ro Ay v), eM 57000 (.s .ro Ay v), eM 61000 (.s .ro Bd (Ad v y2.1).2)]⟩) (Gz (fun y2 => KK .ret ⟨(.one (.s .ro Ay v)) :: (.one .d) :: (.one (vB false)) :: (.one (vI y2.1)) :: (.one (vI y2.2.1)) :: dz 40 ((.one (vI y2.2.1)) :: (.one (.s .ro Ay v)) :: (.one (vI y2.1)) :: (.one (.ptr (.elem 48000 y2.1.toNat 0) 2 0)) :: (.one (.ptr (.elem 48000 y2.1.toNat 1) 1 0)) :: (.one (.s .ro Bd (Ad v y2.1).2)) :: (.one (vI ((Ad v y2.1).2.length : Int))) :: (.one (vB true)) :: (.one .d) :: (.one .d) :: (.one (.s .ro Ay v)) :: (.one (vI y2.1)) :: (.one (.ptr (.elem 57000 y2.1.toNat 0) 2 0)) :: (.one (.ptr (.elem 57000 y2.1.toNat 1) 1 0)) :: (.one (.s .ro Bd (Ad v y2.1).2)) :: (.one (vI y2.2.1)) :: (.one (.ptr (.elem 61000 y2.2.1.toNat 0) 4 0)) :: (.agg (B0 (.pair mI (.pair mI O2)) (Ad (Ad v y2.1).2 y2.2.1))) :: (.one (vB y2.2.2)) :: (.one (vB (!y2.2.2))) :: (.one (vB false)) :: (.one (.s .ro Ay v)) :: (.one (vI y2.1)) :: (.one (.ptr (.elem 68000 y2.1.toNat 0) 2 0)) :: (.one (.ptr (.elem 68000 y2.1.toNat 1) 1 0)) :: (.one (.s .ro Bd (Ad v y2.1).2)) :: (.one (vI y2.2.1)) :: (.one (.ptr (.elem 72000 y2.2.1.toNat 0) 4 0)) :: (.one (.ptr (.elem 72000 y2.2.1.toNat 2) 2 0)) :: (.one (vI (Ad (Ad v y2.1).2 y2.2.1).2.2.1)) :: (.one (.s .ro Ay v)) :: (.one (vI y2.1)) :: (.one (.ptr (.elem 77000 y2.1.toNat 0) 2 0)) :: (.one (.ptr (.elem 77000 y2.1.toNat 0) 2 0)) :: (.one (vI (Ad v y2.1).1)) :: (.one (vB ((Ad (Ad v y2.1).2 y2.2.1).2.2.1 != (Ad v y2.1).1))) :: (.one (vB true)) :: dz 3 []), [eM 48000 (.s .ro Ay v), eM 57000 (.s .ro Ay v), eM 61000 (.s .ro Bd (Ad v y2.1).2), eM 68000 (.s .ro Ay v), eM 72000 (.s .ro Bd (Ad v y2.1).2), eM 77000 (.s .ro Ay v)]⟩) (fun y2 => KK (.exit 2) ⟨(.one (.s .ro Ay v)) :: (.one .d) :: (.one .d) :: (.one (vI y2.1)) :: (.one (vI y2.2)) :: dz 40 ((.one (vI y2.2)) :: (.one (.s .ro Ay v)) :: (.one (vI y2.1)) :: (.one (.ptr (.elem 48000 y2.1.toNat 0) 2 0)) :: (.one (.ptr (.elem 48000 y2.1.toNat 1) 1 0)) :: (.one (.s .ro Bd (Ad v y2.1).2)) :: (.one (vI ((Ad v y2.1).2.length : Int))) :: (.one (vB false)) :: dz 32 []), [eM 48000 (.s .ro Ay v)]⟩)) z := by
 induction n with
 | zero => intros; rfl
 | succ n ih =>
  intro x3_2 x4_2
  refine Eq.trans (b := Nv (Nw k v KK n) (fun y2 => KK .ret ⟨(.one (.s .ro Ay v)) :: (.one .d) :: (.one (vB false)) :: (.one (vI y2.1)) :: (.one (vI y2.2.1)) :: dz 40 ((.one (vI y2.2.1)) :: (.one (.s .ro Ay v)) :: (.one (vI y2.1)) :: (.one (.ptr (.elem 48000 y2.1.toNat 0) 2 0)) :: (.one (.ptr (.elem 48000 y2.1.toNat 1) 1 0)) :: (.one (.s .ro Bd (Ad v y2.1).2)) :: (.one (vI ((Ad v y2.1).2.length : Int))) :: (.one (vB true)) :: (.one .d) :: (.one .d) :: (.one (.s .ro Ay v)) :: (.one (vI y2.1)) :: (.one (.ptr (.elem 57000 y2.1.toNat 0) 2 0)) :: (.one (.ptr (.elem 57000 y2.1.toNat 1) 1 0)) :: (.one (.s .ro Bd (Ad v y2.1).2)) :: (.one (vI y2.2.1)) :: (.one (.ptr (.elem 61000 y2.2.1.toNat 0) 4 0)) :: (.agg (B0 (.pair mI (.pair mI O2)) (Ad (Ad v y2.1).2 y2.2.1))) :: (.one (vB y2.2.2)) :: (.one (vB (!y2.2.2))) :: (.one (vB true)) :: uz 15 ((.one (vB true)) :: dz 3 [])), [eM 48000 (.s .ro Ay v), eM 57000 (.s .ro Ay v), eM 61000 (.s .ro Bd (Ad v y2.1).2)]⟩) (fun y2 => KK .ret ⟨(.one (.s .ro Ay v)) :: (.one .d) :: (.one (vB false)) :: (.one (vI y2.1)) :: (.one (vI y2.2.1)) :: dz 40 ((.one (vI y2.2.1)) :: (.one (.s .ro Ay v)) :: (.one (vI y2.1)) :: (.one (.ptr (.elem 48000 y2.1.toNat 0) 2 0)) :: (.one (.ptr (.elem 48000 y2.1.toNat 1) 1 0)) :: (.one (.s .ro Bd (Ad v y2.1).2)) :: (.one (vI ((Ad v y2.1).2.length : Int))) :: (.one (vB true)) :: (.one .d) :: (.one .d) :: (.one (.s .ro Ay v)) :: (.one (vI y2.1)) :: (.one (.ptr (.elem 57000 y2.1.toNat 0) 2 0)) :: (.one (.ptr (.elem 57000 y2.1.toNat 1) 1 0)) :: (.one (.s .ro Bd (Ad v y2.1).2)) :: (.one (vI y2.2.1)) :: (.one (.ptr (.elem 61000 y2.2.1.toNat 0) 4 0)) :: (.agg (B0 (.pair mI (.pair mI O2)) (Ad (Ad v y2.1).2 y2.2.1))) :: (.one (vB y2.2.2)) :: (.one (vB (!y2.2.2))) :: (.one (vB false)) :: (.one (.s .ro Ay v)) :: (.one (vI y2.1)) :: (.one (.ptr (.elem 68000 y2.1.toNat 0) 2 0)) :: (.one (.ptr (.elem 68000 y2.1.toNat 1) 1 0)) :: (.one (.s .ro Bd (Ad v y2.1).2)) :: (.one (vI y2.2.1)) :: (.one (.ptr (.elem 72000 y2.2.1.toNat 0) 4 0)) :: (.one (.ptr (.elem 72000 y2.2.1.toNat 2) 2 0)) :: (.one (vI (Ad (Ad v y2.1).2 y2.2.1).2.2.1)) :: (.one (.s .ro Ay v)) :: (.one (vI y2.1)) :: (.one (.ptr (.elem 77000 y2.1.toNat 0) 2 0)) :: (.one (.ptr (.elem 77000 y2.1.toNat 0) 2 0)) :: (.one (vI (Ad v y2.1).1)) :: (.one (vB ((Ad (Ad v y2.1).2 y2.2.1).2.2.1 != (Ad v y2.1).1))) :: (.one (vB true)) :: dz 3 []), [eM 48000 (.s .ro Ay v), eM 57000 (.s .ro Ay v), eM 61000 (.s .ro Bd (Ad v y2.1).2), eM 68000 (.s .ro Ay v), eM 72000 (.s .ro Bd (Ad v y2.1).2), eM 77000 (.s .ro Ay v)]⟩) (fun y2 => KK (.exit 2) ⟨(.one (.s .ro Ay v)) :: (.one .d) :: (.one .d) :: (.one (vI y2.1)) :: (.one (vI y2.2)) :: dz 40 ((.one (vI y2.2)) :: (.one (.s .ro Ay v)) :: (.one (vI y2.1)) :: (.one (.ptr (.elem 48000 y2.1.toNat 0) 2 0)) :: (.one (.ptr (.elem 48000 y2.1.toNat 1) 1 0)) :: (.one (.s .ro Bd (Ad v y2.1).2)) :: (.one (vI ((Ad v y2.1).2.length : Int))) :: (.one (vB false)) :: dz 32 []), [eM 48000 (.s .ro Ay v)]⟩) k v x3_2 x4_2) (by kernel_rfl) ?_
  rw [J5]
  simp only [Nv, z1, z2, z3, z4, z5, z6, z7, z8, ih]
def X86 (v : Ab) (x3_0 : Int) : St := ⟨(.one (.s .ro Ay v)) :: (.one .d) :: (.one .d) :: (.one (vI x3_0)) :: dz 81 [], []⟩
noncomputable def Oa {β : Type} (k : Nat) (v : Ab) (K : KT β) (n : Nat) (x3_0 : Int) : Option β := A2 (Cb k) Tryz.f80 [1, 0, 1, 0] 0 (Ae (Cb k) [1, 0, 1, 0] (Af Tryz.f80) 0 (Oh k v K)) n (X86 v x3_0)
def Im (k : Nat) (v : Ab) : Nat → Int → Option (Bool)
 | 0, _ => none
 | n + 1, x3_0 => cond (decide (x3_0 < (v.length : Int))) (Ax x3_0 v ((Hc k (Ad v x3_0).1 1 255).bind fun b1 => cond (!b1) (some false) (cond (decide (x3_0 > 0)) (Ax (i64.wrap (x3_0 - 1)) v (Ax x3_0 v (cond (decide ((Ad v (i64.wrap (x3_0 - 1))).1 ≥ (Ad v x3_0).1)) (some false) (Ax x3_0 v (cond (decide (((Ad v x3_0).2.length : Int) > 3)) (some false) ((J5 k v k x3_0 0).bind fun z2 => Gz (fun y2 => some false) (Gz (fun y2 => some false) (fun y2 => Im k v n (i64.wrap (y2.1 + 1)))) z2)))))) (Ax x3_0 v (cond (decide (((Ad v x3_0).2.length : Int) > 3)) (some false) ((J5 k v k x3_0 0).bind fun z2 => Gz (fun y2 => some false) (Gz (fun y2 => some false) (fun y2 => Im k v n (i64.wrap (y2.1 + 1)))) z2)))))) (some (decide ((v.length : Int) ≤ 4)))
theorem Xcc {β : Type} (k n : Nat) (v : Ab) (y2 : Int × Int × Bool) (K : KT β) :
  (Ae (Cb k) [1, 0, 0, 1, 1, 0] (Ba [1, 0, 1, 0, 0] (Af Tryz.f80)) 0 (Bt (Cb k) Tryz.f80 [1, 0, 1, 0] 0 (Ae (Cb k) [1, 0, 1, 0] (Af Tryz.f80) 0 (Oh k v K)) n)) .ret ⟨(.one (.s .ro Ay v)) :: (.one .d) :: (.one (vB false)) :: (.one (vI y2.1)) :: (.one (vI y2.2.1)) :: dz 40 ((.one (vI y2.2.1)) :: (.one (.s .ro Ay v)) :: (.one (vI y2.1)) :: (.one (.ptr (.elem 48000 y2.1.toNat 0) 2 0)) :: (.one (.ptr (.elem 48000 y2.1.toNat 1) 1 0)) :: (.one (.s .ro Bd (Ad v y2.1).2)) :: (.one (vI ((Ad v y2.1).2.length : Int))) :: (.one (vB true)) :: (.one .d) :: (.one .d) :: (.one (.s .ro Ay v)) :: (.one (vI y2.1)) :: (.one (.ptr (.elem 57000 y2.1.toNat 0) 2 0)) :: (.one (.ptr (.elem 57000 y2.1.toNat 1) 1 0)) :: (.one (.s .ro Bd (Ad v y2.1).2)) :: (.one (vI y2.2.1)) :: (.one (.ptr (.elem 61000 y2.2.1.toNat 0) 4 0)) :: (.agg (B0 (.pair mI (.pair mI O2)) (Ad (Ad v y2.1).2 y2.2.1))) :: (.one (vB y2.2.2)) :: (.one (vB (!y2.2.2))) :: (.one (vB true)) :: uz 15 ((.one (vB true)) :: dz 3 [])), [eM 48000 (.s .ro Ay v), eM 57000 (.s .ro Ay v), eM 61000 (.s .ro Bd (Ad v y2.1).2)]⟩ =
  K (F80_O.put false) := by kernel_rfl
theorem Xdn {β : Type} (k n : Nat) (v : Ab) (y2 : Int × Int × Bool) (K : KT β) :
  (Ae (Cb k) [1, 0, 0, 1, 1, 0] (Ba [1, 0, 1, 0, 0] (Af Tryz.f80)) 0 (Bt (Cb k) Tryz.f80 [1, 0, 1, 0] 0 (Ae (Cb k) [1, 0, 1, 0] (Af Tryz.f80) 0 (Oh k v K)) n)) .ret ⟨(.one (.s .ro Ay v)) :: (.one .d) :: (.one (vB false)) :: (.one (vI y2.1)) :: (.one (vI y2.2.1)) :: dz 40 ((.one (vI y2.2.1)) :: (.one (.s .ro Ay v)) :: (.one (vI y2.1)) :: (.one (.ptr (.elem 48000 y2.1.toNat 0) 2 0)) :: (.one (.ptr (.elem 48000 y2.1.toNat 1) 1 0)) :: (.one (.s .ro Bd (Ad v y2.1).2)) :: (.one (vI ((Ad v y2.1).2.length : Int))) :: (.one (vB true)) :: (.one .d) :: (.one .d) :: (.one (.s .ro Ay v)) :: (.one (vI y2.1)) :: (.one (.ptr (.elem 57000 y2.1.toNat 0) 2 0)) :: (.one (.ptr (.elem 57000 y2.1.toNat 1) 1 0)) :: (.one (.s .ro Bd (Ad v y2.1).2)) :: (.one (vI y2.2.1)) :: (.one (.ptr (.elem 61000 y2.2.1.toNat 0) 4 0)) :: (.agg (B0 (.pair mI (.pair mI O2)) (Ad (Ad v y2.1).2 y2.2.1))) :: (.one (vB y2.2.2)) :: (.one (vB (!y2.2.2))) :: (.one (vB false)) :: (.one (.s .ro Ay v)) :: (.one (vI y2.1)) :: (.one (.ptr (.elem 68000 y2.1.toNat 0) 2 0)) :: (.one (.ptr (.elem 68000 y2.1.toNat 1) 1 0)) :: (.one (.s .ro Bd (Ad v y2.1).2)) :: (.one (vI y2.2.1)) :: (.one (.ptr (.elem 72000 y2.2.1.toNat 0) 4 0)) :: (.one (.ptr (.elem 72000 y2.2.1.toNat 2) 2 0)) :: (.one (vI (Ad (Ad v y2.1).2 y2.2.1).2.2.1)) :: (.one (.s .ro Ay v)) :: (.one (vI y2.1)) :: (.one (.ptr (.elem 77000 y2.1.toNat 0) 2 0)) :: (.one (.ptr (.elem 77000 y2.1.toNat 0) 2 0)) :: (.one (vI (Ad v y2.1).1)) :: (.one (vB ((Ad (Ad v y2.1).2 y2.2.1).2.2.1 != (Ad v y2.1).1))) :: (.one (vB true)) :: dz 3 []), [eM 48000 (.s .ro Ay v), eM 57000 (.s .ro Ay v), eM 61000 (.s .ro Bd (Ad v y2.1).2), eM 68000 (.s .ro Ay v), eM 72000 (.s .ro Bd (Ad v y2.1).2), eM 77000 (.s .ro Ay v)]⟩ =
  K (F80_O.put false) := by kernel_rfl
theorem Xbm {β : Type} (k n : Nat) (v : Ab) (y2 : Int × Int) (K : KT β) :
  (Ae (Cb k) [1, 0, 0, 1, 1, 0] (Ba [1, 0, 1, 0, 0] (Af Tryz.f80)) 0 (Bt (Cb k) Tryz.f80 [1, 0, 1, 0] 0 (Ae (Cb k) [1, 0, 1, 0] (Af Tryz.f80) 0 (Oh k v K)) n)) (.exit 2) ⟨(.one (.s .ro Ay v)) :: (.one .d) :: (.one .d) :: (.one (vI y2.1)) :: (.one (vI y2.2)) :: dz 40 ((.one (vI y2.2)) :: (.one (.s .ro Ay v)) :: (.one (vI y2.1)) :: (.one (.ptr (.elem 48000 y2.1.toNat 0) 2 0)) :: (.one (.ptr (.elem 48000 y2.1.toNat 1) 1 0)) :: (.one (.s .ro Bd (Ad v y2.1).2)) :: (.one (vI ((Ad v y2.1).2.length : Int))) :: (.one (vB false)) :: dz 32 []), [eM 48000 (.s .ro Ay v)]⟩ =
  Oa k v K n (i64.wrap (y2.1 + 1)) := by kernel_rfl
theorem Xcg {β : Type} (k n : Nat) (v : Ab) (y2 : Int × Int × Bool) (K : KT β) :
  (Ae (Cb k) [1, 0, 0, 1, 1, 0] (Ba [1, 0, 1, 0, 0] (Af Tryz.f80)) 0 (Bt (Cb k) Tryz.f80 [1, 0, 1, 0] 0 (Ae (Cb k) [1, 0, 1, 0] (Af Tryz.f80) 0 (Oh k v K)) n)) .ret ⟨(.one (.s .ro Ay v)) :: (.one .d) :: (.one (vB false)) :: (.one (vI y2.1)) :: (.one (vI y2.2.1)) :: dz 40 ((.one (vI y2.2.1)) :: (.one (.s .ro Ay v)) :: (.one (vI y2.1)) :: (.one (.ptr (.elem 48000 y2.1.toNat 0) 2 0)) :: (.one (.ptr (.elem 48000 y2.1.toNat 1) 1 0)) :: (.one (.s .ro Bd (Ad v y2.1).2)) :: (.one (vI ((Ad v y2.1).2.length : Int))) :: (.one (vB true)) :: (.one .d) :: (.one .d) :: (.one (.s .ro Ay v)) :: (.one (vI y2.1)) :: (.one (.ptr (.elem 57000 y2.1.toNat 0) 2 0)) :: (.one (.ptr (.elem 57000 y2.1.toNat 1) 1 0)) :: (.one (.s .ro Bd (Ad v y2.1).2)) :: (.one (vI y2.2.1)) :: (.one (.ptr (.elem 61000 y2.2.1.toNat 0) 4 0)) :: (.agg (B0 (.pair mI (.pair mI O2)) (Ad (Ad v y2.1).2 y2.2.1))) :: (.one (vB y2.2.2)) :: (.one (vB (!y2.2.2))) :: (.one (vB true)) :: uz 15 ((.one (vB true)) :: dz 3 [])), [eM 48000 (.s .ro Ay v), eM 57000 (.s .ro Ay v), eM 61000 (.s .ro Bd (Ad v y2.1).2)]⟩ =
  K (F80_O.put false) := by kernel_rfl
theorem Xc0 {β : Type} (k n : Nat) (v : Ab) (y2 : Int × Int × Bool) (K : KT β) :
  (Ae (Cb k) [1, 0, 0, 1, 1, 0] (Ba [1, 0, 1, 0, 0] (Af Tryz.f80)) 0 (Bt (Cb k) Tryz.f80 [1, 0, 1, 0] 0 (Ae (Cb k) [1, 0, 1, 0] (Af Tryz.f80) 0 (Oh k v K)) n)) .ret ⟨(.one (.s .ro Ay v)) :: (.one .d) :: (.one (vB false)) :: (.one (vI y2.1)) :: (.one (vI y2.2.1)) :: dz 40 ((.one (vI y2.2.1)) :: (.one (.s .ro Ay v)) :: (.one (vI y2.1)) :: (.one (.ptr (.elem 48000 y2.1.toNat 0) 2 0)) :: (.one (.ptr (.elem 48000 y2.1.toNat 1) 1 0)) :: (.one (.s .ro Bd (Ad v y2.1).2)) :: (.one (vI ((Ad v y2.1).2.length : Int))) :: (.one (vB true)) :: (.one .d) :: (.one .d) :: (.one (.s .ro Ay v)) :: (.one (vI y2.1)) :: (.one (.ptr (.elem 57000 y2.1.toNat 0) 2 0)) :: (.one (.ptr (.elem 57000 y2.1.toNat 1) 1 0)) :: (.one (.s .ro Bd (Ad v y2.1).2)) :: (.one (vI y2.2.1)) :: (.one (.ptr (.elem 61000 y2.2.1.toNat 0) 4 0)) :: (.agg (B0 (.pair mI (.pair mI O2)) (Ad (Ad v y2.1).2 y2.2.1))) :: (.one (vB y2.2.2)) :: (.one (vB (!y2.2.2))) :: (.one (vB false)) :: (.one (.s .ro Ay v)) :: (.one (vI y2.1)) :: (.one (.ptr (.elem 68000 y2.1.toNat 0) 2 0)) :: (.one (.ptr (.elem 68000 y2.1.toNat 1) 1 0)) :: (.one (.s .ro Bd (Ad v y2.1).2)) :: (.one (vI y2.2.1)) :: (.one (.ptr (.elem 72000 y2.2.1.toNat 0) 4 0)) :: (.one (.ptr (.elem 72000 y2.2.1.toNat 2) 2 0)) :: (.one (vI (Ad (Ad v y2.1).2 y2.2.1).2.2.1)) :: (.one (.s .ro Ay v)) :: (.one (vI y2.1)) :: (.one (.ptr (.elem 77000 y2.1.toNat 0) 2 0)) :: (.one (.ptr (.elem 77000 y2.1.toNat 0) 2 0)) :: (.one (vI (Ad v y2.1).1)) :: (.one (vB ((Ad (Ad v y2.1).2 y2.2.1).2.2.1 != (Ad v y2.1).1))) :: (.one (vB true)) :: dz 3 []), [eM 48000 (.s .ro Ay v), eM 57000 (.s .ro Ay v), eM 61000 (.s .ro Bd (Ad v y2.1).2), eM 68000 (.s .ro Ay v), eM 72000 (.s .ro Bd (Ad v y2.1).2), eM 77000 (.s .ro Ay v)]⟩ =
  K (F80_O.put false) := by kernel_rfl
theorem Xb5 {β : Type} (k n : Nat) (v : Ab) (y2 : Int × Int) (K : KT β) :
  (Ae (Cb k) [1, 0, 0, 1, 1, 0] (Ba [1, 0, 1, 0, 0] (Af Tryz.f80)) 0 (Bt (Cb k) Tryz.f80 [1, 0, 1, 0] 0 (Ae (Cb k) [1, 0, 1, 0] (Af Tryz.f80) 0 (Oh k v K)) n)) (.exit 2) ⟨(.one (.s .ro Ay v)) :: (.one .d) :: (.one .d) :: (.one (vI y2.1)) :: (.one (vI y2.2)) :: dz 40 ((.one (vI y2.2)) :: (.one (.s .ro Ay v)) :: (.one (vI y2.1)) :: (.one (.ptr (.elem 48000 y2.1.toNat 0) 2 0)) :: (.one (.ptr (.elem 48000 y2.1.toNat 1) 1 0)) :: (.one (.s .ro Bd (Ad v y2.1).2)) :: (.one (vI ((Ad v y2.1).2.length : Int))) :: (.one (vB false)) :: dz 32 []), [eM 48000 (.s .ro Ay v)]⟩ =
  Oa k v K n (i64.wrap (y2.1 + 1)) := by kernel_rfl
theorem Xlm {β : Type} (k : Nat) (v : Ab) (K : KT β) (n : Nat) : ∀ (x3_0 : Int), Oa k v K n x3_0 =
  (Im k v n x3_0).bind fun r => K (F80_O.put r) := by
 induction n with
 | zero => intros; rfl
 | succ n ih =>
  intro x3_0
  refine Eq.trans (b := cond (decide (x3_0 < (v.length : Int))) (Ax x3_0 v ((Hc k (Ad v x3_0).1 1 255).bind fun b1 => cond (!b1) (K (F80_O.put false)) (cond (decide (x3_0 > 0)) (Ax (i64.wrap (x3_0 - 1)) v (Ax x3_0 v (cond (decide ((Ad v (i64.wrap (x3_0 - 1))).1 ≥ (Ad v x3_0).1)) (K (F80_O.put false)) (Ax x3_0 v (cond (decide (((Ad v x3_0).2.length : Int) > 3)) (K (F80_O.put false)) (Nw k v (Ae (Cb k) [1, 0, 0, 1, 1, 0] (Ba [1, 0, 1, 0, 0] (Af Tryz.f80)) 0 (Bt (Cb k) Tryz.f80 [1, 0, 1, 0] 0 (Ae (Cb k) [1, 0, 1, 0] (Af Tryz.f80) 0 (Oh k v K)) n)) k x3_0 0)))))) (Ax x3_0 v (cond (decide (((Ad v x3_0).2.length : Int) > 3)) (K (F80_O.put false)) (Nw k v (Ae (Cb k) [1, 0, 0, 1, 1, 0] (Ba [1, 0, 1, 0, 0] (Af Tryz.f80)) 0 (Bt (Cb k) Tryz.f80 [1, 0, 1, 0] 0 (Ae (Cb k) [1, 0, 1, 0] (Af Tryz.f80) 0 (Oh k v K)) n)) k x3_0 0)))))) (K (F80_O.put (decide ((v.length : Int) ≤ 4))))) (by kernel_rfl) ?_
  rw [Im]
  simp only [z1, z2, z3, z4, z5, z6, z7, z8, Xn5, Xcc k n v _ K, Xdn k n v _ K, Xbm k n v _ K, Xcg k n v _ K, Xc0 k n v _ K, Xb5 k n v _ K, ih, Ax, Be]
def Xtx {β : Type} (LP0 : Int → Option β) (k : Nat) (v : Ab) : Option β := LP0 0
def F80 (k : Nat) (v : Ab) : Option (Bool) := Xtx (Im k v k) k v
theorem X8z {β : Type} (k : Nat) (v : Ab) (K : KT β) : Aj (Cb k) Tryz.f80 (PsT.put Xtz (v, ())) K = (F80 k v).bind fun r => K (F80_O.put r) :=
 Eq.trans (b := Xtx (Oa k v K k) k v) (by kernel_rfl) (by simp only [F80, Xtx, z1, z2, z3, z4, z5, z6, z7, z8, Xlm])
def Xkr (k : Nat) : FD := ⟨80, Xtz, F80_O, F80 k⟩
theorem Xo3 (k : Nat) : (Xkr k).Ok Tryz.prog := ⟨fun x => Ac (Am (Ah (.c (Dl k) (.c (Xen k) .n))) _ _ _ _) Ak Tryz.func80 rfl rfl (X8z k _ some), .of (by kernel_rfl)⟩
def Ybr : Nat → Hint
 | 0 => ⟨pl 0 2 (pl 5 1 []), []⟩
 | _ => ⟨[], []⟩
abbrev Xa3 (k : Nat) : Env := Bc Bx Ybr .own [] k
abbrev Xhn : List PA := [.one (.sl .ro Ay), .one mI]
abbrev F156_O : RO := ⟨[.v], [mI]⟩
noncomputable def X6g {β : Type} (k : Nat) (v : Ab) (w : Int) (K : KT β) : Ex → St → Option β := Br (Xa3 k) Tryz.f156 (PsT.put Xhn (v, w, ())) K
def Xxv (v : Ab) (w : Int) (x5_0 : Int) : St := ⟨(.one (.s .ro Ay v)) :: (.one (vI w)) :: dz 3 ((.one (vI x5_0)) :: dz 14 []), []⟩
noncomputable def P3 {β : Type} (k : Nat) (v : Ab) (w : Int) (K : KT β) (n : Nat) (x5_0 : Int) : Option β := A2 (Xa3 k) Tryz.f156 [1, 0, 1, 0] 0 (Ae (Xa3 k) [1, 0, 1, 0] (Af Tryz.f156) 0 (X6g k v w K)) n (Xxv v w x5_0)
def K4 {β : Type} (NX : Int → Option β) (RET : Int → Option β) (k : Nat) (v : Ab) (w : Int) (x5_0 : Int) : Option β := cond (decide (x5_0 < (v.length : Int))) (Ax x5_0 v (cond ((Ad v x5_0).1 == w) (RET x5_0) (NX (i64.wrap (x5_0 + 1))))) (RET (-1))
def Ll (k : Nat) (v : Ab) (w : Int) : Nat → Int → Option (Int)
 | 0, _ => none
 | n + 1, x5_0 => K4 (Ll k v w n) some k v w x5_0
theorem Xfb {β : Type} (k : Nat) (v : Ab) (w : Int) (K : KT β) (n : Nat) : ∀ (x5_0 : Int), P3 k v w K n x5_0 =
  (Ll k v w n x5_0).bind fun r => K (F156_O.put r) := by
 induction n with
 | zero => intros; rfl
 | succ n ih =>
  intro x5_0
  refine Eq.trans (b := K4 (P3 k v w K n) (fun r => K (F156_O.put r)) k v w x5_0) (by kernel_rfl) ?_
  rw [Ll]
  simp only [K4, z1, z2, z3, z4, z5, z6, z7, z8, ih]
def Xgd {β : Type} (LP0 : Int → Option β) (k : Nat) (v : Ab) (w : Int) : Option β := LP0 0
def Xnx (k : Nat) (v : Ab) (w : Int) : Option (Int) := Xgd (Ll k v w k) k v w
theorem Xwv {β : Type} (k : Nat) (v : Ab) (w : Int) (K : KT β) : Aj (Xa3 k) Tryz.f156 (PsT.put Xhn (v, w, ())) K = (Xnx k v w).bind fun r => K (F156_O.put r) :=
 Eq.trans (b := Xgd (P3 k v w K k) k v w) (by kernel_rfl) (by simp only [Xnx, Xgd, z1, z2, z3, z4, z5, z6, z7, z8, Xfb])
def Xhw (k : Nat) : FD := ⟨156, Xhn, F156_O, Xnx k⟩
theorem Xps (k : Nat) : (Xhw k).Ok Tryz.prog := ⟨fun x => Ac (Am .none _ _ _ _) Ak Tryz.func156 rfl rfl (Xwv k _ _ some), .of (by kernel_rfl)⟩
end
end Go.Proofs.YtdmepjjepogddaaGreat.Gn
end

section
set_option linter.unusedVariables false
set_option linter.unusedSimpArgs false
namespace Go.Proofs.YtdmepjjepogddaaGreat.Gn
open Go.Rf IntKind
noncomputable section
def Ye1 : Nat → Hint
 | 0 => ⟨pl 0 1 ((3, .own .own Ay []) :: (pl 4 1 [])), []⟩
 | 2 => ⟨pl 0 1 (pl 3 4 []), pl 3900 1 (pl 5000 1 ((5001, .own .own Bd []) :: []))⟩
 | _ => ⟨[], []⟩
abbrev J6 (k : Nat) : Env := Bc Bx Ye1 .own [] k
abbrev Xs6 : List PA := [.one (.sl .ro Ay)]
abbrev F81_O : RO := ⟨[.v], [.sl .own Ay]⟩
noncomputable def Xu4 {β : Type} (k : Nat) (v : Ab) (K : KT β) : Ex → St → Option β := Br (J6 k) Tryz.f81 (PsT.put Xs6 (v, ())) K
def X4l (v : Ab) (x4_2 x6_2 : Int) (m3900_2 : Ab) (m5000_2 : (den Ay)) : St := ⟨(.one (.s .ro Ay v)) :: (.one .d) :: (.one .d) :: (.one (.a (.cell 3900) 0 0 none)) :: (.one (vI x4_2)) :: (.one (.ptr (.cell 5000) 2 0)) :: (.one (vI x6_2)) :: dz 48 [], (eM 3900 (.s .own Ay m3900_2)) :: (A9 5000 (B0 (.pair mI (.sl .own Bd)) m5000_2) [])⟩
noncomputable def Ug {β : Type} (k : Nat) (v : Ab) (KK : Ex → St → Option β) (n : Nat) (x4_2 x6_2 : Int) (m3900_2 : Ab) (m5000_2 : (den Ay)) : Option β := A2 (J6 k) Tryz.f81 [1, 1, 0, 1, 0, 0, 1, 0, 0, 1, 0, 1, 0] 2 KK n (X4l v x4_2 x6_2 m3900_2 m5000_2)
def Ny {β : Type} (NX : Int → Int → Ab → (den Ay) → Option β) (EX0 : (Int × Int × Ab × (den Ay)) → Option β) (k : Nat) (v : Ab) (x4_2 x6_2 : Int) (m3900_2 : Ab) (m5000_2 : (den Ay)) : Option β := Ax x4_2 v (cond (decide (x6_2 < ((Ad v x4_2).2.length : Int))) (Ax x4_2 v (Ax x6_2 (Ad v x4_2).2 (Be (([] : Aa).length) ((Ad (Ad v x4_2).2 x6_2).2.2.2.length) 1 (Be (m5000_2.2.length) (([((Ad (Ad v x4_2).2 x6_2).1, (Ad (Ad v x4_2).2 x6_2).2.1, (Ad (Ad v x4_2).2 x6_2).2.2.1, [] ++ (Ad (Ad v x4_2).2 x6_2).2.2.2)] : Cm).length) 48 (NX x4_2 (i64.wrap (x6_2 + 1)) m3900_2 (m5000_2.1, m5000_2.2 ++ [((Ad (Ad v x4_2).2 x6_2).1, (Ad (Ad v x4_2).2 x6_2).2.1, (Ad (Ad v x4_2).2 x6_2).2.2.1, [] ++ (Ad (Ad v x4_2).2 x6_2).2.2.2)])))))) (EX0 (x4_2, x6_2, m3900_2, m5000_2)))
def Qc (k : Nat) (v : Ab) : Nat → Int → Int → Ab → (den Ay) → Option ((Int × Int × Ab × (den Ay)))
 | 0, _, _, _, _ => none
 | n + 1, x4_2, x6_2, m3900_2, m5000_2 => Ny (Qc k v n) (fun y2 => some y2) k v x4_2 x6_2 m3900_2 m5000_2
theorem Xmh {β : Type} (k : Nat) (v : Ab) (KK : Ex → St → Option β) (n : Nat) : ∀ (x4_2 x6_2 : Int) (m3900_2 : Ab) (m5000_2 : (den Ay)), Ug k v KK n x4_2 x6_2 m3900_2 m5000_2 =
  (Qc k v n x4_2 x6_2 m3900_2 m5000_2).bind fun y2 => KK (.exit 2) ⟨(.one (.s .ro Ay v)) :: (.one .d) :: (.one .d) :: (.one (.a (.cell 3900) 0 0 none)) :: (.one (vI y2.1)) :: (.one (.ptr (.cell 5000) 2 0)) :: (.one (vI y2.2.1)) :: dz 14 ((.one (vI y2.2.1)) :: (.one (.s .ro Ay v)) :: (.one (vI y2.1)) :: (.one (.ptr (.elem 24000 y2.1.toNat 0) 2 0)) :: (.one (.ptr (.elem 24000 y2.1.toNat 1) 1 0)) :: (.one (.s .ro Bd (Ad v y2.1).2)) :: (.one (vI ((Ad v y2.1).2.length : Int))) :: (.one (vB false)) :: dz 26 []), (eM 3900 (.s .own Ay y2.2.2.1)) :: (A9 5000 (B0 (.pair mI (.sl .own Bd)) y2.2.2.2) [eM 24000 (.s .ro Ay v)])⟩ := by
 induction n with
 | zero => intros; rfl
 | succ n ih =>
  intro x4_2 x6_2 m3900_2 m5000_2
  refine Eq.trans (b := Ny (Ug k v KK n) (fun y2 => KK (.exit 2) ⟨(.one (.s .ro Ay v)) :: (.one .d) :: (.one .d) :: (.one (.a (.cell 3900) 0 0 none)) :: (.one (vI y2.1)) :: (.one (.ptr (.cell 5000) 2 0)) :: (.one (vI y2.2.1)) :: dz 14 ((.one (vI y2.2.1)) :: (.one (.s .ro Ay v)) :: (.one (vI y2.1)) :: (.one (.ptr (.elem 24000 y2.1.toNat 0) 2 0)) :: (.one (.ptr (.elem 24000 y2.1.toNat 1) 1 0)) :: (.one (.s .ro Bd (Ad v y2.1).2)) :: (.one (vI ((Ad v y2.1).2.length : Int))) :: (.one (vB false)) :: dz 26 []), (eM 3900 (.s .own Ay y2.2.2.1)) :: (A9 5000 (B0 (.pair mI (.sl .own Bd)) y2.2.2.2) [eM 24000 (.s .ro Ay v)])⟩) k v x4_2 x6_2 m3900_2 m5000_2) (by kernel_rfl) ?_
  rw [Qc]
  simp only [Ny, z1, z2, z3, z4, z5, z6, z7, z8, ih]
def Yci (v : Ab) (x4_0 : Int) (m3900_0 : Ab) : St := ⟨(.one (.s .ro Ay v)) :: (.one .d) :: (.one .d) :: (.one (.a (.cell 3900) 0 0 none)) :: (.one (vI x4_0)) :: dz 50 [], [eM 3900 (.s .own Ay m3900_0)]⟩
noncomputable def Vj {β : Type} (k : Nat) (v : Ab) (K : KT β) (n : Nat) (x4_0 : Int) (m3900_0 : Ab) : Option β := A2 (J6 k) Tryz.f81 [1, 1, 0, 1, 0] 0 (Ae (J6 k) [1, 1, 0, 1, 0] (Af Tryz.f81) 0 (Xu4 k v K)) n (Yci v x4_0 m3900_0)
def Qg (k : Nat) (v : Ab) : Nat → Int → Ab → Option (Ab)
 | 0, _, _ => none
 | n + 1, x4_0, m3900_0 => cond (decide (x4_0 < (v.length : Int))) (Ax x4_0 v ((Qc k v k x4_0 0 m3900_0 ((Ad v x4_0).1, [])).bind fun y2 => Be (y2.2.2.1.length) ([y2.2.2.2].length) 32 (Qg k v n (i64.wrap (y2.1 + 1)) (y2.2.2.1 ++ [y2.2.2.2])))) (some m3900_0)
theorem Xcf {β : Type} (k n : Nat) (v : Ab) (y2 : Int × Int × Ab × (den Ay)) (K : KT β) :
  (Ae (J6 k) [1, 0, 0, 1, 0, 1, 0] (Ba [1, 1, 0, 1, 0, 0] (Af Tryz.f81)) 0 (Bt (J6 k) Tryz.f81 [1, 1, 0, 1, 0] 0 (Ae (J6 k) [1, 1, 0, 1, 0] (Af Tryz.f81) 0 (Xu4 k v K)) n)) (.exit 2) ⟨(.one (.s .ro Ay v)) :: (.one .d) :: (.one .d) :: (.one (.a (.cell 3900) 0 0 none)) :: (.one (vI y2.1)) :: (.one (.ptr (.cell 5000) 2 0)) :: (.one (vI y2.2.1)) :: dz 14 ((.one (vI y2.2.1)) :: (.one (.s .ro Ay v)) :: (.one (vI y2.1)) :: (.one (.ptr (.elem 24000 y2.1.toNat 0) 2 0)) :: (.one (.ptr (.elem 24000 y2.1.toNat 1) 1 0)) :: (.one (.s .ro Bd (Ad v y2.1).2)) :: (.one (vI ((Ad v y2.1).2.length : Int))) :: (.one (vB false)) :: dz 26 []), (eM 3900 (.s .own Ay y2.2.2.1)) :: (A9 5000 (B0 (.pair mI (.sl .own Bd)) y2.2.2.2) [eM 24000 (.s .ro Ay v)])⟩ =
  Be (y2.2.2.1.length) ([y2.2.2.2].length) 32 (Vj k v K n (i64.wrap (y2.1 + 1)) (y2.2.2.1 ++ [y2.2.2.2])) := by kernel_rfl
theorem Xmp {β : Type} (k : Nat) (v : Ab) (K : KT β) (n : Nat) : ∀ (x4_0 : Int) (m3900_0 : Ab), Vj k v K n x4_0 m3900_0 =
  (Qg k v n x4_0 m3900_0).bind fun r => K (F81_O.put r) := by
 induction n with
 | zero => intros; rfl
 | succ n ih =>
  intro x4_0 m3900_0
  refine Eq.trans (b := cond (decide (x4_0 < (v.length : Int))) (Ax x4_0 v (Ug k v (Ae (J6 k) [1, 0, 0, 1, 0, 1, 0] (Ba [1, 1, 0, 1, 0, 0] (Af Tryz.f81)) 0 (Bt (J6 k) Tryz.f81 [1, 1, 0, 1, 0] 0 (Ae (J6 k) [1, 1, 0, 1, 0] (Af Tryz.f81) 0 (Xu4 k v K)) n)) k x4_0 0 m3900_0 ((Ad v x4_0).1, []))) (K (F81_O.put m3900_0))) (by kernel_rfl) ?_
  rw [Qg]
  simp only [z1, z2, z3, z4, z5, z6, z7, z8, Xmh, Xcf k n v _ K, ih, Ax, Be]
def Xv1 {β : Type} (LP0 : Int → Ab → Option β) (k : Nat) (v : Ab) : Option β := LP0 0 []
def F81 (k : Nat) (v : Ab) : Option (Ab) := Xv1 (Qg k v k) k v
theorem Yaq {β : Type} (k : Nat) (v : Ab) (K : KT β) : Aj (J6 k) Tryz.f81 (PsT.put Xs6 (v, ())) K = (F81 k v).bind fun r => K (F81_O.put r) :=
 Eq.trans (b := Xv1 (Vj k v K k) k v) (by kernel_rfl) (by simp only [F81, Xv1, z1, z2, z3, z4, z5, z6, z7, z8, Xmp])
def Xjp (k : Nat) : FD := ⟨81, Xs6, F81_O, F81 k⟩
theorem Xti (k : Nat) : (Xjp k).Ok Tryz.prog := ⟨fun x => Ac (Am .none _ _ _ _) Ak Tryz.func81 rfl rfl (Yaq k _ some), .of (by kernel_rfl)⟩
def X9j : Nat → Hint
 | 0 => ⟨pl 1 1 ((6, .own .own Ay []) :: (pl 7 1 ((8, .own .own Ay [1]) :: (pl 9 1 [])))), []⟩
 | _ => ⟨[], []⟩
abbrev Xb (k : Nat) : Env := { Bc (A0 [Xkr k, C9 k, Xhw k, Xjp k]) X9j .own [] k with frz := [1000059] }
abbrev Xe0 : List PA := [.one (.sl .ro Ay), .one mI]
abbrev F149_O : RO := ⟨[.v, .v], [.sl .own Ay, mB]⟩
noncomputable def X52 {β : Type} (k : Nat) (v : Ab) (w : Int) (K : KT β) : Ex → St → Option β := Br (Xb k) Tryz.f149 (PsT.put Xe0 (v, w, ())) K
def Xyo (v : Ab) (w : Int) (x7_0 : Bool) (x9_0 : Int) (m6900_0 : Ab) (m8900_0 : (Ab × Int)) : St := ⟨(.one .d) :: (.one (vI w)) :: dz 4 ((.one (.a (.cell 6900) 0 0 none)) :: (.one (vB x7_0)) :: (.one (.a (.cell 8900) 0 0 none)) :: (.one (vI x9_0)) :: dz 60 []), [eM 6900 (.s .own Ay m6900_0), eM 8900 (.q .own Ay m8900_0.1 m8900_0.2)]⟩
noncomputable def Qe {β : Type} (k : Nat) (v : Ab) (w : Int) (K : KT β) (n : Nat) (x7_0 : Bool) (x9_0 : Int) (m6900_0 : Ab) (m8900_0 : (Ab × Int)) : Option β := A2 (Xb k) Tryz.f149 [1, 1, 1, 1, 1, 1, 0, 1, 0] 0 (Ae (Xb k) [1, 1, 1, 1, 1, 1, 0, 1, 0] (Af Tryz.f149) 0 (X52 k v w K)) n (Xyo v w x7_0 x9_0 m6900_0 m8900_0)
def Ix {β : Type} (k : Nat) (v : Ab) (w : Int) (NX : Bool → Int → Ab → (Ab × Int) → Option β) (RET : (Ab × Bool) → Option β) (x9_0 : Int) (m8900_0 : (Ab × Int)) (m6900_0 : Ab) (x7_0 : Bool) : Option β := Ax x9_0 m8900_0.1 (cond (decide ((x9_0.toNat : Int) = m8900_0.2)) (Be (m6900_0.length) ([(Ad m8900_0.1 x9_0)].length) 32 (NX x7_0 (i64.wrap (x9_0 + 1)) (m6900_0 ++ [(Ad m8900_0.1 x9_0)]) (m8900_0.1, m8900_0.2 + 1))) none)
def Lw {β : Type} (NX : Bool → Int → Ab → (Ab × Int) → Option β) (RET : (Ab × Bool) → Option β) (k : Nat) (v : Ab) (w : Int) (x7_0 : Bool) (x9_0 : Int) (m6900_0 : Ab) (m8900_0 : (Ab × Int)) : Option β := cond (decide (x9_0 < (m8900_0.1.length : Int))) (cond (!x7_0) (Ax x9_0 m8900_0.1 (cond (!decide ((x9_0.toNat : Int) < m8900_0.2)) (cond (decide (w < (Ad m8900_0.1 x9_0).1)) (Be (m6900_0.length) (([(w, [])] : Ab).length) 32 (Ax x9_0 m8900_0.1 (cond (decide ((x9_0.toNat : Int) = m8900_0.2)) (Be ((m6900_0 ++ [(w, [])]).length) ([(Ad m8900_0.1 x9_0)].length) 32 (NX true (i64.wrap (x9_0 + 1)) ((m6900_0 ++ [(w, [])]) ++ [(Ad m8900_0.1 x9_0)]) (m8900_0.1, m8900_0.2 + 1))) none))) (Ix k v w NX RET x9_0 m8900_0 m6900_0 x7_0)) none)) (Ix k v w NX RET x9_0 m8900_0 m6900_0 x7_0)) (cond (!x7_0) (Be (m6900_0.length) (([(w, [])] : Ab).length) 32 (RET (m6900_0 ++ [(w, [])], true))) (RET (m6900_0, true)))
def Hr (k : Nat) (v : Ab) (w : Int) : Nat → Bool → Int → Ab → (Ab × Int) → Option (Ab × Bool)
 | 0, _, _, _, _ => none
 | n + 1, x7_0, x9_0, m6900_0, m8900_0 => Lw (Hr k v w n) some k v w x7_0 x9_0 m6900_0 m8900_0
theorem Xgk {β : Type} (k : Nat) (v : Ab) (w : Int) (K : KT β) (n : Nat) : ∀ (x7_0 : Bool) (x9_0 : Int) (m6900_0 : Ab) (m8900_0 : (Ab × Int)), Qe k v w K n x7_0 x9_0 m6900_0 m8900_0 =
  (Hr k v w n x7_0 x9_0 m6900_0 m8900_0).bind fun r => K (F149_O.put r) := by
 induction n with
 | zero => intros; rfl
 | succ n ih =>
  intro x7_0 x9_0 m6900_0 m8900_0
  refine Eq.trans (b := Lw (Qe k v w K n) (fun r => K (F149_O.put r)) k v w x7_0 x9_0 m6900_0 m8900_0) (by kernel_rfl) ?_
  rw [Hr]
  simp only [Lw, Ix, z1, z2, z3, z4, z5, z6, z7, z8, ih]
def Xah {β : Type} (LP0 : Bool → Int → Ab → (Ab × Int) → Option β) (RET : (Ab × Bool) → Option β) (k : Nat) (v : Ab) (w : Int) : Option β := (F80 k v).bind fun b1 => cond (!b1) (RET ([], false)) ((Hc k w 1 255).bind fun b2 => cond (!b2) (RET ([], false)) ((Xnx k v w).bind fun b3 => cond (decide (b3 ≥ 0)) ((F81 k v).bind fun b4 => RET (b4, false)) (cond ((v.length : Int) == 4) ((F81 k v).bind fun b5 => RET (b5, false)) ((F81 k v).bind fun b6 => LP0 false 0 [] (b6, 0)))))
def Xlf (k : Nat) (v : Ab) (w : Int) : Option (Ab × Bool) := Xah (Hr k v w k) some k v w
theorem Xxm {β : Type} (k : Nat) (v : Ab) (w : Int) (K : KT β) : Aj (Xb k) Tryz.f149 (PsT.put Xe0 (v, w, ())) K = (Xlf k v w).bind fun r => K (F149_O.put r) :=
 Eq.trans (b := Xah (Qe k v w K k) (fun r => K (F149_O.put r)) k v w) (by kernel_rfl) (by simp only [Xlf, Xah, z1, z2, z3, z4, z5, z6, z7, z8, Xgk])
def Xr1 (k : Nat) : FD := ⟨149, Xe0, F149_O, Xlf k⟩
theorem Yab (k : Nat) : (Xr1 k).Ok Tryz.prog := ⟨fun x => Ac (Qh [1000059] (Ah (.c (Xo3 k) (.c (Dl k) (.c (Xps k) (.c (Xti k) .n))))) _ _ _ _) Ak Tryz.func149 rfl rfl (Xxm k _ _ some), .of (by kernel_rfl)⟩
def Yc9 : Nat → Hint
 | 0 => ⟨pl 0 2 ((5, .own .own (.int .u8) []) :: []), pl 0 2 []⟩
 | _ => ⟨[], []⟩
abbrev Xkw (k : Nat) : Env := Bc (A0 [T9 k]) Yc9 .own [(false, 0), (false, 1)] k
abbrev Xq1 : List PA := [.p Tm, .one mI]
abbrev F72_O : RO := ⟨[.v], [.sl .own (.int .u8), Tm]⟩
noncomputable def Yeq {β : Type} (k : Nat) (v : (Aa × Int)) (w : Int) (K : KT β) : Ex → St → Option β := Br (Xkw k) Tryz.f72 (PsT.put Xq1 (v, w, ())) K
def X9g (v : (Aa × Int)) (w : Int) (x1_0 : Int) (m0_0 : (Aa × Int)) (m5900_0 : Aa) : St := ⟨(.one (.ptr (.cell 0) 2 0)) :: (.one (vI x1_0)) :: dz 3 ((.one (.a (.cell 5900) 0 0 none)) :: dz 22 []), A9 0 (B0 Tm m0_0) [eM 5900 (.s .own (.int .u8) m5900_0)]⟩
noncomputable def Vb {β : Type} (k : Nat) (v : (Aa × Int)) (w : Int) (K : KT β) (n : Nat) (x1_0 : Int) (m0_0 : (Aa × Int)) (m5900_0 : Aa) : Option β := A2 (Xkw k) Tryz.f72 [1, 1, 0, 0] 0 (Ae (Xkw k) [1, 1, 0, 0] (Af Tryz.f72) 0 (Yeq k v w K)) n (X9g v w x1_0 m0_0 m5900_0)
def Hi {β : Type} (NX : Int → (Aa × Int) → Aa → Option β) (RET : (Aa × (Aa × Int)) → Option β) (k : Nat) (v : (Aa × Int)) (w : Int) (x1_0 : Int) (m0_0 : (Aa × Int)) (m5900_0 : Aa) : Option β := cond (decide (x1_0 > 0)) ((H7 k m0_0 3).bind fun b1 => cond (b1.1 == 0) ((H7 k b1.2 256).bind fun b2 => Be (m5900_0.length) ([u8.wrap b2.1].length) 1 (NX (i64.wrap (x1_0 - 1)) b2.2 (m5900_0 ++ [u8.wrap b2.1]))) ((H7 k b1.2 3).bind fun b3 => Be (m5900_0.length) ([u8.wrap (i64.wrap (b3.1 + 97))].length) 1 (NX (i64.wrap (x1_0 - 1)) b3.2 (m5900_0 ++ [u8.wrap (i64.wrap (b3.1 + 97))])))) (RET (m5900_0, m0_0))
def Fj (k : Nat) (v : (Aa × Int)) (w : Int) : Nat → Int → (Aa × Int) → Aa → Option (Aa × (Aa × Int))
 | 0, _, _, _ => none
 | n + 1, x1_0, m0_0, m5900_0 => Hi (Fj k v w n) some k v w x1_0 m0_0 m5900_0
theorem Xn6 {β : Type} (k : Nat) (v : (Aa × Int)) (w : Int) (K : KT β) (n : Nat) : ∀ (x1_0 : Int) (m0_0 : (Aa × Int)) (m5900_0 : Aa), Vb k v w K n x1_0 m0_0 m5900_0 =
  (Fj k v w n x1_0 m0_0 m5900_0).bind fun r => K (F72_O.put r) := by
 induction n with
 | zero => intros; rfl
 | succ n ih =>
  intro x1_0 m0_0 m5900_0
  refine Eq.trans (b := Hi (Vb k v w K n) (fun r => K (F72_O.put r)) k v w x1_0 m0_0 m5900_0) (by kernel_rfl) ?_
  rw [Fj]
  simp only [Hi, z1, z2, z3, z4, z5, z6, z7, z8, u_0, ih]
def Xpr {β : Type} (LP0 : Int → (Aa × Int) → Aa → Option β) (k : Nat) (v : (Aa × Int)) (w : Int) : Option β := LP0 w v []
def F72 (k : Nat) (v : (Aa × Int)) (w : Int) : Option (Aa × (Aa × Int)) := Xpr (Fj k v w k) k v w
theorem Yby {β : Type} (k : Nat) (v : (Aa × Int)) (w : Int) (K : KT β) : Aj (Xkw k) Tryz.f72 (PsT.put Xq1 (v, w, ())) K = (F72 k v w).bind fun r => K (F72_O.put r) :=
 Eq.trans (b := Xpr (Vb k v w K k) k v w) (by kernel_rfl) (by simp only [F72, Xpr, z1, z2, z3, z4, z5, z6, z7, z8, u_0, Xn6])
def X3v (k : Nat) : FD := ⟨72, Xq1, F72_O, F72 k⟩
theorem Yc4 (k : Nat) : (X3v k).Ok Tryz.prog := ⟨fun x => Ac (Am (Ah (.c (Wk k) .n)) _ _ _ _) Ak Tryz.func72 rfl rfl (Yby k _ _ some), .of (by kernel_rfl)⟩
abbrev X6d (k : Nat) : Env := Bc (A0 [T9 k]) Ao .own [(false, 0), (false, 1)] k
abbrev Xv7 : List PA := [.p Tm, .one mI]
abbrev F144_O : RO := ⟨[.v], [mB, Tm]⟩
def Zo {β : Type} (RET : (Bool × (Aa × Int)) → Option β) (k : Nat) (v : (Aa × Int)) (w : Int) : Option β := cond (decide (w > 0)) ((H7 k v w).bind fun b1 => RET ((b1.1 == (i64.wrap (w - 1))), b1.2)) (RET (false, v))
def Yp := Zo (β := Bool × (Aa × Int)) some
theorem Xz8 {β : Type} (k : Nat) (v : (Aa × Int)) (w : Int) (K : KT β) : Aj (X6d k) Tryz.f144 (PsT.put Xv7 (v, w, ())) K = (Yp k v w).bind fun r => K (F144_O.put r) :=
 Eq.trans (b := Zo (fun r => K (F144_O.put r)) k v w) (by kernel_rfl) (by simp only [Yp, Zo, z1, z2, z3, z4, z5, z6, z7, z8, u_0])
def Xq (k : Nat) : FD := ⟨144, Xv7, F144_O, Yp k⟩
theorem Xik (k : Nat) : (Xq k).Ok Tryz.prog := ⟨fun x => Ac (Am (Ah (.c (Wk k) .n)) _ _ _ _) Ak Tryz.func144 rfl rfl (Xz8 k _ _ some), .of (by kernel_rfl)⟩
abbrev Yc1 (k : Nat) : Env := Bc (A0 [T9 k, X3v k, Xq k]) Ao .own [(false, 0), (false, 1)] k
abbrev X1x : List PA := [.p Tm, .one mI]
abbrev F77_O : RO := ⟨[.a], [.pair mI (.pair mI m_3), Tm]⟩
def Xjn {β : Type} (RET : (den Bd) × (Aa × Int) → Option β) (k : Nat) (v : (Aa × Int)) (w : Int) : Option β := (H7 k v 5).bind fun b1 => (H7 k b1.2 4).bind fun b2 => (H7 k b2.2 6).bind fun b3 => (H7 k b3.2 6).bind fun b4 => (F72 k b4.2 b4.1).bind fun b5 => (Yp k b5.2 w).bind fun b6 => cond b6.1 ((H7 k b6.2 3).bind fun b7 => cond (b7.1 == 0) ((H7 k b7.2 2).bind fun b8 => RET ((b1.1, i64.wrap (b8.1 * 256), i64.wrap (1 + b3.1), b5.1), b8.2)) (cond (b7.1 == 1) ((H7 k b7.2 2).bind fun b9 => RET ((b1.1, i64.wrap (1 + b2.1), i64.wrap (0 - b9.1), b5.1), b9.2)) (RET ((b1.1, i64.wrap (1 + b2.1), i64.wrap (1 + b3.1), List.replicate 41 (Bl (.int .u8))), b7.2)))) (RET ((b1.1, i64.wrap (1 + b2.1), i64.wrap (1 + b3.1), b5.1), b6.2))
def F77 := Xjn (β := (den Bd) × (Aa × Int)) some
theorem X5p {β : Type} (k : Nat) (v : (Aa × Int)) (w : Int) (K : KT β) : Aj (Yc1 k) Tryz.f77 (PsT.put X1x (v, w, ())) K = (F77 k v w).bind fun r => K (F77_O.put r) :=
 Eq.trans (b := Xjn (fun r => K (F77_O.put r)) k v w) (by kernel_rfl) (by simp only [F77, Xjn, z1, z2, z3, z4, z5, z6, z7, z8, u_0])
def Xqh (k : Nat) : FD := ⟨77, X1x, F77_O, F77 k⟩
theorem X10 (k : Nat) : (Xqh k).Ok Tryz.prog := ⟨fun x => Ac (Am (Ah (.c (Wk k) (.c (Yc4 k) (.c (Xik k) .n)))) _ _ _ _) Ak Tryz.func77 rfl rfl (X5p k _ _ some), .of (by kernel_rfl)⟩
def X6s : Nat → Hint
 | 0 => ⟨pl 0 1 ((5, .own .own (.int .u8) []) :: (pl 6 1 [])), []⟩
 | _ => ⟨[], []⟩
abbrev Zv (k : Nat) : Env := Bc (A0 [C9 k]) X6s .own [] k
abbrev Xec : List PA := [.one mI, .one mI]
abbrev F153_O : RO := ⟨[.v], [.sl .own (.int .u8)]⟩
noncomputable def X95 {β : Type} (k : Nat) (v w : Int) (K : KT β) : Ex → St → Option β := Br (Zv k) Tryz.f153 (PsT.put Xec (v, w, ())) K
def X1g (v w : Int) (x6_0 : Int) (m5900_0 : Aa) : St := ⟨(.one (vI v)) :: dz 4 ((.one (.a (.cell 5900) 0 0 none)) :: (.one (vI x6_0)) :: dz 30 []), [eM 5900 (.s .own (.int .u8) m5900_0)]⟩
noncomputable def Qt {β : Type} (k : Nat) (v w : Int) (K : KT β) (n : Nat) (x6_0 : Int) (m5900_0 : Aa) : Option β := A2 (Zv k) Tryz.f153 [1, 1, 1, 0, 1, 0] 0 (Ae (Zv k) [1, 1, 1, 0, 1, 0] (Af Tryz.f153) 0 (X95 k v w K)) n (X1g v w x6_0 m5900_0)
def E3 {β : Type} (NX : Int → Aa → Option β) (RET : Aa → Option β) (k : Nat) (v w : Int) (x6_0 : Int) (m5900_0 : Aa) : Option β := cond (decide (x6_0 ≥ 0)) (cond (decide ((i64.wrap (8 * x6_0)) < 0)) none (Be (m5900_0.length) ([u8.wrap ((v.fdiv (2 ^ (min (i64.wrap (8 * x6_0)).toNat 64))).tmod 256)].length) 1 (NX (i64.wrap (x6_0 - 1)) (m5900_0 ++ [u8.wrap ((v.fdiv (2 ^ (min (i64.wrap (8 * x6_0)).toNat 64))).tmod 256)])))) (RET m5900_0)
def Gg (k : Nat) (v w : Int) : Nat → Int → Aa → Option (Aa)
 | 0, _, _ => none
 | n + 1, x6_0, m5900_0 => E3 (Gg k v w n) some k v w x6_0 m5900_0
theorem Xgz {β : Type} (k : Nat) (v w : Int) (K : KT β) (n : Nat) : ∀ (x6_0 : Int) (m5900_0 : Aa), Qt k v w K n x6_0 m5900_0 =
  (Gg k v w n x6_0 m5900_0).bind fun r => K (F153_O.put r) := by
 induction n with
 | zero => intros; rfl
 | succ n ih =>
  intro x6_0 m5900_0
  refine Eq.trans (b := E3 (Qt k v w K n) (fun r => K (F153_O.put r)) k v w x6_0 m5900_0) (by kernel_rfl) ?_
  rw [Gg]
  simp only [E3, z1, z2, z3, z4, z5, z6, z7, z8, ih]
def Xx {β : Type} (LP0 : Int → Aa → Option β) (RET : Aa → Option β) (k : Nat) (v w : Int) : Option β := (Hc k w 1 4).bind fun b1 => cond (!b1) (RET []) (cond (decide ((i64.wrap (8 * w)) < 0)) none ((Hc k v 0 (i64.wrap ((i64.wrap (1 * 2 ^ (min (i64.wrap (8 * w)).toNat 64))) - 1))).bind fun b2 => cond (!b2) (RET []) (LP0 (i64.wrap (w - 1)) [])))
def R9 (k : Nat) (v w : Int) : Option (Aa) := Xx (Gg k v w k) some k v w
theorem Xy5 {β : Type} (k : Nat) (v w : Int) (K : KT β) : Aj (Zv k) Tryz.f153 (PsT.put Xec (v, w, ())) K = (R9 k v w).bind fun r => K (F153_O.put r) :=
 Eq.trans (b := Xx (Qt k v w K k) (fun r => K (F153_O.put r)) k v w) (by kernel_rfl) (by simp only [R9, Xx, z1, z2, z3, z4, z5, z6, z7, z8, Xgz])
def Rh (k : Nat) : FD := ⟨153, Xec, F153_O, R9 k⟩
theorem U1 (k : Nat) : (Rh k).Ok Tryz.prog := ⟨fun x => Ac (Am (Ah (.c (Dl k) .n)) _ _ _ _) Ak Tryz.func153 rfl rfl (Xy5 k _ _ some), .of (by kernel_rfl)⟩
def Ybf : Nat → Hint
 | 0 => ⟨pl 0 1 (pl 3 2 []), []⟩
 | _ => ⟨[], []⟩
abbrev Xa1 (k : Nat) : Env := Bc Bx Ybf .own [] k
abbrev Xg1 : List PA := [.one (.sl .ro (.int .u8))]
abbrev F279_O : RO := ⟨[.v], [mI]⟩
noncomputable def Ycb {β : Type} (k : Nat) (v : Aa) (K : KT β) : Ex → St → Option β := Br (Xa1 k) Tryz.f279 (PsT.put Xg1 (v, ())) K
def Xyq (v : Aa) (x3_0 x4_0 : Int) : St := ⟨(.one (.s .ro (.int .u8) v)) :: (.one .d) :: (.one .d) :: (.one (vI x3_0)) :: (.one (vI x4_0)) :: dz 29 [], []⟩
noncomputable def Pw {β : Type} (k : Nat) (v : Aa) (K : KT β) (n : Nat) (x3_0 x4_0 : Int) : Option β := A2 (Xa1 k) Tryz.f279 [1, 1, 0, 1, 0] 0 (Ae (Xa1 k) [1, 1, 0, 1, 0] (Af Tryz.f279) 0 (Ycb k v K)) n (Xyq v x3_0 x4_0)
def E2 {β : Type} (NX : Int → Int → Option β) (RET : Int → Option β) (k : Nat) (v : Aa) (x3_0 x4_0 : Int) : Option β := cond (decide (x4_0 < (v.length : Int))) (cond ((x4_0.tmod 2) == 0) (Ax x4_0 v (cond (decide ((i64.wrap (x3_0 + (i64.wrap ((i64.wrap (Ad v x4_0)) * 256)))) > 65535)) (NX (i64.wrap ((i64.wrap (x3_0 + (i64.wrap ((i64.wrap (Ad v x4_0)) * 256)))) - 65535)) (i64.wrap (x4_0 + 1))) (NX (i64.wrap (x3_0 + (i64.wrap ((i64.wrap (Ad v x4_0)) * 256)))) (i64.wrap (x4_0 + 1))))) (Ax x4_0 v (cond (decide ((i64.wrap (x3_0 + (i64.wrap (Ad v x4_0)))) > 65535)) (NX (i64.wrap ((i64.wrap (x3_0 + (i64.wrap (Ad v x4_0)))) - 65535)) (i64.wrap (x4_0 + 1))) (NX (i64.wrap (x3_0 + (i64.wrap (Ad v x4_0)))) (i64.wrap (x4_0 + 1)))))) (RET x3_0)
def Es (k : Nat) (v : Aa) : Nat → Int → Int → Option (Int)
 | 0, _, _ => none
 | n + 1, x3_0, x4_0 => E2 (Es k v n) some k v x3_0 x4_0
theorem Xiq {β : Type} (k : Nat) (v : Aa) (K : KT β) (n : Nat) : ∀ (x3_0 x4_0 : Int), Pw k v K n x3_0 x4_0 =
  (Es k v n x3_0 x4_0).bind fun r => K (F279_O.put r) := by
 induction n with
 | zero => intros; rfl
 | succ n ih =>
  intro x3_0 x4_0
  refine Eq.trans (b := E2 (Pw k v K n) (fun r => K (F279_O.put r)) k v x3_0 x4_0) (by kernel_rfl) ?_
  rw [Es]
  simp only [E2, z1, z2, z3, z4, z5, z6, z7, z8, ih]
def Zc {β : Type} (LP0 : Int → Int → Option β) (k : Nat) (v : Aa) : Option β := LP0 0 0
def Xl8 (k : Nat) (v : Aa) : Option (Int) := Zc (Es k v k) k v
theorem X1i {β : Type} (k : Nat) (v : Aa) (K : KT β) : Aj (Xa1 k) Tryz.f279 (PsT.put Xg1 (v, ())) K = (Xl8 k v).bind fun r => K (F279_O.put r) :=
 Eq.trans (b := Zc (Pw k v K k) k v) (by kernel_rfl) (by simp only [Xl8, Zc, z1, z2, z3, z4, z5, z6, z7, z8, Xiq])
def Xp1 (k : Nat) : FD := ⟨279, Xg1, F279_O, Xl8 k⟩
theorem Ycm (k : Nat) : (Xp1 k).Ok Tryz.prog := ⟨fun x => Ac (Am .none _ _ _ _) Ak Tryz.func279 rfl rfl (X1i k _ some), .of (by kernel_rfl)⟩
abbrev X4r (k : Nat) : Env := Bc (A0 [Xp1 k]) Ao .own [] k
abbrev Xv2 : List PA := [.one (.sl .ro (.int .u8))]
abbrev F224_O : RO := ⟨[.v], [mI]⟩
def Xe4 (k : Nat) (v : Aa) : Option (Int) := (Xl8 k v).bind fun b1 => some (i64.wrap (65535 - b1))
theorem Xx1 {β : Type} (k : Nat) (v : Aa) (K : KT β) : Aj (X4r k) Tryz.f224 (PsT.put Xv2 (v, ())) K = (Xe4 k v).bind fun r => K (F224_O.put r) :=
 Eq.trans (b := (Xl8 k v).bind fun b1 => K (F224_O.put (i64.wrap (65535 - b1)))) (by kernel_rfl) (by simp only [Xe4, z1, z2, z3, z4, z5, z6, z7, z8])
def Xir (k : Nat) : FD := ⟨224, Xv2, F224_O, Xe4 k⟩
theorem Xp3 (k : Nat) : (Xir k).Ok Tryz.prog := ⟨fun x => Ac (Am (Ah (.c (Ycm k) .n)) _ _ _ _) Ak Tryz.func224 rfl rfl (Xx1 k _ some), .of (by kernel_rfl)⟩
abbrev Yas (k : Nat) : Env := Bc (A0 [Rh k, Xir k]) Ao .own [] k
abbrev Xq3 : List PA := [.one mI, .one mI, .one (.sl .ro (.int .u8))]
abbrev F154_O : RO := ⟨[.v], [mI]⟩
def Y4 {β : Type} (RET : Int → Option β) (k : Nat) (v w : Int) (p : Aa) : Option β := (R9 k v 2).bind fun b1 => (R9 k w 2).bind fun b2 => Be (b1.length) (b2.length) 1 (Be ((b1 ++ b2).length) (p.length) 1 ((Xe4 k ((b1 ++ b2) ++ p)).bind fun b3 => RET b3))
def Xfu := Y4 (β := Int) some
theorem Xy1 {β : Type} (k : Nat) (v w : Int) (p : Aa) (K : KT β) : Aj (Yas k) Tryz.f154 (PsT.put Xq3 (v, w, p, ())) K = (Xfu k v w p).bind fun r => K (F154_O.put r) :=
 Eq.trans (b := Y4 (fun r => K (F154_O.put r)) k v w p) (by kernel_rfl) (by simp only [Xfu, Y4, z1, z2, z3, z4, z5, z6, z7, z8])
def Xga (k : Nat) : FD := ⟨154, Xq3, F154_O, Xfu k⟩
theorem Xom (k : Nat) : (Xga k).Ok Tryz.prog := ⟨fun x => Ac (Am (Ah (.c (U1 k) (.c (Xp3 k) .n))) _ _ _ _) Ak Tryz.func154 rfl rfl (Xy1 k _ _ _ some), .of (by kernel_rfl)⟩
abbrev Ydl (k : Nat) : Env := Bc (A0 [Xa5 k, C9 k, Xga k, Rh k]) Ao .own [] k
abbrev X2m : List PA := [.agg (.pair mI (.pair mI O2)), .one mI]
abbrev F82_O : RO := ⟨[.v], [.sl .own (.int .u8)]⟩
def Xkj {β : Type} (RET : Aa → Option β) (k : Nat) (v : (den Bd)) (w : Int) : Option β := Ek v fun v0 v1 v2 v3 => (Xb9 k v).bind fun b1 => cond (!b1) (RET []) ((Hc k w 0 65535).bind fun b2 => cond (!b2) (RET []) (Be ([u8.wrap v1, u8.wrap v2, u8.wrap (v3.length : Int)].length) (v3.length) 1 ((Xfu k v0 w ([u8.wrap v1, u8.wrap v2, u8.wrap (v3.length : Int)] ++ v3)).bind fun b3 => (R9 k b3 2).bind fun b4 => Be (([u8.wrap v1, u8.wrap v2, u8.wrap (v3.length : Int)] ++ v3).length) (b4.length) 1 (RET (([u8.wrap v1, u8.wrap v2, u8.wrap (v3.length : Int)] ++ v3) ++ b4)))))
def F82 := Xkj (β := Aa) some
theorem X73 {β : Type} (k : Nat) (v : (den Bd)) (w : Int) (K : KT β) : Aj (Ydl k) Tryz.f82 (PsT.put X2m (v, w, ())) K = (F82 k v w).bind fun r => K (F82_O.put r) :=
 Eq.trans (b := Xkj (fun r => K (F82_O.put r)) k v w) (by kernel_rfl) (by simp only [F82, Xkj, z1, z2, z3, z4, z5, z6, z7, z8, Ek])
def Xsv (k : Nat) : FD := ⟨82, X2m, F82_O, F82 k⟩
theorem X3u (k : Nat) : (Xsv k).Ok Tryz.prog := ⟨fun x => Ac (Am (Ah (.c (Xen k) (.c (Dl k) (.c (Xom k) (.c (U1 k) .n))))) _ _ _ _) Ak Tryz.func82 rfl rfl (X73 k _ _ some), .of (by kernel_rfl)⟩
def X8n : Nat → Hint
 | 0 => ⟨pl 0 3 (pl 7 2 []), []⟩
 | _ => ⟨[], []⟩
abbrev Zf (k : Nat) : Env := Bc (A0 [C9 k]) X8n .own [] k
abbrev Xe2 : List PA := [.one (.sl .ro (.int .u8)), .one mI, .one mI]
abbrev F225_O : RO := ⟨[.v], [mI]⟩
noncomputable def X4w {β : Type} (k : Nat) (v : Aa) (w p : Int) (K : KT β) : Ex → St → Option β := Br (Zf k) Tryz.f225 (PsT.put Xe2 (v, w, p, ())) K
def X1m (v : Aa) (w p : Int) (x7_0 x8_0 : Int) : St := ⟨(.one (.s .ro (.int .u8) v)) :: (.one (vI w)) :: (.one (vI p)) :: dz 4 ((.one (vI x7_0)) :: (.one (vI x8_0)) :: dz 28 []), []⟩
noncomputable def Q7 {β : Type} (k : Nat) (v : Aa) (w p : Int) (K : KT β) (n : Nat) (x7_0 x8_0 : Int) : Option β := A2 (Zf k) Tryz.f225 [1, 1, 1, 0, 1, 0] 0 (Ae (Zf k) [1, 1, 1, 0, 1, 0] (Af Tryz.f225) 0 (X4w k v w p K)) n (X1m v w p x7_0 x8_0)
def E1 {β : Type} (NX : Int → Int → Option β) (RET : Int → Option β) (k : Nat) (v : Aa) (w p : Int) (x7_0 x8_0 : Int) : Option β := cond (decide (x8_0 < p)) (Ax (i64.wrap (w + x8_0)) v (NX (i64.wrap ((i64.wrap (x7_0 * 256)) + (i64.wrap (Ad v (i64.wrap (w + x8_0)))))) (i64.wrap (x8_0 + 1)))) (RET x7_0)
def F2 (k : Nat) (v : Aa) (w p : Int) : Nat → Int → Int → Option (Int)
 | 0, _, _ => none
 | n + 1, x7_0, x8_0 => E1 (F2 k v w p n) some k v w p x7_0 x8_0
theorem Xei {β : Type} (k : Nat) (v : Aa) (w p : Int) (K : KT β) (n : Nat) : ∀ (x7_0 x8_0 : Int), Q7 k v w p K n x7_0 x8_0 =
  (F2 k v w p n x7_0 x8_0).bind fun r => K (F225_O.put r) := by
 induction n with
 | zero => intros; rfl
 | succ n ih =>
  intro x7_0 x8_0
  refine Eq.trans (b := E1 (Q7 k v w p K n) (fun r => K (F225_O.put r)) k v w p x7_0 x8_0) (by kernel_rfl) ?_
  rw [F2]
  simp only [E1, z1, z2, z3, z4, z5, z6, z7, z8, ih]
def Xa4 {β : Type} (LP0 : Int → Int → Option β) (RET : Int → Option β) (k : Nat) (v : Aa) (w p : Int) : Option β := (Hc k p 1 4).bind fun b1 => cond (!b1) (RET (-1)) ((Hc k w 0 (i64.wrap ((v.length : Int) - p))).bind fun b2 => cond (!b2) (RET (-1)) (LP0 0 0))
def Xgu (k : Nat) (v : Aa) (w p : Int) : Option (Int) := Xa4 (F2 k v w p k) some k v w p
theorem X1t {β : Type} (k : Nat) (v : Aa) (w p : Int) (K : KT β) : Aj (Zf k) Tryz.f225 (PsT.put Xe2 (v, w, p, ())) K = (Xgu k v w p).bind fun r => K (F225_O.put r) :=
 Eq.trans (b := Xa4 (Q7 k v w p K k) (fun r => K (F225_O.put r)) k v w p) (by kernel_rfl) (by simp only [Xgu, Xa4, z1, z2, z3, z4, z5, z6, z7, z8, Xei])
def Xhe (k : Nat) : FD := ⟨225, Xe2, F225_O, Xgu k⟩
theorem Xoy (k : Nat) : (Xhe k).Ok Tryz.prog := ⟨fun x => Ac (Am (Ah (.c (Dl k) .n)) _ _ _ _) Ak Tryz.func225 rfl rfl (X1t k _ _ _ some), .of (by kernel_rfl)⟩
end
end Go.Proofs.YtdmepjjepogddaaGreat.Gn
end

section
set_option linter.unusedVariables false
set_option linter.unusedSimpArgs false
namespace Go.Proofs.YtdmepjjepogddaaGreat.Gn
open Go.Rf IntKind
noncomputable section
abbrev X58 (k : Nat) : Env := Bc (A0 [C9 k, Xa5 k, Xhe k, Xga k]) Ao .own [] k
abbrev Xpo : List PA := [.one mI, .one mI, .one (.sl .ro (.int .u8))]
abbrev F155_O : RO := ⟨[.a, .v], [.pair mI (.pair mI m_3), mB]⟩
def Ye {β : Type} (RET : (den Bd) × Bool → Option β) (k : Nat) (v w : Int) (p : Aa) : Option β := cond (decide ((p.length : Int) < 5)) (RET ((0, 0, 0, []), false)) ((Hc k v 0 65535).bind fun b1 => cond (!b1) (RET ((0, 0, 0, []), false)) ((Hc k w 0 65535).bind fun b2 => cond (!b2) (RET ((0, 0, 0, []), false)) (cond (decide (0 < (p.length : Int))) (cond (decide (1 < (p.length : Int))) (cond (decide (0 ≤ (i64.wrap ((p.length : Int) - 2))) && decide ((i64.wrap ((p.length : Int) - 2)) ≤ (p.length : Int))) (cond (decide (0 ≤ 3) && decide (3 ≤ (i64.wrap ((p.length : Int) - 2)))) (Be (([] : Aa).length) (((p.take ((i64.wrap ((p.length : Int) - 2)).toNat)).drop 3).length) 1 ((Xb9 k (v, i64.wrap (Ad p 0), i64.wrap (Ad p 1), [] ++ ((p.take ((i64.wrap ((p.length : Int) - 2)).toNat)).drop 3))).bind fun b3 => cond (!b3) (RET ((0, 0, 0, []), false)) (cond (decide (2 < (p.length : Int))) (cond ((i64.wrap (Ad p 2)) != (([] ++ ((p.take ((i64.wrap ((p.length : Int) - 2)).toNat)).drop 3)).length : Int)) (RET ((0, 0, 0, []), false)) ((Xgu k p (i64.wrap ((p.length : Int) - 2)) 2).bind fun b4 => cond (decide (0 ≤ (i64.wrap ((p.length : Int) - 2))) && decide ((i64.wrap ((p.length : Int) - 2)) ≤ (p.length : Int))) ((Xfu k v w (p.take ((i64.wrap ((p.length : Int) - 2)).toNat))).bind fun b5 => cond (b4 != b5) (RET ((0, 0, 0, []), false)) (RET ((v, i64.wrap (Ad p 0), i64.wrap (Ad p 1), [] ++ ((p.take ((i64.wrap ((p.length : Int) - 2)).toNat)).drop 3)), true))) none)) none))) none) none) none) none)))
def Xg9 := Ye (β := (den Bd) × Bool) some
theorem X1o {β : Type} (k : Nat) (v w : Int) (p : Aa) (K : KT β) : Aj (X58 k) Tryz.f155 (PsT.put Xpo (v, w, p, ())) K = (Xg9 k v w p).bind fun r => K (F155_O.put r) :=
 Eq.trans (b := Ye (fun r => K (F155_O.put r)) k v w p) (by kernel_rfl) (by simp only [Xg9, Ye, z1, z2, z3, z4, z5, z6, z7, z8])
def Xug (k : Nat) : FD := ⟨155, Xpo, F155_O, Xg9 k⟩
theorem X4g (k : Nat) : (Xug k).Ok Tryz.prog := ⟨fun x => Ac (Am (Ah (.c (Dl k) (.c (Xen k) (.c (Xoy k) (.c (Xom k) .n))))) _ _ _ _) Ak Tryz.func155 rfl rfl (X1o k _ _ _ some), .of (by kernel_rfl)⟩
abbrev X61 (k : Nat) : Env := Bc (A0 [C9 k]) Ao .own [] k
abbrev Xqd : List PA := [.agg (.pair mI Dd)]
abbrev F130_O : RO := ⟨[.v], [mB]⟩
def Xj {β : Type} (RET : Bool → Option β) (k : Nat) (v : (den Ai)) : Option β := Az v fun v0 v1 v2 v3 v4 v5 v6 v7 v8 => (Hc k v0 0 65535).bind fun b1 => cond (!b1) (RET false) ((Hc k v1 0 65535).bind fun b2 => cond (!b2) (RET false) ((Hc k v2 0 255).bind fun b3 => cond (!b3) (RET false) ((Hc k v3 0 255).bind fun b4 => cond (!b4) (RET false) ((Hc k v4 0 255).bind fun b5 => cond (!b5) (RET false) ((Hc k v5 0 255).bind fun b6 => cond (!b6) (RET false) (cond (decide ((v8.length : Int) ≤ 48)) (cond (!v6) (cond (!v7) (RET true) (cond (v5 == 0) (RET (!v6)) (RET false))) (cond (decide ((v8.length : Int) > 0)) (cond (!v7) (RET true) (cond (v5 == 0) (RET (!v6)) (RET false))) (RET false))) (RET false)))))))
def Ha := Xj (β := Bool) some
theorem X1c {β : Type} (k : Nat) (v : (den Ai)) (K : KT β) : Aj (X61 k) Tryz.f130 (PsT.put Xqd (v, ())) K = (Ha k v).bind fun r => K (F130_O.put r) :=
 Eq.trans (b := Xj (fun r => K (F130_O.put r)) k v) (by kernel_rfl) (by simp only [Ha, Xj, z1, z2, z3, z4, z5, z6, z7, z8, Az])
def Gx (k : Nat) : FD := ⟨130, Xqd, F130_O, Ha k⟩
theorem Ig (k : Nat) : (Gx k).Ok Tryz.prog := ⟨fun x => Ac (Am (Ah (.c (Dl k) .n)) _ _ _ _) Ak Tryz.func130 rfl rfl (X1c k _ some), .of (by kernel_rfl)⟩
abbrev Yfb (k : Nat) : Env := Bc (A0 [Xkr k, Xjp k, Xug k, Gx k, Xhw k]) Ao .own [] k
abbrev X2s : List PA := [.one (.sl .ro Ay), .one mI, .agg (.pair mI Dd)]
abbrev F83_O : RO := ⟨[.v, .v], [.sl .own Ay, mI]⟩
def Wb {β : Type} (RET : (Ab × Int) → Option β) (k : Nat) (v : Ab) (w : Int) (p : (den Ai)) : Option β := Az p fun p0 p1 p2 _ _ p5 p6 _ p8 => (F80 k v).bind fun b1 => cond (!b1) (RET ([], 0)) ((F81 k v).bind fun b2 => (Xg9 k p0 p1 p8).bind fun b3 => (Ha k p).bind fun b4 => cond (!b4) (RET (b2, 0)) (cond (p2 != 2) (RET (b2, 0)) (cond (p1 != w) (RET (b2, 0)) (cond (decide (p5 > 0)) (RET (b2, 0)) (cond p6 (RET (b2, 0)) (cond (!b3.2) (RET (b2, 0)) ((Xnx k v b3.1.2.2.1).bind fun b5 => cond (decide (b5 < 0)) (RET (b2, 3)) (Ax b5 b2 (cond (((Ad b2 b5).2.length : Int) == 3) (RET (b2, 0)) (Ax b5 b2 (Be ((Ad b2 b5).2.length) ([b3.1].length) 48 (Ax b5 b2 (cond (decide (b5.toNat = b5.toNat)) (RET (b2.set b5.toNat ((Ad b2 b5).1, (Ad b2 b5).2 ++ [b3.1]), 1)) none)))))))))))))
def F83 := Wb (β := Ab × Int) some
theorem X80 {β : Type} (k : Nat) (v : Ab) (w : Int) (p : (den Ai)) (K : KT β) : Aj (Yfb k) Tryz.f83 (PsT.put X2s (v, w, p, ())) K = (F83 k v w p).bind fun r => K (F83_O.put r) :=
 Eq.trans (b := Wb (fun r => K (F83_O.put r)) k v w p) (by kernel_rfl) (by simp only [F83, Wb, z1, z2, z3, z4, z5, z6, z7, z8, Az])
def Xvw (k : Nat) : FD := ⟨83, X2s, F83_O, F83 k⟩
theorem X2p (k : Nat) : (Xvw k).Ok Tryz.prog := ⟨fun x => Ac (Am (Ah (.c (Xo3 k) (.c (Xti k) (.c (X4g k) (.c (Ig k) (.c (Xps k) .n)))))) _ _ _ _) Ak Tryz.func83 rfl rfl (X80 k _ _ _ some), .of (by kernel_rfl)⟩
def Yec : Nat → Hint
 | 0 => ⟨pl 0 2 ((5, .own .own Ay []) :: (pl 6 1 [])), pl 0 2 []⟩
 | 2 => ⟨pl 0 2 ((5, .own .own Ay []) :: (pl 7 1 [])), pl 0 2 []⟩
 | _ => ⟨[], []⟩
abbrev Vx (k : Nat) : Env := Bc (A0 [T9 k, Xr1 k, Xqh k, Xsv k, Xvw k, Xq k]) Yec .ro [(false, 0), (false, 1)] k
abbrev Xvf : List PA := [.p Tm, .one mI]
abbrev F76_O : RO := ⟨[.v], [.sl .ro Ay, Tm]⟩
noncomputable def X31 {β : Type} (k : Nat) (v : (Aa × Int)) (w : Int) (K : KT β) : Ex → St → Option β := Br (Vx k) Tryz.f76 (PsT.put Xvf (v, w, ())) K
def X8s (v : (Aa × Int)) (w : Int) (x7_2 : Int) (m0_2 : (Aa × Int)) (m5900_2 : Ab) : St := ⟨(.one (.ptr (.cell 0) 2 0)) :: (.one (vI w)) :: dz 3 ((.one (.a (.cell 5900) 0 0 none)) :: (.one .d) :: (.one (vI x7_2)) :: dz 72 []), A9 0 (B0 Tm m0_2) [eM 5900 (.s .own Ay m5900_2)]⟩
noncomputable def Td {β : Type} (k : Nat) (v : (Aa × Int)) (w : Int) (K : KT β) (n : Nat) (x7_2 : Int) (m0_2 : (Aa × Int)) (m5900_2 : Ab) : Option β := A2 (Vx k) Tryz.f76 [1, 1, 1, 0, 1, 0] 2 (Ae (Vx k) [1, 1, 1, 0, 1, 0] (Af Tryz.f76) 0 (X31 k v w K)) n (X8s v w x7_2 m0_2 m5900_2)
def Kc {β : Type} (NX : Int → (Aa × Int) → Ab → Option β) (RET : (Ab × (Aa × Int)) → Option β) (k : Nat) (v : (Aa × Int)) (w : Int) (x7_2 : Int) (m0_2 : (Aa × Int)) (m5900_2 : Ab) : Option β := cond (decide (x7_2 > 0)) ((F77 k m0_2 0).bind fun b5 => (F82 k b5.1 3).bind fun b6 => (F83 k m5900_2 3 (b5.1.1, 3, 2, 0, 0, 0, false, false, b6)).bind fun b7 => NX (i64.wrap (x7_2 - 1)) b5.2 b7.1) (cond (decide ((m5900_2.length : Int) > 0)) ((Yp k m0_2 w).bind fun b8 => cond b8.1 ((H7 k b8.2 3).bind fun b9 => cond (b9.1 == 0) (cond (decide (0 < (m5900_2.length : Int))) (Be (m5900_2.length) ([(Ad m5900_2 0)].length) 32 (RET (m5900_2 ++ [(Ad m5900_2 0)], b9.2))) none) (cond (b9.1 == 1) (cond (decide (0 < (m5900_2.length : Int))) ((F77 k b9.2 2).bind fun b10 => Be ((Ad m5900_2 0).2.length) ([b10.1].length) 48 (cond (decide (0 < (m5900_2.length : Int))) (cond (decide (0 = 0)) (RET (m5900_2.set 0 ((Ad m5900_2 0).1, (Ad m5900_2 0).2 ++ [b10.1]), b10.2)) none) none)) none) ((H7 k b9.2 2).bind fun b11 => cond (decide (0 < (m5900_2.length : Int))) (RET (m5900_2.set 0 (i64.wrap (b11.1 * 256), (Ad m5900_2 0).2), b11.2)) none))) (RET (m5900_2, b8.2))) (RET (m5900_2, m0_2)))
def My (k : Nat) (v : (Aa × Int)) (w : Int) : Nat → Int → (Aa × Int) → Ab → Option (Ab × (Aa × Int))
 | 0, _, _, _ => none
 | n + 1, x7_2, m0_2, m5900_2 => Kc (My k v w n) some k v w x7_2 m0_2 m5900_2
theorem Xmy {β : Type} (k : Nat) (v : (Aa × Int)) (w : Int) (K : KT β) (n : Nat) : ∀ (x7_2 : Int) (m0_2 : (Aa × Int)) (m5900_2 : Ab), Td k v w K n x7_2 m0_2 m5900_2 =
  (My k v w n x7_2 m0_2 m5900_2).bind fun r => K (F76_O.put r) := by
 induction n with
 | zero => intros; rfl
 | succ n ih =>
  intro x7_2 m0_2 m5900_2
  refine Eq.trans (b := Kc (Td k v w K n) (fun r => K (F76_O.put r)) k v w x7_2 m0_2 m5900_2) (by kernel_rfl) ?_
  rw [My]
  simp only [Kc, z1, z2, z3, z4, z5, z6, z7, z8, u_0, ih]
def X8d (v : (Aa × Int)) (w : Int) (x6_0 : Int) (m0_0 : (Aa × Int)) (m5900_0 : Ab) : St := ⟨(.one (.ptr (.cell 0) 2 0)) :: (.one (vI w)) :: dz 3 ((.one (.a (.cell 5900) 0 0 none)) :: (.one (vI x6_0)) :: dz 73 []), A9 0 (B0 Tm m0_0) [eM 5900 (.s .own Ay m5900_0)]⟩
noncomputable def Uu {β : Type} (k : Nat) (v : (Aa × Int)) (w : Int) (K : KT β) (n : Nat) (x6_0 : Int) (m0_0 : (Aa × Int)) (m5900_0 : Ab) : Option β := A2 (Vx k) Tryz.f76 [1, 1, 0, 1, 0] 0 (Ae (Vx k) [1, 1, 0, 1, 0] (Af Tryz.f76) 0 (X31 k v w K)) n (X8d v w x6_0 m0_0 m5900_0)
def Jb {β : Type} (NX : Int → (Aa × Int) → Ab → Option β) (LP2 : Int → (Aa × Int) → Ab → Option β) (k : Nat) (v : (Aa × Int)) (w : Int) (x6_0 : Int) (m0_0 : (Aa × Int)) (m5900_0 : Ab) : Option β := cond (decide (x6_0 > 0)) ((H7 k m0_0 6).bind fun b2 => (Xlf k m5900_0 (i64.wrap (1 + b2.1))).bind fun b3 => NX (i64.wrap (x6_0 - 1)) b2.2 b3.1) ((H7 k m0_0 8).bind fun b4 => LP2 b4.1 b4.2 m5900_0)
def Mr (k : Nat) (v : (Aa × Int)) (w : Int) : Nat → Int → (Aa × Int) → Ab → Option (Ab × (Aa × Int))
 | 0, _, _, _ => none
 | n + 1, x6_0, m0_0, m5900_0 => Jb (Mr k v w n) (My k v w k) k v w x6_0 m0_0 m5900_0
theorem Xn2 {β : Type} (k : Nat) (v : (Aa × Int)) (w : Int) (K : KT β) (n : Nat) : ∀ (x6_0 : Int) (m0_0 : (Aa × Int)) (m5900_0 : Ab), Uu k v w K n x6_0 m0_0 m5900_0 =
  (Mr k v w n x6_0 m0_0 m5900_0).bind fun r => K (F76_O.put r) := by
 induction n with
 | zero => intros; rfl
 | succ n ih =>
  intro x6_0 m0_0 m5900_0
  refine Eq.trans (b := Jb (Uu k v w K n) (Td k v w K k) k v w x6_0 m0_0 m5900_0) (by kernel_rfl) ?_
  rw [Mr]
  simp only [Jb, z1, z2, z3, z4, z5, z6, z7, z8, u_0, Xmy, ih]
def Xjl {β : Type} (LP0 : Int → (Aa × Int) → Ab → Option β) (k : Nat) (v : (Aa × Int)) (w : Int) : Option β := (H7 k v 6).bind fun b1 => LP0 b1.1 b1.2 []
def F76 (k : Nat) (v : (Aa × Int)) (w : Int) : Option (Ab × (Aa × Int)) := Xjl (Mr k v w k) k v w
theorem X6t {β : Type} (k : Nat) (v : (Aa × Int)) (w : Int) (K : KT β) : Aj (Vx k) Tryz.f76 (PsT.put Xvf (v, w, ())) K = (F76 k v w).bind fun r => K (F76_O.put r) :=
 Eq.trans (b := Xjl (Uu k v w K k) k v w) (by kernel_rfl) (by simp only [F76, Xjl, z1, z2, z3, z4, z5, z6, z7, z8, u_0, Xn2])
def X3i (k : Nat) : FD := ⟨76, Xvf, F76_O, F76 k⟩
theorem Ycu (k : Nat) : (X3i k).Ok Tryz.prog := ⟨fun x => Ac (Am (Ah (.c (Wk k) (.c (Yab k) (.c (X10 k) (.c (X3u k) (.c (X2p k) (.c (Xik k) .n))))))) _ _ _ _) Ak Tryz.func76 rfl rfl (X6t k _ _ some), .of (by kernel_rfl)⟩
abbrev X6i (k : Nat) : Env := Bc Bx Ao .own [] k
abbrev Xtr : List PA := [.one mI]
abbrev F278_O : RO := ⟨[.v], [mI]⟩
def Zu {β : Type} (RET : Int → Option β) (k : Nat) (v : Int) : Option β := cond (decide ((i64.wrap (16 - v)) < 0)) none (RET (i64.wrap (1 * 2 ^ (min (i64.wrap (16 - v)).toNat 64))))
def Xdx := Zu (β := Int) some
theorem Xw8 {β : Type} (k : Nat) (v : Int) (K : KT β) : Aj (X6i k) Tryz.f278 (PsT.put Xtr (v, ())) K = (Xdx k v).bind fun r => K (F278_O.put r) :=
 Eq.trans (b := Zu (fun r => K (F278_O.put r)) k v) (by kernel_rfl) (by simp only [Xdx, Zu, z1, z2, z3, z4, z5, z6, z7, z8])
def Xia (k : Nat) : FD := ⟨278, Xtr, F278_O, Xdx k⟩
theorem Xt0 (k : Nat) : (Xia k).Ok Tryz.prog := ⟨fun x => Ac (Am .none _ _ _ _) Ak Tryz.func278 rfl rfl (Xw8 k _ some), .of (by kernel_rfl)⟩
abbrev X47 (k : Nat) : Env := Bc (A0 [C9 k, Xia k]) Ao .own [] k
abbrev Xso : List PA := [.agg m_7]
abbrev F222_O : RO := ⟨[.v], [mB]⟩
def Y9 {β : Type} (RET : Bool → Option β) (k : Nat) (v : (den Ci)) : Option β := C7 v fun v0 v1 v2 v3 => (Hc k v1 0 16).bind fun b1 => cond b1 ((Hc k v0 0 65535).bind fun b2 => cond b2 ((Xdx k v1).bind fun b3 => cond (decide (b3 = 0)) none (cond ((v0.tmod b3) == 0) ((Hc k v2 0 65535).bind fun b4 => cond b4 ((Hc k v3 1 48).bind fun b5 => RET b5) (RET false)) (RET false))) (RET false)) (RET false)
def Zw := Y9 (β := Bool) some
theorem Xy2 {β : Type} (k : Nat) (v : (den Ci)) (K : KT β) : Aj (X47 k) Tryz.f222 (PsT.put Xso (v, ())) K = (Zw k v).bind fun r => K (F222_O.put r) :=
 Eq.trans (b := Y9 (fun r => K (F222_O.put r)) k v) (by kernel_rfl) (by simp only [Zw, Y9, z1, z2, z3, z4, z5, z6, z7, z8, C7])
def Xa7 (k : Nat) : FD := ⟨222, Xso, F222_O, Zw k⟩
theorem Xhr (k : Nat) : (Xa7 k).Ok Tryz.prog := ⟨fun x => Ac (Am (Ah (.c (Dl k) (.c (Xt0 k) .n))) _ _ _ _) Ak Tryz.func222 rfl rfl (Xy2 k _ some), .of (by kernel_rfl)⟩
def X7k : Nat → Hint
 | 0 => ⟨pl 0 1 (pl 3 1 []), []⟩
 | _ => ⟨[], []⟩
abbrev Zg (k : Nat) : Env := Bc (A0 [Xa7 k]) X7k .own [] k
abbrev Xgo : List PA := [.one (.sl .ro Ci)]
abbrev F202_O : RO := ⟨[.v], [mB]⟩
noncomputable def X9f {β : Type} (k : Nat) (v : A5) (K : KT β) : Ex → St → Option β := Br (Zg k) Tryz.f202 (PsT.put Xgo (v, ())) K
def X09 (v : A5) (x3_0 : Int) : St := ⟨(.one (.s .ro Ci v)) :: (.one .d) :: (.one .d) :: (.one (vI x3_0)) :: dz 59 [], []⟩
noncomputable def Qn {β : Type} (k : Nat) (v : A5) (K : KT β) (n : Nat) (x3_0 : Int) : Option β := A2 (Zg k) Tryz.f202 [1, 0, 1, 0] 0 (Ae (Zg k) [1, 0, 1, 0] (Af Tryz.f202) 0 (X9f k v K)) n (X09 v x3_0)
def K9 {β : Type} (NX : Int → Option β) (RET : Bool → Option β) (k : Nat) (v : A5) (x3_0 : Int) : Option β := cond (decide (x3_0 < (v.length : Int))) (Ax x3_0 v ((Zw k (Ad v x3_0)).bind fun b1 => cond (!b1) (RET false) (cond (decide (x3_0 > 0)) (Ax (i64.wrap (x3_0 - 1)) v (Ax x3_0 v (cond (decide ((Ad v (i64.wrap (x3_0 - 1))).2.1 > (Ad v x3_0).2.1)) (RET false) (Ax (i64.wrap (x3_0 - 1)) v (Ax x3_0 v (cond ((Ad v (i64.wrap (x3_0 - 1))).2.1 == (Ad v x3_0).2.1) (Ax (i64.wrap (x3_0 - 1)) v (Ax x3_0 v (cond (decide ((Ad v (i64.wrap (x3_0 - 1))).1 ≥ (Ad v x3_0).1)) (RET false) (NX (i64.wrap (x3_0 + 1)))))) (NX (i64.wrap (x3_0 + 1))))))))) (NX (i64.wrap (x3_0 + 1)))))) (RET (decide ((v.length : Int) ≤ 8)))
def Kz (k : Nat) (v : A5) : Nat → Int → Option (Bool)
 | 0, _ => none
 | n + 1, x3_0 => K9 (Kz k v n) some k v x3_0
theorem Xd9 {β : Type} (k : Nat) (v : A5) (K : KT β) (n : Nat) : ∀ (x3_0 : Int), Qn k v K n x3_0 =
  (Kz k v n x3_0).bind fun r => K (F202_O.put r) := by
 induction n with
 | zero => intros; rfl
 | succ n ih =>
  intro x3_0
  refine Eq.trans (b := K9 (Qn k v K n) (fun r => K (F202_O.put r)) k v x3_0) (by kernel_rfl) ?_
  rw [Kz]
  simp only [K9, z1, z2, z3, z4, z5, z6, z7, z8, ih]
def Xff {β : Type} (LP0 : Int → Option β) (k : Nat) (v : A5) : Option β := LP0 0
def F202 (k : Nat) (v : A5) : Option (Bool) := Xff (Kz k v k) k v
theorem X0h {β : Type} (k : Nat) (v : A5) (K : KT β) : Aj (Zg k) Tryz.f202 (PsT.put Xgo (v, ())) K = (F202 k v).bind fun r => K (F202_O.put r) :=
 Eq.trans (b := Xff (Qn k v K k) k v) (by kernel_rfl) (by simp only [F202, Xff, z1, z2, z3, z4, z5, z6, z7, z8, Xd9])
def Zy (k : Nat) : FD := ⟨202, Xgo, F202_O, F202 k⟩
theorem Xep (k : Nat) : (Zy k).Ok Tryz.prog := ⟨fun x => Ac (Am (Ah (.c (Xhr k) .n)) _ _ _ _) Ak Tryz.func202 rfl rfl (X0h k _ some), .of (by kernel_rfl)⟩
def X6y : Nat → Hint
 | 0 => ⟨pl 0 1 (pl 3 1 ((6, .own .own Ci []) :: (pl 7 2 []))), pl 3000 4 []⟩
 | _ => ⟨[], []⟩
abbrev Xa0 (k : Nat) : Env := Bc (A0 [Zy k, Xa7 k]) X6y .own [] k
abbrev Xeo : List PA := [.one (.sl .ro Ci), .agg m_7]
abbrev F143_O : RO := ⟨[.v, .v], [.sl .own Ci, mB]⟩
noncomputable def X9o {β : Type} (k : Nat) (v : A5) (w : (den Ci)) (K : KT β) : Ex → St → Option β := Br (Xa0 k) Tryz.f143 (PsT.put Xeo (v, w, ())) K
def X0s (v : A5) (w : (den Ci)) (x7_0 : Bool) (x8_0 : Int) (m6900_0 : A5) : St := ⟨(.one (.s .ro Ci v)) :: (.one .d) :: (.one .d) :: (.one (.ptr (.cell 3000) 4 0)) :: (.one .d) :: (.one .d) :: (.one (.a (.cell 6900) 0 0 none)) :: (.one (vB x7_0)) :: (.one (vI x8_0)) :: dz 76 [], A9 3000 (B0 m_7 w) [eM 6900 (.s .own Ci m6900_0)]⟩
noncomputable def Ra {β : Type} (k : Nat) (v : A5) (w : (den Ci)) (K : KT β) (n : Nat) (x7_0 : Bool) (x8_0 : Int) (m6900_0 : A5) : Option β := A2 (Xa0 k) Tryz.f143 [1, 1, 1, 0, 1, 0] 0 (Ae (Xa0 k) [1, 1, 1, 0, 1, 0] (Af Tryz.f143) 0 (X9o k v w K)) n (X0s v w x7_0 x8_0 m6900_0)
def Fq {β : Type} (k : Nat) (v : A5) (w : (den Ci)) (NX : Bool → Int → A5 → Option β) (RET : (A5 × Bool) → Option β) (m6900_0 : A5) (x8_0 : Int) : Option β := C7 w fun w0 w1 w2 w3 => Be ((m6900_0 ++ [(w0, w1, w2, w3)]).length) ([(Ad v x8_0)].length) 32 (NX true (i64.wrap (x8_0 + 1)) ((m6900_0 ++ [(w0, w1, w2, w3)]) ++ [(Ad v x8_0)]))
def Fs {β : Type} (k : Nat) (v : A5) (w : (den Ci)) (NX : Bool → Int → A5 → Option β) (RET : (A5 × Bool) → Option β) (m6900_0 : A5) (x8_0 : Int) : Option β := C7 w fun w0 w1 w2 w3 => Be (m6900_0.length) ([(w0, w1, w2, w3)].length) 32 (cond ((Ad v x8_0).2.1 != w1) (Fq k v w NX RET m6900_0 x8_0) (cond ((Ad v x8_0).1 != w0) (Fq k v w NX RET m6900_0 x8_0) (NX true (i64.wrap (x8_0 + 1)) (m6900_0 ++ [(w0, w1, w2, w3)]))))
def D3 {β : Type} (k : Nat) (v : A5) (w : (den Ci)) (NX : Bool → Int → A5 → Option β) (RET : (A5 × Bool) → Option β) (x8_0 : Int) (m6900_0 : A5) (x7_0 : Bool) : Option β := cond ((Ad v x8_0).2.1 != w.2.1) (Be (m6900_0.length) ([(Ad v x8_0)].length) 32 (NX x7_0 (i64.wrap (x8_0 + 1)) (m6900_0 ++ [(Ad v x8_0)]))) (cond ((Ad v x8_0).1 != w.1) (Be (m6900_0.length) ([(Ad v x8_0)].length) 32 (NX x7_0 (i64.wrap (x8_0 + 1)) (m6900_0 ++ [(Ad v x8_0)]))) (NX x7_0 (i64.wrap (x8_0 + 1)) m6900_0))
def Ki {β : Type} (NX : Bool → Int → A5 → Option β) (RET : (A5 × Bool) → Option β) (k : Nat) (v : A5) (w : (den Ci)) (x7_0 : Bool) (x8_0 : Int) (m6900_0 : A5) : Option β := C7 w fun w0 w1 w2 w3 => cond (decide (x8_0 < (v.length : Int))) (Ax x8_0 v (cond (!x7_0) (cond (decide (w1 < (Ad v x8_0).2.1)) (Fs k v w NX RET m6900_0 x8_0) (cond (w1 == (Ad v x8_0).2.1) (cond (decide (w0 ≤ (Ad v x8_0).1)) (Fs k v w NX RET m6900_0 x8_0) (D3 k v w NX RET x8_0 m6900_0 x7_0)) (D3 k v w NX RET x8_0 m6900_0 x7_0))) (D3 k v w NX RET x8_0 m6900_0 x7_0))) (cond (!x7_0) (Be (m6900_0.length) ([(w0, w1, w2, w3)].length) 32 ((F202 k v).bind fun b1 => cond (!b1) (RET ([], false)) ((Zw k w).bind fun b2 => cond (!b2) (RET ([], false)) (cond (decide (((m6900_0 ++ [(w0, w1, w2, w3)]).length : Int) > 8)) (RET ([], false)) (RET (m6900_0 ++ [(w0, w1, w2, w3)], true)))))) ((F202 k v).bind fun b3 => cond (!b3) (RET ([], false)) ((Zw k w).bind fun b4 => cond (!b4) (RET ([], false)) (cond (decide ((m6900_0.length : Int) > 8)) (RET ([], false)) (RET (m6900_0, true))))))
def Et (k : Nat) (v : A5) (w : (den Ci)) : Nat → Bool → Int → A5 → Option (A5 × Bool)
 | 0, _, _, _ => none
 | n + 1, x7_0, x8_0, m6900_0 => Ki (Et k v w n) some k v w x7_0 x8_0 m6900_0
theorem Xfd {β : Type} (k : Nat) (v : A5) (w : (den Ci)) (K : KT β) (n : Nat) : ∀ (x7_0 : Bool) (x8_0 : Int) (m6900_0 : A5), Ra k v w K n x7_0 x8_0 m6900_0 =
  (Et k v w n x7_0 x8_0 m6900_0).bind fun r => K (F143_O.put r) := by
 induction n with
 | zero => intros; rfl
 | succ n ih =>
  intro x7_0 x8_0 m6900_0
  refine Eq.trans (b := Ki (Ra k v w K n) (fun r => K (F143_O.put r)) k v w x7_0 x8_0 m6900_0) (by kernel_rfl) ?_
  rw [Et]
  simp only [Ki, Fq, Fs, D3, z1, z2, z3, z4, z5, z6, z7, z8, C7, ih]
def Xif {β : Type} (LP0 : Bool → Int → A5 → Option β) (k : Nat) (v : A5) (w : (den Ci)) : Option β := LP0 false 0 []
def Yt (k : Nat) (v : A5) (w : (den Ci)) : Option (A5 × Bool) := Xif (Et k v w k) k v w
theorem X0t {β : Type} (k : Nat) (v : A5) (w : (den Ci)) (K : KT β) : Aj (Xa0 k) Tryz.f143 (PsT.put Xeo (v, w, ())) K = (Yt k v w).bind fun r => K (F143_O.put r) :=
 Eq.trans (b := Xif (Ra k v w K k) k v w) (by kernel_rfl) (by simp only [Yt, Xif, z1, z2, z3, z4, z5, z6, z7, z8, C7, Xfd])
def Xv8 (k : Nat) : FD := ⟨143, Xeo, F143_O, Yt k⟩
theorem Yb1 (k : Nat) : (Xv8 k).Ok Tryz.prog := ⟨fun x => Ac (Am (Ah (.c (Xep k) (.c (Xhr k) .n))) _ _ _ _) Ak Tryz.func143 rfl rfl (X0t k _ _ some), .of (by kernel_rfl)⟩
def Yek : Nat → Hint
 | 0 => ⟨pl 0 2 (pl 5 1 ((6, .own .own sta []) :: (pl 7 1 []))), pl 0 2 []⟩
 | 2 => ⟨pl 0 2 (pl 5 5 []), pl 0 2 (pl 6900 1 (pl 8000 1 ((8001, .own .own Ci []) :: [])))⟩
 | _ => ⟨[], []⟩
abbrev Js (k : Nat) : Env := Bc (A0 [T9 k, Xv8 k, Xq k]) Yek .ro [(false, 0), (false, 1)] k
abbrev Xrb : List PA := [.p Tm, .one mI]
abbrev F70_O : RO := ⟨[.v], [.sl .ro sta, Tm]⟩
noncomputable def Xvi {β : Type} (k : Nat) (v : (Aa × Int)) (w : Int) (K : KT β) : Ex → St → Option β := Br (Js k) Tryz.f70 (PsT.put Xrb (v, w, ())) K
def X9u (v : (Aa × Int)) (w : Int) (x5_2 x7_2 x9_2 : Int) (m0_2 : (Aa × Int)) (m6900_2 : An) (m8000_2 : (den sta)) : St := ⟨(.one (.ptr (.cell 0) 2 0)) :: (.one (vI w)) :: dz 3 ((.one (vI x5_2)) :: (.one (.a (.cell 6900) 0 0 none)) :: (.one (vI x7_2)) :: (.one (.ptr (.cell 8000) 2 0)) :: (.one (vI x9_2)) :: dz 87 []), A9 0 (B0 Tm m0_2) ((eM 6900 (.s .own sta m6900_2)) :: A9 8000 (B0 (.pair mI (.sl .own Ci)) m8000_2) [])⟩
noncomputable def Vh {β : Type} (k : Nat) (v : (Aa × Int)) (w : Int) (KK : Ex → St → Option β) (n : Nat) (x5_2 x7_2 x9_2 : Int) (m0_2 : (Aa × Int)) (m6900_2 : An) (m8000_2 : (den sta)) : Option β := A2 (Js k) Tryz.f70 [1, 1, 1, 0, 1, 0, 0, 1, 0, 0, 1, 0, 1, 0] 2 KK n (X9u v w x5_2 x7_2 x9_2 m0_2 m6900_2 m8000_2)
def G8 {β : Type} (k : Nat) (v : (Aa × Int)) (w : Int) (NX : Int → Int → Int → (Aa × Int) → An → (den sta) → Option β) (EX0 : (Int × Int × Int × (Aa × Int) × An × (den sta)) → Option β) (b3 : Int × (Aa × Int)) (x5_2 : Int) (m8000_2 : (den sta)) (x9_2 x7_2 : Int) (m6900_2 : An) : Option β := (H7 k b3.2 (i64.wrap (x5_2 + 1))).bind fun b4 => (H7 k b4.2 4).bind fun b5 => (Yt k m8000_2.2 (i64.wrap (10 + x9_2), 16, i64.wrap (10 + b4.1), i64.wrap (3 + (i64.wrap (b5.1 * 4))))).bind fun b6 => NX x5_2 x7_2 (i64.wrap (x9_2 + 1)) b5.2 m6900_2 (m8000_2.1, b6.1)
def Og {β : Type} (NX : Int → Int → Int → (Aa × Int) → An → (den sta) → Option β) (EX0 : (Int × Int × Int × (Aa × Int) × An × (den sta)) → Option β) (k : Nat) (v : (Aa × Int)) (w : Int) (x5_2 x7_2 x9_2 : Int) (m0_2 : (Aa × Int)) (m6900_2 : An) (m8000_2 : (den sta)) : Option β := cond (decide (x9_2 < x5_2)) (cond (x9_2 != x7_2) ((H7 k m0_2 12).bind fun b2 => cond (decide (b2.1 > 0)) (cond (decide (x9_2 < x7_2)) ((H7 k b2.2 20).bind fun b3 => cond (b3.1 == 0) (G8 k v w NX EX0 b3 x5_2 m8000_2 x9_2 x7_2 m6900_2) ((H7 k b3.2 4).bind fun b7 => (Yt k m8000_2.2 (i64.wrap (10 + x9_2), 16, i64.wrap ((i64.wrap (10 + x7_2)) - 1), i64.wrap (3 + (i64.wrap (b7.1 * 4))))).bind fun b8 => NX x5_2 x7_2 (i64.wrap (x9_2 + 1)) b7.2 m6900_2 (m8000_2.1, b8.1))) ((H7 k b2.2 20).bind fun b9 => cond (b9.1 == 0) (G8 k v w NX EX0 b9 x5_2 m8000_2 x9_2 x7_2 m6900_2) ((H7 k b9.2 4).bind fun b13 => (Yt k m8000_2.2 (i64.wrap (10 + x9_2), 16, i64.wrap ((i64.wrap (10 + x7_2)) + 1), i64.wrap (3 + (i64.wrap (b13.1 * 4))))).bind fun b14 => NX x5_2 x7_2 (i64.wrap (x9_2 + 1)) b13.2 m6900_2 (m8000_2.1, b14.1)))) (NX x5_2 x7_2 (i64.wrap (x9_2 + 1)) b2.2 m6900_2 m8000_2)) (NX x5_2 x7_2 (i64.wrap (x9_2 + 1)) m0_2 m6900_2 m8000_2)) (EX0 (x5_2, x7_2, x9_2, m0_2, m6900_2, m8000_2))
def Jd (k : Nat) (v : (Aa × Int)) (w : Int) : Nat → Int → Int → Int → (Aa × Int) → An → (den sta) → Option ((Int × Int × Int × (Aa × Int) × An × (den sta)))
 | 0, _, _, _, _, _, _ => none
 | n + 1, x5_2, x7_2, x9_2, m0_2, m6900_2, m8000_2 => Og (Jd k v w n) (fun y2 => some y2) k v w x5_2 x7_2 x9_2 m0_2 m6900_2 m8000_2
theorem Xnh {β : Type} (k : Nat) (v : (Aa × Int)) (w : Int) (KK : Ex → St → Option β) (n : Nat) : ∀ (x5_2 x7_2 x9_2 : Int) (m0_2 : (Aa × Int)) (m6900_2 : An) (m8000_2 : (den sta)), Vh k v w KK n x5_2 x7_2 x9_2 m0_2 m6900_2 m8000_2 =
  (Jd k v w n x5_2 x7_2 x9_2 m0_2 m6900_2 m8000_2).bind fun y2 => KK (.exit 2) ⟨(.one (.ptr (.cell 0) 2 0)) :: (.one (vI w)) :: dz 3 ((.one (vI y2.1)) :: (.one (.a (.cell 6900) 0 0 none)) :: (.one (vI y2.2.1)) :: (.one (.ptr (.cell 8000) 2 0)) :: (.one (vI y2.2.2.1)) :: dz 13 ((.one (vI y2.2.2.1)) :: (.one (vI y2.1)) :: (.one (vB false)) :: dz 71 [])), A9 0 (B0 Tm y2.2.2.2.1) ((eM 6900 (.s .own sta y2.2.2.2.2.1)) :: A9 8000 (B0 (.pair mI (.sl .own Ci)) y2.2.2.2.2.2) [])⟩ := by
 induction n with
 | zero => intros; rfl
 | succ n ih =>
  intro x5_2 x7_2 x9_2 m0_2 m6900_2 m8000_2
  refine Eq.trans (b := Og (Vh k v w KK n) (fun y2 => KK (.exit 2) ⟨(.one (.ptr (.cell 0) 2 0)) :: (.one (vI w)) :: dz 3 ((.one (vI y2.1)) :: (.one (.a (.cell 6900) 0 0 none)) :: (.one (vI y2.2.1)) :: (.one (.ptr (.cell 8000) 2 0)) :: (.one (vI y2.2.2.1)) :: dz 13 ((.one (vI y2.2.2.1)) :: (.one (vI y2.1)) :: (.one (vB false)) :: dz 71 [])), A9 0 (B0 Tm y2.2.2.2.1) ((eM 6900 (.s .own sta y2.2.2.2.2.1)) :: A9 8000 (B0 (.pair mI (.sl .own Ci)) y2.2.2.2.2.2) [])⟩) k v w x5_2 x7_2 x9_2 m0_2 m6900_2 m8000_2) (by kernel_rfl) ?_
  rw [Jd]
  simp only [Og, G8, z1, z2, z3, z4, z5, z6, z7, z8, u_0, ih]
def X8j (v : (Aa × Int)) (w : Int) (x5_0 x7_0 : Int) (m0_0 : (Aa × Int)) (m6900_0 : An) : St := ⟨(.one (.ptr (.cell 0) 2 0)) :: (.one (vI w)) :: dz 3 ((.one (vI x5_0)) :: (.one (.a (.cell 6900) 0 0 none)) :: (.one (vI x7_0)) :: dz 89 []), A9 0 (B0 Tm m0_0) [eM 6900 (.s .own sta m6900_0)]⟩
noncomputable def Nu {β : Type} (k : Nat) (v : (Aa × Int)) (w : Int) (K : KT β) (n : Nat) (x5_0 x7_0 : Int) (m0_0 : (Aa × Int)) (m6900_0 : An) : Option β := A2 (Js k) Tryz.f70 [1, 1, 1, 0, 1, 0] 0 (Ae (Js k) [1, 1, 1, 0, 1, 0] (Af Tryz.f70) 0 (Xvi k v w K)) n (X8j v w x5_0 x7_0 m0_0 m6900_0)
def I9 (k : Nat) (v : (Aa × Int)) (w : Int) : Nat → Int → Int → (Aa × Int) → An → Option (An × (Aa × Int))
 | 0, _, _, _, _ => none
 | n + 1, x5_0, x7_0, m0_0, m6900_0 => cond (decide (x7_0 < x5_0)) ((Jd k v w k x5_0 x7_0 0 m0_0 m6900_0 (i64.wrap (10 + x7_0), [])).bind fun y2 => (H7 k y2.2.2.2.1 4).bind fun b15 => cond (b15.1 == 0) ((H7 k b15.2 y2.1).bind fun b16 => (Yt k y2.2.2.2.2.2.2 (0, 0, i64.wrap (10 + b16.1), 8)).bind fun b17 => Be (y2.2.2.2.2.1.length) ([(y2.2.2.2.2.2.1, b17.1)].length) 32 (I9 k v w n y2.1 (i64.wrap (y2.2.1 + 1)) b16.2 (y2.2.2.2.2.1 ++ [(y2.2.2.2.2.2.1, b17.1)]))) (Be (y2.2.2.2.2.1.length) ([y2.2.2.2.2.2].length) 32 (I9 k v w n y2.1 (i64.wrap (y2.2.1 + 1)) b15.2 (y2.2.2.2.2.1 ++ [y2.2.2.2.2.2])))) ((Yp k m0_0 w).bind fun b18 => cond b18.1 (cond (decide (0 < (m6900_0.length : Int))) (Be (m6900_0.length) ([(Ad m6900_0 0)].length) 32 (some (m6900_0 ++ [(Ad m6900_0 0)], b18.2))) none) (some (m6900_0, b18.2)))
theorem Xcl {β : Type} (k n : Nat) (v : (Aa × Int)) (w : Int) (y2 : Int × Int × Int × (Aa × Int) × An × (den sta)) (K : KT β) :
  (Ae (Js k) [1, 0, 0, 1, 0, 1, 0] (Ba [1, 1, 1, 0, 1, 0, 0] (Af Tryz.f70)) 0 (Bt (Js k) Tryz.f70 [1, 1, 1, 0, 1, 0] 0 (Ae (Js k) [1, 1, 1, 0, 1, 0] (Af Tryz.f70) 0 (Xvi k v w K)) n)) (.exit 2) ⟨(.one (.ptr (.cell 0) 2 0)) :: (.one (vI w)) :: dz 3 ((.one (vI y2.1)) :: (.one (.a (.cell 6900) 0 0 none)) :: (.one (vI y2.2.1)) :: (.one (.ptr (.cell 8000) 2 0)) :: (.one (vI y2.2.2.1)) :: dz 13 ((.one (vI y2.2.2.1)) :: (.one (vI y2.1)) :: (.one (vB false)) :: dz 71 [])), A9 0 (B0 Tm y2.2.2.2.1) ((eM 6900 (.s .own sta y2.2.2.2.2.1)) :: A9 8000 (B0 (.pair mI (.sl .own Ci)) y2.2.2.2.2.2) [])⟩ =
  (H7 k y2.2.2.2.1 4).bind fun b15 => cond (b15.1 == 0) ((H7 k b15.2 y2.1).bind fun b16 => (Yt k y2.2.2.2.2.2.2 (0, 0, i64.wrap (10 + b16.1), 8)).bind fun b17 => Be (y2.2.2.2.2.1.length) ([(y2.2.2.2.2.2.1, b17.1)].length) 32 (Nu k v w K n y2.1 (i64.wrap (y2.2.1 + 1)) b16.2 (y2.2.2.2.2.1 ++ [(y2.2.2.2.2.2.1, b17.1)]))) (Be (y2.2.2.2.2.1.length) ([y2.2.2.2.2.2].length) 32 (Nu k v w K n y2.1 (i64.wrap (y2.2.1 + 1)) b15.2 (y2.2.2.2.2.1 ++ [y2.2.2.2.2.2]))) := by kernel_rfl
theorem Xml {β : Type} (k : Nat) (v : (Aa × Int)) (w : Int) (K : KT β) (n : Nat) : ∀ (x5_0 x7_0 : Int) (m0_0 : (Aa × Int)) (m6900_0 : An), Nu k v w K n x5_0 x7_0 m0_0 m6900_0 =
  (I9 k v w n x5_0 x7_0 m0_0 m6900_0).bind fun r => K (F70_O.put r) := by
 induction n with
 | zero => intros; rfl
 | succ n ih =>
  intro x5_0 x7_0 m0_0 m6900_0
  refine Eq.trans (b := cond (decide (x7_0 < x5_0)) (Vh k v w (Ae (Js k) [1, 0, 0, 1, 0, 1, 0] (Ba [1, 1, 1, 0, 1, 0, 0] (Af Tryz.f70)) 0 (Bt (Js k) Tryz.f70 [1, 1, 1, 0, 1, 0] 0 (Ae (Js k) [1, 1, 1, 0, 1, 0] (Af Tryz.f70) 0 (Xvi k v w K)) n)) k x5_0 x7_0 0 m0_0 m6900_0 (i64.wrap (10 + x7_0), [])) ((Yp k m0_0 w).bind fun b18 => cond b18.1 (cond (decide (0 < (m6900_0.length : Int))) (Be (m6900_0.length) ([(Ad m6900_0 0)].length) 32 (K (F70_O.put (m6900_0 ++ [(Ad m6900_0 0)], b18.2)))) none) (K (F70_O.put (m6900_0, b18.2))))) (by kernel_rfl) ?_
  rw [I9]
  simp only [z1, z2, z3, z4, z5, z6, z7, z8, u_0, Xnh, Xcl k n v w _ K, ih, Ax, Be]
def Xje {β : Type} (LP0 : Int → Int → (Aa × Int) → An → Option β) (k : Nat) (v : (Aa × Int)) (w : Int) : Option β := (H7 k v 5).bind fun b1 => LP0 (i64.wrap (1 + b1.1)) 0 b1.2 []
def F70 (k : Nat) (v : (Aa × Int)) (w : Int) : Option (An × (Aa × Int)) := Xje (I9 k v w k) k v w
theorem X7p {β : Type} (k : Nat) (v : (Aa × Int)) (w : Int) (K : KT β) : Aj (Js k) Tryz.f70 (PsT.put Xrb (v, w, ())) K = (F70 k v w).bind fun r => K (F70_O.put r) :=
 Eq.trans (b := Xje (Nu k v w K k) k v w) (by kernel_rfl) (by simp only [F70, Xje, z1, z2, z3, z4, z5, z6, z7, z8, u_0, Xml])
def X2e (k : Nat) : FD := ⟨70, Xrb, F70_O, F70 k⟩
theorem Yed (k : Nat) : (X2e k).Ok Tryz.prog := ⟨fun x => Ac (Am (Ah (.c (Wk k) (.c (Yb1 k) (.c (Xik k) .n)))) _ _ _ _) Ak Tryz.func70 rfl rfl (X7p k _ _ some), .of (by kernel_rfl)⟩
end
end Go.Proofs.YtdmepjjepogddaaGreat.Gn
end

section
set_option linter.unusedVariables false
set_option linter.unusedSimpArgs false
namespace Go.Proofs.YtdmepjjepogddaaGreat.Gn
open Go.Rf IntKind
noncomputable section
abbrev Ye5 (k : Nat) : Env := Bc (A0 [X2f k, X3i k, X2e k, T9 k, Xqh k]) Ao .own [] k
abbrev X2n : Type := Ab × An × Int × Int × (den Bd)
abbrev X15 : List PA := [.one (.sl .ro (.int .u8))]
abbrev F26_O : RO := ⟨[.v, .v, .v, .v, .a], [.sl .ro Ay, .sl .ro sta, mI, mI, .pair mI (.pair mI m_3)]⟩
def Xjt {β : Type} (RET : X2n → Option β) (k : Nat) (v : Aa) : Option β := (F69 k v).bind fun b1 => (F76 k b1 20).bind fun b2 => (F70 k b2.2 20).bind fun b3 => (H7 k b3.2 (b3.1.length : Int)).bind fun b4 => (H7 k b4.2 6).bind fun b5 => (F77 k b5.2 15).bind fun b6 => RET (b2.1, b3.1, b4.1, i64.wrap (10 + b5.1), b6.1)
def F26 := Xjt (β := X2n) some
theorem X5n {β : Type} (k : Nat) (v : Aa) (K : KT β) : Aj (Ye5 k) Tryz.f26 (PsT.put X15 (v, ())) K = (F26 k v).bind fun r => K (F26_O.put r) :=
 Eq.trans (b := Xjt (fun r => K (F26_O.put r)) k v) (by kernel_rfl) (by simp only [F26, Xjt, z1, z2, z3, z4, z5, z6, z7, z8])
def X3r (k : Nat) : FD := ⟨26, X15, F26_O, F26 k⟩
theorem Yev (k : Nat) : (X3r k).Ok Tryz.prog := ⟨fun x => Ac (Am (Ah (.c (Yfa k) (.c (Ycu k) (.c (Yed k) (.c (Wk k) (.c (X10 k) .n)))))) _ _ _ _) Ak Tryz.func26 rfl rfl (X5n k _ some), .of (by kernel_rfl)⟩
abbrev X6f (k : Nat) : Env := Bc (A0 [C9 k, Zy k]) Ao .own [] k
abbrev Xu7 : List PA := [.agg (.pair mI (.sl .ro Ci))]
abbrev F129_O : RO := ⟨[.v], [mB]⟩
def F129 (k : Nat) (v : (den sta)) : Option (Bool) := (Hc k v.1 0 65535).bind fun b1 => cond b1 ((F202 k v.2).bind fun b2 => some b2) (some false)
theorem Xy8 {β : Type} (k : Nat) (v : (den sta)) (K : KT β) : Aj (X6f k) Tryz.f129 (PsT.put Xu7 (v, ())) K = (F129 k v).bind fun r => K (F129_O.put r) :=
 Eq.trans (b := (Hc k v.1 0 65535).bind fun b1 => cond b1 ((F202 k v.2).bind fun b2 => K (F129_O.put b2)) (K (F129_O.put false))) (by kernel_rfl) (by simp only [F129, z1, z2, z3, z4, z5, z6, z7, z8])
def Xgy (k : Nat) : FD := ⟨129, Xu7, F129_O, F129 k⟩
theorem Xsk (k : Nat) : (Xgy k).Ok Tryz.prog := ⟨fun x => Ac (Am (Ah (.c (Dl k) (.c (Xep k) .n))) _ _ _ _) Ak Tryz.func129 rfl rfl (Xy8 k _ some), .of (by kernel_rfl)⟩
def Ydt : Nat → Hint
 | 0 => ⟨pl 0 1 (pl 3 1 []), []⟩
 | 2 => ⟨pl 0 1 (pl 3 2 []), []⟩
 | _ => ⟨[], []⟩
abbrev Fx (k : Nat) : Env := Bc (A0 [Xgy k]) Ydt .own [] k
abbrev Xwk : List PA := [.one (.sl .ro sta)]
abbrev F59_O : RO := ⟨[.v], [mB]⟩
noncomputable def Xi5 {β : Type} (k : Nat) (v : An) (K : KT β) : Ex → St → Option β := Br (Fx k) Tryz.f59 (PsT.put Xwk (v, ())) K
def X9r (v : An) (x3_2 x4_2 : Int) : St := ⟨(.one (.s .ro sta v)) :: (.one .d) :: (.one .d) :: (.one (vI x3_2)) :: (.one (vI x4_2)) :: dz 31 [], []⟩
noncomputable def Tz {β : Type} (k : Nat) (v : An) (KK : Ex → St → Option β) (n : Nat) (x3_2 x4_2 : Int) : Option β := A2 (Fx k) Tryz.f59 [1, 0, 1, 0, 0, 1, 0, 0, 1, 1, 0] 2 KK n (X9r v x3_2 x4_2)
def N6 {β : Type} (NX : Int → Int → Option β) (EX0 : (Int × Int) → Option β) (EX1 : (Int × Int) → Option β) (k : Nat) (v : An) (x3_2 x4_2 : Int) : Option β := cond (decide (x4_2 < x3_2)) (Ax x4_2 v (Ax x3_2 v (cond ((Ad v x4_2).1 == (Ad v x3_2).1) (EX0 (x3_2, x4_2)) (NX x3_2 (i64.wrap (x4_2 + 1)))))) (EX1 (x3_2, x4_2))
def Nd (k : Nat) (v : An) : Nat → Int → Int → Option ((Sum (Int × Int) (Int × Int)))
 | 0, _, _ => none
 | n + 1, x3_2, x4_2 => N6 (Nd k v n) (fun y2 => some (.inl y2)) (fun y2 => some (.inr y2)) k v x3_2 x4_2
theorem Xln {β : Type} (k : Nat) (v : An) (KK : Ex → St → Option β) (n : Nat) : ∀ (x3_2 x4_2 : Int), Tz k v KK n x3_2 x4_2 =
  (Nd k v n x3_2 x4_2).bind fun z => Gz (fun y2 => KK .ret ⟨(.one (.s .ro sta v)) :: (.one .d) :: (.one (vB false)) :: (.one (vI y2.1)) :: (.one (vI y2.2)) :: dz 12 ((.one (vI y2.2)) :: (.one (vI y2.1)) :: (.one (vB true)) :: (.one .d) :: (.one .d) :: (.one (.s .ro sta v)) :: (.one (vI y2.2)) :: (.one (.ptr (.elem 24000 y2.2.toNat 0) 2 0)) :: (.one (.ptr (.elem 24000 y2.2.toNat 0) 2 0)) :: (.one (vI (Ad v y2.2).1)) :: (.one (.s .ro sta v)) :: (.one (vI y2.1)) :: (.one (.ptr (.elem 29000 y2.1.toNat 0) 2 0)) :: (.one (.ptr (.elem 29000 y2.1.toNat 0) 2 0)) :: (.one (vI (Ad v y2.1).1)) :: (.one (vB true)) :: dz 3 []), [eM 24000 (.s .ro sta v), eM 29000 (.s .ro sta v)]⟩) (fun y2 => KK (.exit 2) ⟨(.one (.s .ro sta v)) :: (.one .d) :: (.one .d) :: (.one (vI y2.1)) :: (.one (vI y2.2)) :: dz 12 ((.one (vI y2.2)) :: (.one (vI y2.1)) :: (.one (vB false)) :: dz 16 []), []⟩) z := by
 induction n with
 | zero => intros; rfl
 | succ n ih =>
  intro x3_2 x4_2
  refine Eq.trans (b := N6 (Tz k v KK n) (fun y2 => KK .ret ⟨(.one (.s .ro sta v)) :: (.one .d) :: (.one (vB false)) :: (.one (vI y2.1)) :: (.one (vI y2.2)) :: dz 12 ((.one (vI y2.2)) :: (.one (vI y2.1)) :: (.one (vB true)) :: (.one .d) :: (.one .d) :: (.one (.s .ro sta v)) :: (.one (vI y2.2)) :: (.one (.ptr (.elem 24000 y2.2.toNat 0) 2 0)) :: (.one (.ptr (.elem 24000 y2.2.toNat 0) 2 0)) :: (.one (vI (Ad v y2.2).1)) :: (.one (.s .ro sta v)) :: (.one (vI y2.1)) :: (.one (.ptr (.elem 29000 y2.1.toNat 0) 2 0)) :: (.one (.ptr (.elem 29000 y2.1.toNat 0) 2 0)) :: (.one (vI (Ad v y2.1).1)) :: (.one (vB true)) :: dz 3 []), [eM 24000 (.s .ro sta v), eM 29000 (.s .ro sta v)]⟩) (fun y2 => KK (.exit 2) ⟨(.one (.s .ro sta v)) :: (.one .d) :: (.one .d) :: (.one (vI y2.1)) :: (.one (vI y2.2)) :: dz 12 ((.one (vI y2.2)) :: (.one (vI y2.1)) :: (.one (vB false)) :: dz 16 []), []⟩) k v x3_2 x4_2) (by kernel_rfl) ?_
  rw [Nd]
  simp only [N6, z1, z2, z3, z4, z5, z6, z7, z8, ih]
def X75 (v : An) (x3_0 : Int) : St := ⟨(.one (.s .ro sta v)) :: (.one .d) :: (.one .d) :: (.one (vI x3_0)) :: dz 32 [], []⟩
noncomputable def Vk {β : Type} (k : Nat) (v : An) (K : KT β) (n : Nat) (x3_0 : Int) : Option β := A2 (Fx k) Tryz.f59 [1, 0, 1, 0] 0 (Ae (Fx k) [1, 0, 1, 0] (Af Tryz.f59) 0 (Xi5 k v K)) n (X75 v x3_0)
def Mp (k : Nat) (v : An) : Nat → Int → Option (Bool)
 | 0, _ => none
 | n + 1, x3_0 => cond (decide (x3_0 < (v.length : Int))) (Ax x3_0 v ((F129 k (Ad v x3_0)).bind fun b1 => cond (!b1) (some false) ((Nd k v k x3_0 0).bind fun z2 => Gz (fun y2 => some false) (fun y2 => Mp k v n (i64.wrap (y2.1 + 1))) z2))) (some (decide ((v.length : Int) ≤ 5)))
theorem Xds {β : Type} (k n : Nat) (v : An) (y2 : Int × Int) (K : KT β) :
  (Ae (Fx k) [1, 0, 0, 1, 1, 0] (Ba [1, 0, 1, 0, 0] (Af Tryz.f59)) 0 (Bt (Fx k) Tryz.f59 [1, 0, 1, 0] 0 (Ae (Fx k) [1, 0, 1, 0] (Af Tryz.f59) 0 (Xi5 k v K)) n)) .ret ⟨(.one (.s .ro sta v)) :: (.one .d) :: (.one (vB false)) :: (.one (vI y2.1)) :: (.one (vI y2.2)) :: dz 12 ((.one (vI y2.2)) :: (.one (vI y2.1)) :: (.one (vB true)) :: (.one .d) :: (.one .d) :: (.one (.s .ro sta v)) :: (.one (vI y2.2)) :: (.one (.ptr (.elem 24000 y2.2.toNat 0) 2 0)) :: (.one (.ptr (.elem 24000 y2.2.toNat 0) 2 0)) :: (.one (vI (Ad v y2.2).1)) :: (.one (.s .ro sta v)) :: (.one (vI y2.1)) :: (.one (.ptr (.elem 29000 y2.1.toNat 0) 2 0)) :: (.one (.ptr (.elem 29000 y2.1.toNat 0) 2 0)) :: (.one (vI (Ad v y2.1).1)) :: (.one (vB true)) :: dz 3 []), [eM 24000 (.s .ro sta v), eM 29000 (.s .ro sta v)]⟩ =
  K (F59_O.put false) := by kernel_rfl
theorem Xbv {β : Type} (k n : Nat) (v : An) (y2 : Int × Int) (K : KT β) :
  (Ae (Fx k) [1, 0, 0, 1, 1, 0] (Ba [1, 0, 1, 0, 0] (Af Tryz.f59)) 0 (Bt (Fx k) Tryz.f59 [1, 0, 1, 0] 0 (Ae (Fx k) [1, 0, 1, 0] (Af Tryz.f59) 0 (Xi5 k v K)) n)) (.exit 2) ⟨(.one (.s .ro sta v)) :: (.one .d) :: (.one .d) :: (.one (vI y2.1)) :: (.one (vI y2.2)) :: dz 12 ((.one (vI y2.2)) :: (.one (vI y2.1)) :: (.one (vB false)) :: dz 16 []), []⟩ =
  Vk k v K n (i64.wrap (y2.1 + 1)) := by kernel_rfl
theorem Xlu {β : Type} (k : Nat) (v : An) (K : KT β) (n : Nat) : ∀ (x3_0 : Int), Vk k v K n x3_0 =
  (Mp k v n x3_0).bind fun r => K (F59_O.put r) := by
 induction n with
 | zero => intros; rfl
 | succ n ih =>
  intro x3_0
  refine Eq.trans (b := cond (decide (x3_0 < (v.length : Int))) (Ax x3_0 v ((F129 k (Ad v x3_0)).bind fun b1 => cond (!b1) (K (F59_O.put false)) (Tz k v (Ae (Fx k) [1, 0, 0, 1, 1, 0] (Ba [1, 0, 1, 0, 0] (Af Tryz.f59)) 0 (Bt (Fx k) Tryz.f59 [1, 0, 1, 0] 0 (Ae (Fx k) [1, 0, 1, 0] (Af Tryz.f59) 0 (Xi5 k v K)) n)) k x3_0 0))) (K (F59_O.put (decide ((v.length : Int) ≤ 5))))) (by kernel_rfl) ?_
  rw [Mp]
  simp only [z1, z2, z3, z4, z5, z6, z7, z8, Xln, Xds k n v _ K, Xbv k n v _ K, ih, Ax, Be]
def Xth {β : Type} (LP0 : Int → Option β) (k : Nat) (v : An) : Option β := LP0 0
def F59 (k : Nat) (v : An) : Option (Bool) := Xth (Mp k v k) k v
theorem X9t {β : Type} (k : Nat) (v : An) (K : KT β) : Aj (Fx k) Tryz.f59 (PsT.put Xwk (v, ())) K = (F59 k v).bind fun r => K (F59_O.put r) :=
 Eq.trans (b := Xth (Vk k v K k) k v) (by kernel_rfl) (by simp only [F59, Xth, z1, z2, z3, z4, z5, z6, z7, z8, Xlu])
def Xjy (k : Nat) : FD := ⟨59, Xwk, F59_O, F59 k⟩
theorem Xqe (k : Nat) : (Xjy k).Ok Tryz.prog := ⟨fun x => Ac (Am (Ah (.c (Xsk k) .n)) _ _ _ _) Ak Tryz.func59 rfl rfl (X9t k _ some), .of (by kernel_rfl)⟩
abbrev Ya2 (k : Nat) : Env := Bc Bx Ao .own [] k
abbrev Xok : List PA := [.agg (.pair mI Dd)]
abbrev F138_O : RO := ⟨[.a], [.pair mI M5]⟩
def N0 (k : Nat) (v : (den Ai)) : Option ((den Ai)) := Az v fun v0 v1 v2 v3 v4 v5 v6 v7 v8 => Be (([] : Aa).length) (v8.length) 1 (some (v0, v1, v2, v3, v4, v5, v6, v7, [] ++ v8))
theorem X1e {β : Type} (k : Nat) (v : (den Ai)) (K : KT β) : Aj (Ya2 k) Tryz.f138 (PsT.put Xok (v, ())) K = (N0 k v).bind fun r => K (F138_O.put r) :=
 Eq.trans (b := Be (([] : Aa).length) (v.2.2.2.2.2.2.2.2.length) 1 (K (F138_O.put (v.1, v.2.1, v.2.2.1, v.2.2.2.1, v.2.2.2.2.1, v.2.2.2.2.2.1, v.2.2.2.2.2.2.1, v.2.2.2.2.2.2.2.1, [] ++ v.2.2.2.2.2.2.2.2)))) (by kernel_rfl) (by simp only [N0, z1, z2, z3, z4, z5, z6, z7, z8, Az])
def Tl (k : Nat) : FD := ⟨138, Xok, F138_O, N0 k⟩
theorem Xaw (k : Nat) : (Tl k).Ok Tryz.prog := ⟨fun x => Ac (Am .none _ _ _ _) Ak Tryz.func138 rfl rfl (X1e k _ some), .of (by kernel_rfl)⟩
abbrev X4j (k : Nat) : Env := Bc Bx Ao .own [] k
abbrev Xr3 : List PA := [.agg (.pair mI Dd)]
abbrev F364_O : RO := ⟨[.v], [mI]⟩
def Xl3 (k : Nat) (v : (den Ai)) : Option (Int) := cond v.2.2.2.2.2.2.1 (cond v.2.2.2.2.2.2.2.1 (some 3) (some 1)) (cond v.2.2.2.2.2.2.2.1 (some 2) (some 0))
theorem X0z {β : Type} (k : Nat) (v : (den Ai)) (K : KT β) : Aj (X4j k) Tryz.f364 (PsT.put Xr3 (v, ())) K = (Xl3 k v).bind fun r => K (F364_O.put r) :=
 Eq.trans (b := cond v.2.2.2.2.2.2.1 (cond v.2.2.2.2.2.2.2.1 (K (F364_O.put 3)) (K (F364_O.put 1))) (cond v.2.2.2.2.2.2.2.1 (K (F364_O.put 2)) (K (F364_O.put 0)))) (by kernel_rfl) (by simp only [Xl3, z1, z2, z3, z4, z5, z6, z7, z8, Az])
def Xp8 (k : Nat) : FD := ⟨364, Xr3, F364_O, Xl3 k⟩
theorem X7r (k : Nat) : (Xp8 k).Ok Tryz.prog := ⟨fun x => Ac (Am .none _ _ _ _) Ak Tryz.func364 rfl rfl (X0z k _ some), .of (by kernel_rfl)⟩
abbrev X4u (k : Nat) : Env := Bc (A0 [Rh k, Xp8 k]) Ao .own [] k
abbrev Xq5 : List PA := [.agg (.pair mI Dd)]
abbrev F347_O : RO := ⟨[.v], [.sl .own (.int .u8)]⟩
def Xa9 {β : Type} (RET : Aa → Option β) (k : Nat) (v : (den Ai)) : Option β := Az v fun v0 v1 v2 v3 v4 v5 _ _ v8 => (R9 k v0 2).bind fun b1 => (R9 k v1 2).bind fun b2 => Be (b1.length) (b2.length) 1 ((Xl3 k v).bind fun b3 => Be ((b1 ++ b2).length) ([u8.wrap v2, u8.wrap v3, u8.wrap v4, u8.wrap v5, u8.wrap b3, u8.wrap (v8.length : Int)].length) 1 (RET ((b1 ++ b2) ++ [u8.wrap v2, u8.wrap v3, u8.wrap v4, u8.wrap v5, u8.wrap b3, u8.wrap (v8.length : Int)])))
def Xmi := Xa9 (β := Aa) some
theorem Xx6 {β : Type} (k : Nat) (v : (den Ai)) (K : KT β) : Aj (X4u k) Tryz.f347 (PsT.put Xq5 (v, ())) K = (Xmi k v).bind fun r => K (F347_O.put r) :=
 Eq.trans (b := Xa9 (fun r => K (F347_O.put r)) k v) (by kernel_rfl) (by simp only [Xmi, Xa9, z1, z2, z3, z4, z5, z6, z7, z8, Az])
def Xs9 (k : Nat) : FD := ⟨347, Xq5, F347_O, Xmi k⟩
theorem Yaw (k : Nat) : (Xs9 k).Ok Tryz.prog := ⟨fun x => Ac (Am (Ah (.c (U1 k) (.c (X7r k) .n))) _ _ _ _) Ak Tryz.func347 rfl rfl (Xx6 k _ some), .of (by kernel_rfl)⟩
abbrev X4h (k : Nat) : Env := Bc (A0 [Gx k, Xs9 k, Xir k, Rh k]) Ao .own [] k
abbrev Xu2 : List PA := [.agg (.pair mI Dd)]
abbrev F323_O : RO := ⟨[.v], [.sl .own (.int .u8)]⟩
def Xaf {β : Type} (RET : Aa → Option β) (k : Nat) (v : (den Ai)) : Option β := (Ha k v).bind fun b1 => cond (!b1) (RET []) ((Xmi k v).bind fun b2 => (Xe4 k b2).bind fun b3 => (R9 k b3 2).bind fun b4 => Be (b2.length) (b4.length) 1 (Be ((b2 ++ b4).length) (v.2.2.2.2.2.2.2.2.length) 1 (RET ((b2 ++ b4) ++ v.2.2.2.2.2.2.2.2))))
def Xm0 := Xaf (β := Aa) some
theorem X1n {β : Type} (k : Nat) (v : (den Ai)) (K : KT β) : Aj (X4h k) Tryz.f323 (PsT.put Xu2 (v, ())) K = (Xm0 k v).bind fun r => K (F323_O.put r) :=
 Eq.trans (b := Xaf (fun r => K (F323_O.put r)) k v) (by kernel_rfl) (by simp only [Xm0, Xaf, z1, z2, z3, z4, z5, z6, z7, z8, Az])
def Xwc (k : Nat) : FD := ⟨323, Xu2, F323_O, Xm0 k⟩
theorem X37 (k : Nat) : (Xwc k).Ok Tryz.prog := ⟨fun x => Ac (Am (Ah (.c (Ig k) (.c (Yaw k) (.c (Xp3 k) (.c (U1 k) .n))))) _ _ _ _) Ak Tryz.func323 rfl rfl (X1n k _ some), .of (by kernel_rfl)⟩
abbrev Yak (k : Nat) : Env := Bc (A0 [C9 k]) Ao .own [] k
abbrev Xqk : List PA := [.agg (.pair mI O2)]
abbrev F348_O : RO := ⟨[.v], [mB]⟩
def Xy {β : Type} (RET : Bool → Option β) (k : Nat) (v : (Int × (Int × Aa))) : Option β := (Hc k v.1 1 6).bind fun b1 => cond b1 ((Hc k v.2.1 0 65535).bind fun b2 => cond b2 (RET (decide ((v.2.2.length : Int) ≤ 20))) (RET false)) (RET false)
def Xgc := Xy (β := Bool) some
theorem Xyg {β : Type} (k : Nat) (v : (Int × (Int × Aa))) (K : KT β) : Aj (Yak k) Tryz.f348 (PsT.put Xqk (v, ())) K = (Xgc k v).bind fun r => K (F348_O.put r) :=
 Eq.trans (b := Xy (fun r => K (F348_O.put r)) k v) (by kernel_rfl) (by simp only [Xgc, Xy, z1, z2, z3, z4, z5, z6, z7, z8, u_4])
def Xf8 (k : Nat) : FD := ⟨348, Xqk, F348_O, Xgc k⟩
theorem Xvm (k : Nat) : (Xf8 k).Ok Tryz.prog := ⟨fun x => Ac (Am (Ah (.c (Dl k) .n)) _ _ _ _) Ak Tryz.func348 rfl rfl (Xyg k _ some), .of (by kernel_rfl)⟩
abbrev X42 (k : Nat) : Env := Bc (A0 [Xf8 k, Rh k]) Ao .own [] k
abbrev Xu8 : List PA := [.agg (.pair mI O2)]
abbrev F324_O : RO := ⟨[.v], [.sl .own (.int .u8)]⟩
def Yb {β : Type} (RET : Aa → Option β) (k : Nat) (v : (Int × (Int × Aa))) : Option β := u_4 v fun v0 v1 v2 => (Xgc k v).bind fun b1 => cond (!b1) (RET []) ((R9 k v1 2).bind fun b2 => Be ([u8.wrap v0].length) (b2.length) 1 (Be (([u8.wrap v0] ++ b2).length) ([u8.wrap (v2.length : Int)].length) 1 (Be ((([u8.wrap v0] ++ b2) ++ [u8.wrap (v2.length : Int)]).length) (v2.length) 1 (RET ((([u8.wrap v0] ++ b2) ++ [u8.wrap (v2.length : Int)]) ++ v2)))))
def Xme := Yb (β := Aa) some
theorem Xzh {β : Type} (k : Nat) (v : (Int × (Int × Aa))) (K : KT β) : Aj (X42 k) Tryz.f324 (PsT.put Xu8 (v, ())) K = (Xme k v).bind fun r => K (F324_O.put r) :=
 Eq.trans (b := Yb (fun r => K (F324_O.put r)) k v) (by kernel_rfl) (by simp only [Xme, Yb, z1, z2, z3, z4, z5, z6, z7, z8, u_4])
def Xqf (k : Nat) : FD := ⟨324, Xu8, F324_O, Xme k⟩
theorem X89 (k : Nat) : (Xqf k).Ok Tryz.prog := ⟨fun x => Ac (Am (Ah (.c (Xvm k) (.c (U1 k) .n))) _ _ _ _) Ak Tryz.func324 rfl rfl (Xzh k _ some), .of (by kernel_rfl)⟩
abbrev Ybl (k : Nat) : Env := Bc (A0 [Xhe k, Xf8 k]) Ao .own [] k
abbrev Xoi : Type := (Int × (Int × Aa)) × Bool
abbrev Xo0 : List PA := [.one (.sl .ro (.int .u8))]
abbrev F349_O : RO := ⟨[.a, .v], [.pair mI m_3, mB]⟩
def Yw {β : Type} (RET : Xoi → Option β) (k : Nat) (v : Aa) : Option β := cond (decide ((v.length : Int) < 4)) (RET ((0, 0, []), false)) (cond (decide (0 < (v.length : Int))) ((Xgu k v 1 2).bind fun b1 => cond (decide (0 ≤ 4) && decide (4 ≤ (v.length : Int))) (Be (([] : Aa).length) ((v.drop 4).length) 1 ((Xgc k (i64.wrap (Ad v 0), b1, [] ++ (v.drop 4))).bind fun b2 => cond (!b2) (RET ((0, 0, []), false)) (cond (decide (3 < (v.length : Int))) (cond ((i64.wrap (Ad v 3)) != (([] ++ (v.drop 4)).length : Int)) (RET ((0, 0, []), false)) (RET ((i64.wrap (Ad v 0), b1, [] ++ (v.drop 4)), true))) none))) none) none)
def Xle := Yw (β := Xoi) some
theorem Xzb {β : Type} (k : Nat) (v : Aa) (K : KT β) : Aj (Ybl k) Tryz.f349 (PsT.put Xo0 (v, ())) K = (Xle k v).bind fun r => K (F349_O.put r) :=
 Eq.trans (b := Yw (fun r => K (F349_O.put r)) k v) (by kernel_rfl) (by simp only [Xle, Yw, z1, z2, z3, z4, z5, z6, z7, z8])
def Xwp (k : Nat) : FD := ⟨349, Xo0, F349_O, Xle k⟩
theorem Ybs (k : Nat) : (Xwp k).Ok Tryz.prog := ⟨fun x => Ac (Am (Ah (.c (Xoy k) (.c (Xvm k) .n))) _ _ _ _) Ak Tryz.func349 rfl rfl (Xzb k _ some), .of (by kernel_rfl)⟩
abbrev Ybd (k : Nat) : Env := Bc (A0 [Xwp k]) Ao .own [] k
abbrev Xuh : List PA := [.agg (.pair mI Dd)]
abbrev F325_O : RO := ⟨[.v], [mB]⟩
def Yv {β : Type} (RET : Bool → Option β) (k : Nat) (v : (den Ai)) : Option β := (Xle k v.2.2.2.2.2.2.2.2).bind fun b1 => cond b1.2 (cond (v.2.2.1 == 1) (RET (decide (b1.1.1 ≥ 3))) (RET false)) (RET false)
def Xlg := Yv (β := Bool) some
theorem Xzp {β : Type} (k : Nat) (v : (den Ai)) (K : KT β) : Aj (Ybd k) Tryz.f325 (PsT.put Xuh (v, ())) K = (Xlg k v).bind fun r => K (F325_O.put r) :=
 Eq.trans (b := Yv (fun r => K (F325_O.put r)) k v) (by kernel_rfl) (by simp only [Xlg, Yv, z1, z2, z3, z4, z5, z6, z7, z8, Az])
def Xvj (k : Nat) : FD := ⟨325, Xuh, F325_O, Xlg k⟩
theorem Ybc (k : Nat) : (Xvj k).Ok Tryz.prog := ⟨fun x => Ac (Am (Ah (.c (Ybs k) .n)) _ _ _ _) Ak Tryz.func325 rfl rfl (Xzp k _ some), .of (by kernel_rfl)⟩
abbrev Ybp (k : Nat) : Env := Bc (A0 [Xwc k, Xqf k, Gx k, C9 k, Xvj k]) Ao .own [] k
abbrev Xtg : List PA := [.agg (.pair mI Dd), .one mI, .one mI, .one mI]
abbrev F262_O : RO := ⟨[.a, .v], [.pair mI M5, mB]⟩
def Zx {β : Type} (RET : (den Ai) × Bool → Option β) (k : Nat) (v : (den Ai)) (w p q : Int) : Option β := (Xm0 k v).bind fun b1 => cond (decide (0 ≤ (if 20 < (b1.length : Int) then 20 else (b1.length : Int))) && decide ((if 20 < (b1.length : Int) then 20 else (b1.length : Int)) ≤ (b1.length : Int))) ((Xme k (p, q, (b1.take ((if 20 < (b1.length : Int) then 20 else (b1.length : Int)).toNat)).drop 0)).bind fun b2 => (Ha k v).bind fun b3 => cond (!b3) (RET ((0, 0, 0, 0, 0, 0, false, false, []), false)) ((Hc k w 0 65535).bind fun b4 => cond (!b4) (RET ((0, 0, 0, 0, 0, 0, false, false, []), false)) ((Hc k p 3 6).bind fun b5 => cond (!b5) (RET ((0, 0, 0, 0, 0, 0, false, false, []), false)) (cond ((b2.length : Int) == 0) (RET ((0, 0, 0, 0, 0, 0, false, false, []), false)) ((Xlg k v).bind fun b6 => cond b6 (RET ((0, 0, 0, 0, 0, 0, false, false, []), false)) (cond (decide (v.2.2.2.2.2.1 > 0)) (RET ((0, 0, 0, 0, 0, 0, false, false, []), false)) (RET ((w, v.1, 1, 64, v.2.2.2.2.1, 0, false, false, b2), true)))))))) none
def Xdt := Zx (β := (den Ai) × Bool) some
theorem X1l {β : Type} (k : Nat) (v : (den Ai)) (w p q : Int) (K : KT β) : Aj (Ybp k) Tryz.f262 (PsT.put Xtg (v, w, p, q, ())) K = (Xdt k v w p q).bind fun r => K (F262_O.put r) :=
 Eq.trans (b := Zx (fun r => K (F262_O.put r)) k v w p q) (by kernel_rfl) (by simp only [Xdt, Zx, z1, z2, z3, z4, z5, z6, z7, z8, Az])
def Xwg (k : Nat) : FD := ⟨262, Xtg, F262_O, Xdt k⟩
theorem X4v (k : Nat) : (Xwg k).Ok Tryz.prog := ⟨fun x => Ac (Am (Ah (.c (X37 k) (.c (X89 k) (.c (Ig k) (.c (Dl k) (.c (Ybc k) .n)))))) _ _ _ _) Ak Tryz.func262 rfl rfl (X1l k _ _ _ _ some), .of (by kernel_rfl)⟩
abbrev X5r (k : Nat) : Env := Bc (A0 [Xwg k]) Ao .own [] k
abbrev Xot : List PA := [.agg (.pair mI (.sl .ro Ci)), .agg (.pair mI Dd), .one mI, .one mI]
abbrev F203_O : RO := ⟨[.a], [Xst]⟩
def Xc3 (k : Nat) (v : (den sta)) (w : (den Ai)) (p q : Int) : Option ((den Sd)) := (Xdt k w v.1 p q).bind fun b1 => cond (!b1.2) (some (0, 0, [])) (some (3, 0, [b1.1]))
theorem Xyt {β : Type} (k : Nat) (v : (den sta)) (w : (den Ai)) (p q : Int) (K : KT β) : Aj (X5r k) Tryz.f203 (PsT.put Xot (v, w, p, q, ())) K = (Xc3 k v w p q).bind fun r => K (F203_O.put r) :=
 Eq.trans (b := (Xdt k w v.1 p q).bind fun b1 => cond (!b1.2) (K (F203_O.put (0, 0, []))) (K (F203_O.put (3, 0, [b1.1])))) (by kernel_rfl) (by simp only [Xc3, z1, z2, z3, z4, z5, z6, z7, z8, Az])
def Xtp (k : Nat) : FD := ⟨203, Xot, F203_O, Xc3 k⟩
theorem Ybi (k : Nat) : (Xtp k).Ok Tryz.prog := ⟨fun x => Ac (Am (Ah (.c (X4v k) .n)) _ _ _ _) Ak Tryz.func203 rfl rfl (Xyt k _ _ _ _ some), .of (by kernel_rfl)⟩
abbrev X9n (k : Nat) : Env := Bc (A0 [Xa7 k, C9 k, Xia k]) Ao .own [] k
abbrev Xvc : List PA := [.agg m_7, .one mI]
abbrev F263_O : RO := ⟨[.v], [mB]⟩
def Xd {β : Type} (RET : Bool → Option β) (k : Nat) (v : (den Ci)) (w : Int) : Option β := (Zw k v).bind fun b1 => cond b1 ((Hc k w 0 65535).bind fun b2 => cond b2 ((Xdx k v.2.1).bind fun b3 => cond (decide (b3 = 0)) none ((Xdx k v.2.1).bind fun b4 => cond (decide (b4 = 0)) none (RET ((i64.wrap (w.tdiv b3)) == (i64.wrap (v.1.tdiv b4)))))) (RET false)) (RET false)
def Xnv := Xd (β := Bool) some
theorem X0e {β : Type} (k : Nat) (v : (den Ci)) (w : Int) (K : KT β) : Aj (X9n k) Tryz.f263 (PsT.put Xvc (v, w, ())) K = (Xnv k v w).bind fun r => K (F263_O.put r) :=
 Eq.trans (b := Xd (fun r => K (F263_O.put r)) k v w) (by kernel_rfl) (by simp only [Xnv, Xd, z1, z2, z3, z4, z5, z6, z7, z8, C7])
def Xwb (k : Nat) : FD := ⟨263, Xvc, F263_O, Xnv k⟩
theorem X6z (k : Nat) : (Xwb k).Ok Tryz.prog := ⟨fun x => Ac (Am (Ah (.c (Xhr k) (.c (Dl k) (.c (Xt0 k) .n)))) _ _ _ _) Ak Tryz.func263 rfl rfl (X0e k _ _ some), .of (by kernel_rfl)⟩
def X7g : Nat → Hint
 | 0 => ⟨pl 0 2 (pl 4 1 (pl 6 1 [])), pl 4000 4 []⟩
 | _ => ⟨[], []⟩
abbrev Zk (k : Nat) : Env := Bc (A0 [Zy k, Xwb k]) X7g .own [] k
abbrev Xht : List PA := [.one (.sl .ro Ci), .one mI]
abbrev F204_O : RO := ⟨[.a, .v], [m_7, mB]⟩
noncomputable def X71 {β : Type} (k : Nat) (v : A5) (w : Int) (K : KT β) : Ex → St → Option β := Br (Zk k) Tryz.f204 (PsT.put Xht (v, w, ())) K
def Xzy (v : A5) (w : Int) (x6_0 : Int) : St := ⟨(.one (.s .ro Ci v)) :: (.one (vI w)) :: (.one .d) :: (.one .d) :: (.one (.ptr (.cell 4000) 4 0)) :: (.one .d) :: (.one (vI x6_0)) :: dz 22 [], A9 4000 (B0 m_7 (0, 0, 0, 0)) []⟩
noncomputable def Qd {β : Type} (k : Nat) (v : A5) (w : Int) (K : KT β) (n : Nat) (x6_0 : Int) : Option β := A2 (Zk k) Tryz.f204 [1, 0, 1, 0] 0 (Ae (Zk k) [1, 0, 1, 0] (Af Tryz.f204) 0 (X71 k v w K)) n (Xzy v w x6_0)
def G2 {β : Type} (NX : Int → Option β) (RET : (den Ci) × Bool → Option β) (k : Nat) (v : A5) (w : Int) (x6_0 : Int) : Option β := cond (decide (x6_0 ≥ 0)) ((F202 k v).bind fun b1 => cond b1 (Ax x6_0 v ((Xnv k (Ad v x6_0) w).bind fun b2 => cond b2 (Ax x6_0 v (RET ((Ad v x6_0), true))) (NX (i64.wrap (x6_0 - 1))))) (RET ((0, 0, 0, 0), false))) (RET ((0, 0, 0, 0), false))
def Ia (k : Nat) (v : A5) (w : Int) : Nat → Int → Option ((den Ci) × Bool)
 | 0, _ => none
 | n + 1, x6_0 => G2 (Ia k v w n) some k v w x6_0
theorem Xh4 {β : Type} (k : Nat) (v : A5) (w : Int) (K : KT β) (n : Nat) : ∀ (x6_0 : Int), Qd k v w K n x6_0 =
  (Ia k v w n x6_0).bind fun r => K (F204_O.put r) := by
 induction n with
 | zero => intros; rfl
 | succ n ih =>
  intro x6_0
  refine Eq.trans (b := G2 (Qd k v w K n) (fun r => K (F204_O.put r)) k v w x6_0) (by kernel_rfl) ?_
  rw [Ia]
  simp only [G2, z1, z2, z3, z4, z5, z6, z7, z8, ih]
def Xai {β : Type} (LP0 : Int → Option β) (k : Nat) (v : A5) (w : Int) : Option β := LP0 (i64.wrap ((v.length : Int) - 1))
def Xmg (k : Nat) (v : A5) (w : Int) : Option ((den Ci) × Bool) := Xai (Ia k v w k) k v w
theorem X0r {β : Type} (k : Nat) (v : A5) (w : Int) (K : KT β) : Aj (Zk k) Tryz.f204 (PsT.put Xht (v, w, ())) K = (Xmg k v w).bind fun r => K (F204_O.put r) :=
 Eq.trans (b := Xai (Qd k v w K k) k v w) (by kernel_rfl) (by simp only [Xmg, Xai, z1, z2, z3, z4, z5, z6, z7, z8, Xh4])
def Xt7 (k : Nat) : FD := ⟨204, Xht, F204_O, Xmg k⟩
theorem X8p (k : Nat) : (Xt7 k).Ok Tryz.prog := ⟨fun x => Ac (Am (Ah (.c (Xep k) (.c (X6z k) .n))) _ _ _ _) Ak Tryz.func204 rfl rfl (X0r k _ _ some), .of (by kernel_rfl)⟩
def X4x : Nat → Hint
 | 0 => ⟨pl 1 2 ((6, .own .own Ai []) :: (pl 7 1 [])), pl 2000 9 []⟩
 | _ => ⟨[], []⟩
abbrev Y8 (k : Nat) : Env := Bc (A0 [Gx k, C9 k]) X4x .own [] k
abbrev Xfa : List PA := [.agg (.pair mI Dd), .one mI]
abbrev F205_O : RO := ⟨[.v, .v], [.sl .own Ai, mB]⟩
noncomputable def Yb7 {β : Type} (k : Nat) (v : (den Ai)) (w : Int) (K : KT β) : Ex → St → Option β := Br (Y8 k) Tryz.f205 (PsT.put Xfa (v, w, ())) K
def Xy4 (v : (den Ai)) (w : Int) (x7_0 : Int) (m6900_0 : Aq) : St := ⟨(.one .d) :: (.one (vI w)) :: (.one (.ptr (.cell 2000) 9 0)) :: dz 3 ((.one (.a (.cell 6900) 0 0 none)) :: (.one (vI x7_0)) :: dz 75 []), A9 2000 (B0 (.pair mI Dd) v) [eM 6900 (.s .own Ai m6900_0)]⟩
noncomputable def Qi {β : Type} (k : Nat) (v : (den Ai)) (w : Int) (K : KT β) (n : Nat) (x7_0 : Int) (m6900_0 : Aq) : Option β := A2 (Y8 k) Tryz.f205 [1, 1, 1, 0, 1, 0] 0 (Ae (Y8 k) [1, 1, 1, 0, 1, 0] (Af Tryz.f205) 0 (Yb7 k v w K)) n (Xy4 v w x7_0 m6900_0)
def Fu {β : Type} (k : Nat) (v : (den Ai)) (w : Int) (NX : Int → Aq → Option β) (RET : (Aq × Bool) → Option β) (x7_0 : Int) (m6900_0 : Aq) : Option β := Az v fun v0 v1 v2 v3 v4 v5 v6 v7 v8 => cond v6 (cond (decide (0 ≤ (if (v8.length : Int) < (i64.wrap (x7_0 + w)) then (v8.length : Int) else i64.wrap (x7_0 + w))) && decide ((if (v8.length : Int) < (i64.wrap (x7_0 + w)) then (v8.length : Int) else i64.wrap (x7_0 + w)) ≤ (v8.length : Int))) (cond (decide (0 ≤ x7_0) && decide (x7_0 ≤ (if (v8.length : Int) < (i64.wrap (x7_0 + w)) then (v8.length : Int) else i64.wrap (x7_0 + w)))) (Be (([] : Aa).length) (((v8.take ((if (v8.length : Int) < (i64.wrap (x7_0 + w)) then (v8.length : Int) else i64.wrap (x7_0 + w)).toNat)).drop x7_0.toNat).length) 1 (cond (decide ((i64.wrap (v5 + x7_0)) > 255)) (RET ([], false)) (Be (m6900_0.length) (([(v0, v1, v2, v3, v4, i64.wrap (v5 + x7_0), true, v7, [] ++ ((v8.take ((if (v8.length : Int) < (i64.wrap (x7_0 + w)) then (v8.length : Int) else i64.wrap (x7_0 + w)).toNat)).drop x7_0.toNat))] : Aq).length) 80 (NX (i64.wrap (x7_0 + w)) (m6900_0 ++ [(v0, v1, v2, v3, v4, i64.wrap (v5 + x7_0), true, v7, [] ++ ((v8.take ((if (v8.length : Int) < (i64.wrap (x7_0 + w)) then (v8.length : Int) else i64.wrap (x7_0 + w)).toNat)).drop x7_0.toNat))]))))) none) none) (cond (decide (0 ≤ (if (v8.length : Int) < (i64.wrap (x7_0 + w)) then (v8.length : Int) else i64.wrap (x7_0 + w))) && decide ((if (v8.length : Int) < (i64.wrap (x7_0 + w)) then (v8.length : Int) else i64.wrap (x7_0 + w)) ≤ (v8.length : Int))) (cond (decide (0 ≤ x7_0) && decide (x7_0 ≤ (if (v8.length : Int) < (i64.wrap (x7_0 + w)) then (v8.length : Int) else i64.wrap (x7_0 + w)))) (Be (([] : Aa).length) (((v8.take ((if (v8.length : Int) < (i64.wrap (x7_0 + w)) then (v8.length : Int) else i64.wrap (x7_0 + w)).toNat)).drop x7_0.toNat).length) 1 (cond (decide ((i64.wrap (v5 + x7_0)) > 255)) (RET ([], false)) (Be (m6900_0.length) (([(v0, v1, v2, v3, v4, i64.wrap (v5 + x7_0), decide ((if (v8.length : Int) < (i64.wrap (x7_0 + w)) then (v8.length : Int) else i64.wrap (x7_0 + w)) < (v8.length : Int)), v7, [] ++ ((v8.take ((if (v8.length : Int) < (i64.wrap (x7_0 + w)) then (v8.length : Int) else i64.wrap (x7_0 + w)).toNat)).drop x7_0.toNat))] : Aq).length) 80 (NX (i64.wrap (x7_0 + w)) (m6900_0 ++ [(v0, v1, v2, v3, v4, i64.wrap (v5 + x7_0), decide ((if (v8.length : Int) < (i64.wrap (x7_0 + w)) then (v8.length : Int) else i64.wrap (x7_0 + w)) < (v8.length : Int)), v7, [] ++ ((v8.take ((if (v8.length : Int) < (i64.wrap (x7_0 + w)) then (v8.length : Int) else i64.wrap (x7_0 + w)).toNat)).drop x7_0.toNat))]))))) none) none)
def Hn {β : Type} (NX : Int → Aq → Option β) (RET : (Aq × Bool) → Option β) (k : Nat) (v : (den Ai)) (w : Int) (x7_0 : Int) (m6900_0 : Aq) : Option β := cond (x7_0 == 0) (Fu k v w NX RET x7_0 m6900_0) (cond (decide (x7_0 < (v.2.2.2.2.2.2.2.2.length : Int))) (Fu k v w NX RET x7_0 m6900_0) (RET (m6900_0, true)))
def Ew (k : Nat) (v : (den Ai)) (w : Int) : Nat → Int → Aq → Option (Aq × Bool)
 | 0, _, _ => none
 | n + 1, x7_0, m6900_0 => Hn (Ew k v w n) some k v w x7_0 m6900_0
theorem Xhf {β : Type} (k : Nat) (v : (den Ai)) (w : Int) (K : KT β) (n : Nat) : ∀ (x7_0 : Int) (m6900_0 : Aq), Qi k v w K n x7_0 m6900_0 =
  (Ew k v w n x7_0 m6900_0).bind fun r => K (F205_O.put r) := by
 induction n with
 | zero => intros; rfl
 | succ n ih =>
  intro x7_0 m6900_0
  refine Eq.trans (b := Hn (Qi k v w K n) (fun r => K (F205_O.put r)) k v w x7_0 m6900_0) (by kernel_rfl) ?_
  rw [Ew]
  simp only [Hn, Fu, z1, z2, z3, z4, z5, z6, z7, z8, Az, ih]
def Xap {β : Type} (LP0 : Int → Aq → Option β) (RET : (Aq × Bool) → Option β) (k : Nat) (v : (den Ai)) (w : Int) : Option β := (Ha k v).bind fun b1 => cond (!b1) (RET ([], false)) ((Hc k w 1 48).bind fun b2 => cond (!b2) (RET ([], false)) (cond (decide ((v.2.2.2.2.2.2.2.2.length : Int) > w)) (cond v.2.2.2.2.2.2.2.1 (RET ([], false)) (LP0 0 [])) (LP0 0 [])))
def Xcn (k : Nat) (v : (den Ai)) (w : Int) : Option (Aq × Bool) := Xap (Ew k v w k) some k v w
theorem Xyf {β : Type} (k : Nat) (v : (den Ai)) (w : Int) (K : KT β) : Aj (Y8 k) Tryz.f205 (PsT.put Xfa (v, w, ())) K = (Xcn k v w).bind fun r => K (F205_O.put r) :=
 Eq.trans (b := Xap (Qi k v w K k) (fun r => K (F205_O.put r)) k v w) (by kernel_rfl) (by simp only [Xcn, Xap, z1, z2, z3, z4, z5, z6, z7, z8, Az, Xhf])
def Xsw (k : Nat) : FD := ⟨205, Xfa, F205_O, Xcn k⟩
theorem X9q (k : Nat) : (Xsw k).Ok Tryz.prog := ⟨fun x => Ac (Am (Ah (.c (Ig k) (.c (Dl k) .n))) _ _ _ _) Ak Tryz.func205 rfl rfl (Xyf k _ _ some), .of (by kernel_rfl)⟩
end
end Go.Proofs.YtdmepjjepogddaaGreat.Gn
end

section
set_option linter.unusedVariables false
set_option linter.unusedSimpArgs false
namespace Go.Proofs.YtdmepjjepogddaaGreat.Gn
open Go.Rf IntKind
noncomputable section
abbrev X4f (k : Nat) : Env := Bc (A0 [Xgy k, Gx k, Tl k, Xtp k, Xt7 k, Xsw k]) Ao .own [] k
abbrev Xsy : List PA := [.agg (.pair mI (.sl .ro Ci)), .agg (.pair mI Dd)]
abbrev F131_O : RO := ⟨[.a], [Xst]⟩
def Nr {β : Type} (k : Nat) (v : (den sta)) (w : (den Ai)) (RET : (den Sd) → Option β) (b5 : (den Ci) × Bool) : Option β := (N0 k w).bind fun b8 => (Xcn k (b8.1, b8.2.1, b8.2.2.1, i64.wrap (w.2.2.2.1 - 1), b8.2.2.2.2) b5.1.2.2.2).bind fun b9 => cond (!b9.2) (RET (0, 0, [])) (RET (2, b5.1.2.2.1, b9.1))
def Z6 {β : Type} (RET : (den Sd) → Option β) (k : Nat) (v : (den sta)) (w : (den Ai)) : Option β := (F129 k v).bind fun b1 => cond (!b1) (RET (0, 0, [])) ((Ha k w).bind fun b2 => cond (!b2) (RET (0, 0, [])) (cond (w.2.1 == v.1) ((N0 k w).bind fun b3 => RET (1, 0, [b3])) (cond (decide (w.2.2.2.1 < 2)) ((Xc3 k v w 4 0).bind fun b4 => RET b4) ((Xmg k v.2 w.2.1).bind fun b5 => cond (!b5.2) ((Xc3 k v w 3 0).bind fun b6 => RET b6) (cond (decide ((w.2.2.2.2.2.2.2.2.length : Int) > b5.1.2.2.2)) (cond w.2.2.2.2.2.2.2.1 ((Xc3 k v w 6 b5.1.2.2.2).bind fun b7 => RET b7) (Nr k v w RET b5)) (Nr k v w RET b5))))))
def Xim := Z6 (β := (den Sd)) some
theorem X1a {β : Type} (k : Nat) (v : (den sta)) (w : (den Ai)) (K : KT β) : Aj (X4f k) Tryz.f131 (PsT.put Xsy (v, w, ())) K = (Xim k v w).bind fun r => K (F131_O.put r) :=
 Eq.trans (b := Z6 (fun r => K (F131_O.put r)) k v w) (by kernel_rfl) (by simp only [Xim, Z6, Nr, z1, z2, z3, z4, z5, z6, z7, z8, Az])
def Xo9 (k : Nat) : FD := ⟨131, Xsy, F131_O, Xim k⟩
theorem X4a (k : Nat) : (Xo9 k).Ok Tryz.prog := ⟨fun x => Ac (Am (Ah (.c (Xsk k) (.c (Ig k) (.c (Xaw k) (.c (Ybi k) (.c (X8p k) (.c (X9q k) .n))))))) _ _ _ _) Ak Tryz.func131 rfl rfl (X1a k _ _ some), .of (by kernel_rfl)⟩
def Yce : Nat → Hint
 | 0 => ⟨pl 0 2 (pl 5 1 []), []⟩
 | _ => ⟨[], []⟩
abbrev Yq (k : Nat) : Env := Bc Bx Yce .own [] k
abbrev Xd8 : List PA := [.one (.sl .ro sta), .one mI]
abbrev F132_O : RO := ⟨[.v], [mI]⟩
noncomputable def X6p {β : Type} (k : Nat) (v : An) (w : Int) (K : KT β) : Ex → St → Option β := Br (Yq k) Tryz.f132 (PsT.put Xd8 (v, w, ())) K
def X0p (v : An) (w : Int) (x5_0 : Int) : St := ⟨(.one (.s .ro sta v)) :: (.one (vI w)) :: dz 3 ((.one (vI x5_0)) :: dz 14 []), []⟩
noncomputable def Ph {β : Type} (k : Nat) (v : An) (w : Int) (K : KT β) (n : Nat) (x5_0 : Int) : Option β := A2 (Yq k) Tryz.f132 [1, 0, 1, 0] 0 (Ae (Yq k) [1, 0, 1, 0] (Af Tryz.f132) 0 (X6p k v w K)) n (X0p v w x5_0)
def Lv {β : Type} (NX : Int → Option β) (RET : Int → Option β) (k : Nat) (v : An) (w : Int) (x5_0 : Int) : Option β := cond (decide (x5_0 < (v.length : Int))) (Ax x5_0 v (cond ((Ad v x5_0).1 == w) (RET x5_0) (NX (i64.wrap (x5_0 + 1))))) (RET (-1))
def Kv (k : Nat) (v : An) (w : Int) : Nat → Int → Option (Int)
 | 0, _ => none
 | n + 1, x5_0 => Lv (Kv k v w n) some k v w x5_0
theorem Xg7 {β : Type} (k : Nat) (v : An) (w : Int) (K : KT β) (n : Nat) : ∀ (x5_0 : Int), Ph k v w K n x5_0 =
  (Kv k v w n x5_0).bind fun r => K (F132_O.put r) := by
 induction n with
 | zero => intros; rfl
 | succ n ih =>
  intro x5_0
  refine Eq.trans (b := Lv (Ph k v w K n) (fun r => K (F132_O.put r)) k v w x5_0) (by kernel_rfl) ?_
  rw [Kv]
  simp only [Lv, z1, z2, z3, z4, z5, z6, z7, z8, ih]
def Xej {β : Type} (LP0 : Int → Option β) (k : Nat) (v : An) (w : Int) : Option β := LP0 0
def Xli (k : Nat) (v : An) (w : Int) : Option (Int) := Xej (Kv k v w k) k v w
theorem Xyk {β : Type} (k : Nat) (v : An) (w : Int) (K : KT β) : Aj (Yq k) Tryz.f132 (PsT.put Xd8 (v, w, ())) K = (Xli k v w).bind fun r => K (F132_O.put r) :=
 Eq.trans (b := Xej (Ph k v w K k) k v w) (by kernel_rfl) (by simp only [Xli, Xej, z1, z2, z3, z4, z5, z6, z7, z8, Xg7])
def Xr9 (k : Nat) : FD := ⟨132, Xd8, F132_O, Xli k⟩
theorem Ybb (k : Nat) : (Xr9 k).Ok Tryz.prog := ⟨fun x => Ac (Am .none _ _ _ _) Ak Tryz.func132 rfl rfl (Xyk k _ _ some), .of (by kernel_rfl)⟩
def Yeg : Nat → Hint
 | 0 => ⟨pl 0 1 (pl 6 2 ((8, .own .own (.int .i64) []) :: (9, .own .sown Ai []) :: (pl 10 1 []))), pl 6000 3 ((7000, .own .sown Ai []) :: (7001, .own .sown Ai []) :: (pl 7002 1 []))⟩
 | 2 => ⟨pl 0 1 (pl 6 2 ((8, .own .own (.int .i64) []) :: (9, .own .sown Ai []) :: (pl 10 4 []))), pl 6000 3 ((7000, .own .sown Ai []) :: (7001, .own .sown Ai []) :: (pl 7002 1 (pl 11000 2 ((11002, .own .sown Ai []) :: (pl 53002 1 [])))))⟩
 | _ => ⟨[], []⟩
abbrev Ju (k : Nat) : Env := Bc (A0 [Xjy k, Gx k, C9 k, Xo9 k, Xr9 k]) Yeg .ro [] k
abbrev Xsb : List PA := [.one (.sl .ro sta), .one mI, .agg (.pair mI Dd)]
abbrev F61_O : RO := ⟨[.a], [m_13]⟩
noncomputable def Xuu {β : Type} (k : Nat) (v : An) (w : Int) (p : (den Ai)) (K : KT β) : Ex → St → Option β := Br (Ju k) Tryz.f61 (PsT.put Xsb (v, w, p, ())) K
def X5q (v : An) (w : Int) (p : (den Ai)) (x10_2 x12_2 x13_2 : Int) (m7000_2 : (den Dg)) (m11000_2 : (den Sd)) (m8900_2 : Bn) (m9900_2 : Aq) : St := ⟨(.one (.s .ro sta v)) :: dz 5 ((.one (.ptr (.cell 6000) 3 0)) :: (.one (.ptr (.cell 7000) 3 0)) :: (.one (.a (.cell 8900) 0 0 none)) :: (.one (.a (.cell 9900) 0 0 none)) :: (.one (vI x10_2)) :: (.one (.ptr (.cell 11000) 3 0)) :: (.one (vI x12_2)) :: (.one (vI x13_2)) :: dz 99 []), A9 6000 (B0 L0 ([], [], 0)) (A9 7000 (B0 Xs1 m7000_2) (A9 11000 (B0 X1p m11000_2) [eM 53002 .d, eM 8900 (.s .own (.int .i64) m8900_2), eM 9900 (.s .sown Ai m9900_2)]))⟩
noncomputable def U0 {β : Type} (k : Nat) (v : An) (w : Int) (p : (den Ai)) (KK : Ex → St → Option β) (n : Nat) (x10_2 x12_2 x13_2 : Int) (m7000_2 : (den Dg)) (m11000_2 : (den Sd)) (m8900_2 : Bn) (m9900_2 : Aq) : Option β := A2 (Ju k) Tryz.f61 [1, 1, 1, 1, 1, 0, 1, 0, 0, 1, 0, 0, 1, 1, 1, 1, 0] 2 KK n (X5q v w p x10_2 x12_2 x13_2 m7000_2 m11000_2 m8900_2 m9900_2)
def Nq {β : Type} (NX : Int → Int → Int → (den Dg) → (den Sd) → Bn → Aq → Option β) (EX0 : (Int × Int × Int × (den Sd) × (den Dg) × Bn × Aq) → Option β) (k : Nat) (v : An) (w : Int) (p : (den Ai)) (x10_2 x12_2 x13_2 : Int) (m7000_2 : (den Dg)) (m11000_2 : (den Sd)) (m8900_2 : Bn) (m9900_2 : Aq) : Option β := cond (decide (x13_2 < (m11000_2.2.2.length : Int))) (cond (m11000_2.1 == 1) (Ax x13_2 m11000_2.2.2 (Be (m7000_2.1.length) ([(Ad m11000_2.2.2 x13_2)].length) 80 (NX x10_2 x12_2 (i64.wrap (x13_2 + 1)) (m7000_2.1 ++ [(Ad m11000_2.2.2 x13_2)], m7000_2.2) m11000_2 m8900_2 m9900_2))) (cond (m11000_2.1 == 3) (Ax x13_2 m11000_2.2.2 (Be (m7000_2.2.1.length) ([(Ad m11000_2.2.2 x13_2)].length) 80 (NX x10_2 x12_2 (i64.wrap (x13_2 + 1)) (m7000_2.1, m7000_2.2.1 ++ [(Ad m11000_2.2.2 x13_2)], m7000_2.2.2) m11000_2 m8900_2 m9900_2))) (cond (decide (x12_2 ≥ 0)) (Be (m8900_2.length) ([x12_2].length) 8 (Ax x13_2 m11000_2.2.2 (Be (m9900_2.length) ([(Ad m11000_2.2.2 x13_2)].length) 80 (NX x10_2 x12_2 (i64.wrap (x13_2 + 1)) m7000_2 m11000_2 (m8900_2 ++ [x12_2]) (m9900_2 ++ [(Ad m11000_2.2.2 x13_2)]))))) (NX x10_2 x12_2 (i64.wrap (x13_2 + 1)) m7000_2 m11000_2 m8900_2 m9900_2)))) (EX0 (x10_2, x12_2, x13_2, m11000_2, m7000_2, m8900_2, m9900_2))
def Qq (k : Nat) (v : An) (w : Int) (p : (den Ai)) : Nat → Int → Int → Int → (den Dg) → (den Sd) → Bn → Aq → Option ((Int × Int × Int × (den Sd) × (den Dg) × Bn × Aq))
 | 0, _, _, _, _, _, _, _ => none
 | n + 1, x10_2, x12_2, x13_2, m7000_2, m11000_2, m8900_2, m9900_2 => Nq (Qq k v w p n) (fun y2 => some y2) k v w p x10_2 x12_2 x13_2 m7000_2 m11000_2 m8900_2 m9900_2
theorem Xnf {β : Type} (k : Nat) (v : An) (w : Int) (p : (den Ai)) (KK : Ex → St → Option β) (n : Nat) : ∀ (x10_2 x12_2 x13_2 : Int) (m7000_2 : (den Dg)) (m11000_2 : (den Sd)) (m8900_2 : Bn) (m9900_2 : Aq), U0 k v w p KK n x10_2 x12_2 x13_2 m7000_2 m11000_2 m8900_2 m9900_2 =
  (Qq k v w p n x10_2 x12_2 x13_2 m7000_2 m11000_2 m8900_2 m9900_2).bind fun y2 => KK (.exit 2) ⟨(.one (.s .ro sta v)) :: dz 5 ((.one (.ptr (.cell 6000) 3 0)) :: (.one (.ptr (.cell 7000) 3 0)) :: (.one (.a (.cell 8900) 0 0 none)) :: (.one (.a (.cell 9900) 0 0 none)) :: (.one (vI y2.1)) :: (.one (.ptr (.cell 11000) 3 0)) :: (.one (vI y2.2.1)) :: (.one (vI y2.2.2.1)) :: dz 48 ((.one (vI y2.2.2.1)) :: (.one (.ptr (.cell 11002) 1 0)) :: (.one (.a (.cell 11002) 0 0 none)) :: (.one (vI (y2.2.2.2.1.2.2.length : Int))) :: (.one (vB false)) :: dz 46 [])), A9 6000 (B0 L0 ([], [], 0)) (A9 7000 (B0 Xs1 y2.2.2.2.2.1) (A9 11000 (B0 X1p y2.2.2.2.1) [eM 53002 .d, eM 8900 (.s .own (.int .i64) y2.2.2.2.2.2.1), eM 9900 (.s .sown Ai y2.2.2.2.2.2.2)]))⟩ := by
 induction n with
 | zero => intros; rfl
 | succ n ih =>
  intro x10_2 x12_2 x13_2 m7000_2 m11000_2 m8900_2 m9900_2
  refine Eq.trans (b := Nq (U0 k v w p KK n) (fun y2 => KK (.exit 2) ⟨(.one (.s .ro sta v)) :: dz 5 ((.one (.ptr (.cell 6000) 3 0)) :: (.one (.ptr (.cell 7000) 3 0)) :: (.one (.a (.cell 8900) 0 0 none)) :: (.one (.a (.cell 9900) 0 0 none)) :: (.one (vI y2.1)) :: (.one (.ptr (.cell 11000) 3 0)) :: (.one (vI y2.2.1)) :: (.one (vI y2.2.2.1)) :: dz 48 ((.one (vI y2.2.2.1)) :: (.one (.ptr (.cell 11002) 1 0)) :: (.one (.a (.cell 11002) 0 0 none)) :: (.one (vI (y2.2.2.2.1.2.2.length : Int))) :: (.one (vB false)) :: dz 46 [])), A9 6000 (B0 L0 ([], [], 0)) (A9 7000 (B0 Xs1 y2.2.2.2.2.1) (A9 11000 (B0 X1p y2.2.2.2.1) [eM 53002 .d, eM 8900 (.s .own (.int .i64) y2.2.2.2.2.2.1), eM 9900 (.s .sown Ai y2.2.2.2.2.2.2)]))⟩) k v w p x10_2 x12_2 x13_2 m7000_2 m11000_2 m8900_2 m9900_2) (by kernel_rfl) ?_
  rw [Qq]
  simp only [Nq, z1, z2, z3, z4, z5, z6, z7, z8, Az, ih]
def X8f (v : An) (w : Int) (p : (den Ai)) (x10_0 : Int) (m7000_0 : (den Dg)) (m8900_0 : Bn) (m9900_0 : Aq) : St := ⟨(.one (.s .ro sta v)) :: dz 5 ((.one (.ptr (.cell 6000) 3 0)) :: (.one (.ptr (.cell 7000) 3 0)) :: (.one (.a (.cell 8900) 0 0 none)) :: (.one (.a (.cell 9900) 0 0 none)) :: (.one (vI x10_0)) :: dz 102 []), A9 6000 (B0 L0 ([], [], 0)) (A9 7000 (B0 Xs1 m7000_0) [eM 8900 (.s .own (.int .i64) m8900_0), eM 9900 (.s .sown Ai m9900_0)])⟩
noncomputable def Uz {β : Type} (k : Nat) (v : An) (w : Int) (p : (den Ai)) (K : KT β) (n : Nat) (x10_0 : Int) (m7000_0 : (den Dg)) (m8900_0 : Bn) (m9900_0 : Aq) : Option β := A2 (Ju k) Tryz.f61 [1, 1, 1, 1, 1, 0, 1, 0] 0 (Ae (Ju k) [1, 1, 1, 1, 1, 0, 1, 0] (Af Tryz.f61) 0 (Xuu k v w p K)) n (X8f v w p x10_0 m7000_0 m8900_0 m9900_0)
def Eg (k : Nat) (v : An) (w : Int) (p : (den Ai)) : Nat → Int → (den Dg) → Bn → Aq → Option ((den Dg))
 | 0, _, _, _, _ => none
 | n + 1, x10_0, m7000_0, m8900_0, m9900_0 => cond (decide (x10_0 < (m9900_0.length : Int))) (Ax x10_0 m8900_0 (Ax (Ad m8900_0 x10_0) v (Ax x10_0 m9900_0 ((Xim k (Ad v (Ad m8900_0 x10_0)) (Ad m9900_0 x10_0)).bind fun b4 => (Xli k v b4.2.1).bind fun b5 => (Qq k v w p k x10_0 b5 0 (m7000_0.1, m7000_0.2.1, i64.wrap (m7000_0.2.2 + 1)) b4 m8900_0 m9900_0).bind fun y2 => Eg k v w p n (i64.wrap (y2.1 + 1)) y2.2.2.2.2.1 y2.2.2.2.2.2.1 y2.2.2.2.2.2.2)))) (some m7000_0)
theorem Xci {β : Type} (k n : Nat) (v : An) (w : Int) (p : (den Ai)) (y2 : Int × Int × Int × (den Sd) × (den Dg) × Bn × Aq) (K : KT β) :
  (Ae (Ju k) [1, 0, 0, 1, 1, 1, 1, 0] (Ba [1, 1, 1, 1, 1, 0, 1, 0, 0] (Af Tryz.f61)) 0 (Bt (Ju k) Tryz.f61 [1, 1, 1, 1, 1, 0, 1, 0] 0 (Ae (Ju k) [1, 1, 1, 1, 1, 0, 1, 0] (Af Tryz.f61) 0 (Xuu k v w p K)) n)) (.exit 2) ⟨(.one (.s .ro sta v)) :: dz 5 ((.one (.ptr (.cell 6000) 3 0)) :: (.one (.ptr (.cell 7000) 3 0)) :: (.one (.a (.cell 8900) 0 0 none)) :: (.one (.a (.cell 9900) 0 0 none)) :: (.one (vI y2.1)) :: (.one (.ptr (.cell 11000) 3 0)) :: (.one (vI y2.2.1)) :: (.one (vI y2.2.2.1)) :: dz 48 ((.one (vI y2.2.2.1)) :: (.one (.ptr (.cell 11002) 1 0)) :: (.one (.a (.cell 11002) 0 0 none)) :: (.one (vI (y2.2.2.2.1.2.2.length : Int))) :: (.one (vB false)) :: dz 46 [])), A9 6000 (B0 L0 ([], [], 0)) (A9 7000 (B0 Xs1 y2.2.2.2.2.1) (A9 11000 (B0 X1p y2.2.2.2.1) [eM 53002 .d, eM 8900 (.s .own (.int .i64) y2.2.2.2.2.2.1), eM 9900 (.s .sown Ai y2.2.2.2.2.2.2)]))⟩ =
  Uz k v w p K n (i64.wrap (y2.1 + 1)) y2.2.2.2.2.1 y2.2.2.2.2.2.1 y2.2.2.2.2.2.2 := by kernel_rfl
theorem Xlt {β : Type} (k : Nat) (v : An) (w : Int) (p : (den Ai)) (K : KT β) (n : Nat) : ∀ (x10_0 : Int) (m7000_0 : (den Dg)) (m8900_0 : Bn) (m9900_0 : Aq), Uz k v w p K n x10_0 m7000_0 m8900_0 m9900_0 =
  (Eg k v w p n x10_0 m7000_0 m8900_0 m9900_0).bind fun r => K (F61_O.put r) := by
 induction n with
 | zero => intros; rfl
 | succ n ih =>
  intro x10_0 m7000_0 m8900_0 m9900_0
  refine Eq.trans (b := cond (decide (x10_0 < (m9900_0.length : Int))) (Ax x10_0 m8900_0 (Ax (Ad m8900_0 x10_0) v (Ax x10_0 m9900_0 ((Xim k (Ad v (Ad m8900_0 x10_0)) (Ad m9900_0 x10_0)).bind fun b4 => (Xli k v b4.2.1).bind fun b5 => U0 k v w p (Ae (Ju k) [1, 0, 0, 1, 1, 1, 1, 0] (Ba [1, 1, 1, 1, 1, 0, 1, 0, 0] (Af Tryz.f61)) 0 (Bt (Ju k) Tryz.f61 [1, 1, 1, 1, 1, 0, 1, 0] 0 (Ae (Ju k) [1, 1, 1, 1, 1, 0, 1, 0] (Af Tryz.f61) 0 (Xuu k v w p K)) n)) k x10_0 b5 0 (m7000_0.1, m7000_0.2.1, i64.wrap (m7000_0.2.2 + 1)) b4 m8900_0 m9900_0)))) (K (F61_O.put m7000_0))) (by kernel_rfl) ?_
  rw [Eg]
  simp only [z1, z2, z3, z4, z5, z6, z7, z8, Az, Xnf, Xci k n v w p _ K, ih, Ax, Be]
def Xbs {β : Type} (LP0 : Int → (den Dg) → Bn → Aq → Option β) (RET : (den Dg) → Option β) (k : Nat) (v : An) (w : Int) (p : (den Ai)) : Option β := Az p fun p0 p1 p2 p3 p4 p5 p6 p7 p8 => (F59 k v).bind fun b1 => cond (!b1) (RET ([], [], 0)) ((Ha k p).bind fun b2 => cond (!b2) (RET ([], [], 0)) ((Hc k w 0 (i64.wrap ((v.length : Int) - 1))).bind fun b3 => cond (!b3) (RET ([], [], 0)) (LP0 0 ([], [], 0) [w] [(p0, p1, p2, p3, p4, p5, p6, p7, p8)])))
def F61 (k : Nat) (v : An) (w : Int) (p : (den Ai)) : Option ((den Dg)) := Xbs (Eg k v w p k) some k v w p
theorem X6r {β : Type} (k : Nat) (v : An) (w : Int) (p : (den Ai)) (K : KT β) : Aj (Ju k) Tryz.f61 (PsT.put Xsb (v, w, p, ())) K = (F61 k v w p).bind fun r => K (F61_O.put r) :=
 Eq.trans (b := Xbs (Uz k v w p K k) (fun r => K (F61_O.put r)) k v w p) (by kernel_rfl) (by simp only [F61, Xbs, z1, z2, z3, z4, z5, z6, z7, z8, Az, Xlt])
def X2c (k : Nat) : FD := ⟨61, Xsb, F61_O, F61 k⟩
theorem Yc7 (k : Nat) : (X2c k).Ok Tryz.prog := ⟨fun x => Ac (Am (Ah (.c (Xqe k) (.c (Ig k) (.c (Dl k) (.c (X4a k) (.c (Ybb k) .n)))))) _ _ _ _) Ak Tryz.func61 rfl rfl (X6r k _ _ _ some), .of (by kernel_rfl)⟩
abbrev X5i (k : Nat) : Env := Bc Bx Ao .own [] k
abbrev Xvn : List PA := [.agg (.pair mI Dd), .agg (.pair mI Dd)]
abbrev F134_O : RO := ⟨[.v], [mB]⟩
def Zm {β : Type} (RET : Bool → Option β) (k : Nat) (v w : (den Ai)) : Option β := cond (v.1 == w.1) (cond (v.2.1 == w.2.1) (cond (v.2.2.1 == w.2.2.1) (RET (v.2.2.2.2.1 == w.2.2.2.2.1)) (RET false)) (RET false)) (RET false)
def Zz := Zm (β := Bool) some
theorem Xx8 {β : Type} (k : Nat) (v w : (den Ai)) (K : KT β) : Aj (X5i k) Tryz.f134 (PsT.put Xvn (v, w, ())) K = (Zz k v w).bind fun r => K (F134_O.put r) :=
 Eq.trans (b := Zm (fun r => K (F134_O.put r)) k v w) (by kernel_rfl) (by simp only [Zz, Zm, z1, z2, z3, z4, z5, z6, z7, z8, Az])
def S8 (k : Nat) : FD := ⟨134, Xvn, F134_O, Zz k⟩
theorem Xam (k : Nat) : (S8 k).Ok Tryz.prog := ⟨fun x => Ac (Am .none _ _ _ _) Ak Tryz.func134 rfl rfl (Xx8 k _ _ some), .of (by kernel_rfl)⟩
def X5o : Nat → Hint
 | 0 => ⟨pl 1 1 (pl 3 2 []), pl 1000 2 []⟩
 | _ => ⟨[], []⟩
abbrev Z3 (k : Nat) : Env := Bc (A0 [Gx k, S8 k, C9 k]) X5o .own [] k
abbrev Xeh : List PA := [.agg (.pair (.sl .ro Ai) mI)]
abbrev F206_O : RO := ⟨[.v], [mB]⟩
noncomputable def X7y {β : Type} (k : Nat) (v : (den A3)) (K : KT β) : Ex → St → Option β := Br (Z3 k) Tryz.f206 (PsT.put Xeh (v, ())) K
def Xxw (v : (den A3)) (x3_0 x4_0 : Int) : St := ⟨(.one .d) :: (.one (.ptr (.cell 1000) 2 0)) :: (.one .d) :: (.one (vI x3_0)) :: (.one (vI x4_0)) :: dz 78 [], A9 1000 (B0 (.pair (.sl .ro Ai) mI) v) []⟩
noncomputable def Pm {β : Type} (k : Nat) (v : (den A3)) (K : KT β) (n : Nat) (x3_0 x4_0 : Int) : Option β := A2 (Z3 k) Tryz.f206 [1, 1, 0, 1, 0] 0 (Ae (Z3 k) [1, 1, 0, 1, 0] (Af Tryz.f206) 0 (X7y k v K)) n (Xxw v x3_0 x4_0)
def Hh {β : Type} (NX : Int → Int → Option β) (RET : Bool → Option β) (k : Nat) (v : (den A3)) (x3_0 x4_0 : Int) : Option β := Bm v fun v0 v1 => cond (decide (x4_0 < (v0.length : Int))) (Ax x4_0 v0 ((Ha k (Ad v0 x4_0)).bind fun b1 => cond (!b1) (RET false) (cond (decide (0 < (v0.length : Int))) ((Zz k (Ad v0 x4_0) (Ad v0 0)).bind fun b2 => cond (!b2) (RET false) (cond (decide (x4_0 > 0)) (Ax (i64.wrap (x4_0 - 1)) v0 (Ax (i64.wrap (x4_0 - 1)) v0 (cond (decide ((Ad v0 x4_0).2.2.2.2.2.1 < (i64.wrap ((Ad v0 (i64.wrap (x4_0 - 1))).2.2.2.2.2.1 + ((Ad v0 (i64.wrap (x4_0 - 1))).2.2.2.2.2.2.2.2.length : Int))))) (RET false) (Ax (i64.wrap (x4_0 - 1)) v0 (cond (!(Ad v0 (i64.wrap (x4_0 - 1))).2.2.2.2.2.2.1) (RET false) (NX (i64.wrap (x3_0 + ((Ad v0 x4_0).2.2.2.2.2.2.2.2.length : Int))) (i64.wrap (x4_0 + 1)))))))) (NX (i64.wrap (x3_0 + ((Ad v0 x4_0).2.2.2.2.2.2.2.2.length : Int))) (i64.wrap (x4_0 + 1))))) none))) (cond (decide ((v0.length : Int) > 0)) (cond (decide (x3_0 ≤ 48)) ((Hc k v1 0 1000000).bind fun b3 => RET b3) (RET false)) (RET false))
def Eu (k : Nat) (v : (den A3)) : Nat → Int → Int → Option (Bool)
 | 0, _, _ => none
 | n + 1, x3_0, x4_0 => Hh (Eu k v n) some k v x3_0 x4_0
theorem Xez {β : Type} (k : Nat) (v : (den A3)) (K : KT β) (n : Nat) : ∀ (x3_0 x4_0 : Int), Pm k v K n x3_0 x4_0 =
  (Eu k v n x3_0 x4_0).bind fun r => K (F206_O.put r) := by
 induction n with
 | zero => intros; rfl
 | succ n ih =>
  intro x3_0 x4_0
  refine Eq.trans (b := Hh (Pm k v K n) (fun r => K (F206_O.put r)) k v x3_0 x4_0) (by kernel_rfl) ?_
  rw [Eu]
  simp only [Hh, z1, z2, z3, z4, z5, z6, z7, z8, Bm, ih]
def Xef {β : Type} (LP0 : Int → Int → Option β) (k : Nat) (v : (den A3)) : Option β := LP0 0 0
def Uh (k : Nat) (v : (den A3)) : Option (Bool) := Xef (Eu k v k) k v
theorem Xyi {β : Type} (k : Nat) (v : (den A3)) (K : KT β) : Aj (Z3 k) Tryz.f206 (PsT.put Xeh (v, ())) K = (Uh k v).bind fun r => K (F206_O.put r) :=
 Eq.trans (b := Xef (Pm k v K k) k v) (by kernel_rfl) (by simp only [Uh, Xef, z1, z2, z3, z4, z5, z6, z7, z8, Bm, Xez])
def Z9 (k : Nat) : FD := ⟨206, Xeh, F206_O, Uh k⟩
theorem Xf3 (k : Nat) : (Z9 k).Ok Tryz.prog := ⟨fun x => Ac (Am (Ah (.c (Ig k) (.c (Xam k) (.c (Dl k) .n)))) _ _ _ _) Ak Tryz.func206 rfl rfl (Xyi k _ some), .of (by kernel_rfl)⟩
def X38 : Nat → Hint
 | 0 => ⟨pl 0 1 (pl 3 1 []), []⟩
 | 2 => ⟨pl 0 1 (pl 3 2 []), []⟩
 | _ => ⟨[], []⟩
abbrev Dn (k : Nat) : Env := Bc (A0 [Z9 k, S8 k]) X38 .own [] k
abbrev Xfs : List PA := [.one (.sl .ro A3)]
abbrev F133_O : RO := ⟨[.v], [mB]⟩
noncomputable def Z1 {β : Type} (k : Nat) (v : Al) (K : KT β) : Ex → St → Option β := Br (Dn k) Tryz.f133 (PsT.put Xfs (v, ())) K
def Xxg (v : Al) (x3_2 x4_2 : Int) : St := ⟨(.one (.s .ro A3 v)) :: (.one .d) :: (.one .d) :: (.one (vI x3_2)) :: (.one (vI x4_2)) :: dz 35 [], []⟩
noncomputable def Qa {β : Type} (k : Nat) (v : Al) (KK : Ex → St → Option β) (n : Nat) (x3_2 x4_2 : Int) : Option β := A2 (Dn k) Tryz.f133 [1, 0, 1, 0, 0, 1, 0, 0, 1, 1, 0] 2 KK n (Xxg v x3_2 x4_2)
def Kn {β : Type} (NX : Int → Int → Option β) (EX0 : (Int × Int) → Option β) (EX1 : (Int × Int) → Option β) (k : Nat) (v : Al) (x3_2 x4_2 : Int) : Option β := cond (decide (x4_2 < x3_2)) (Ax x4_2 v (cond (decide (0 < ((Ad v x4_2).1.length : Int))) (Ax x3_2 v (cond (decide (0 < ((Ad v x3_2).1.length : Int))) ((Zz k (Ad (Ad v x4_2).1 0) (Ad (Ad v x3_2).1 0)).bind fun b2 => cond b2 (EX0 (x3_2, x4_2)) (NX x3_2 (i64.wrap (x4_2 + 1)))) none)) none)) (EX1 (x3_2, x4_2))
def Lc (k : Nat) (v : Al) : Nat → Int → Int → Option ((Sum (Int × Int) (Int × Int)))
 | 0, _, _ => none
 | n + 1, x3_2, x4_2 => Kn (Lc k v n) (fun y2 => some (.inl y2)) (fun y2 => some (.inr y2)) k v x3_2 x4_2
theorem Xfy {β : Type} (k : Nat) (v : Al) (KK : Ex → St → Option β) (n : Nat) : ∀ (x3_2 x4_2 : Int), Qa k v KK n x3_2 x4_2 =
  (Lc k v n x3_2 x4_2).bind fun z => Gz (fun y2 => KK .ret ⟨(.one (.s .ro A3 v)) :: (.one .d) :: (.one (vB false)) :: (.one (vI y2.1)) :: (.one (vI y2.2)) :: dz 12 ((.one (vI y2.2)) :: (.one (vI y2.1)) :: (.one (vB true)) :: (.one .d) :: (.one .d) :: (.one (.s .ro A3 v)) :: (.one (vI y2.2)) :: (.one (.ptr (.elem 24000 y2.2.toNat 0) 2 0)) :: (.one (.ptr (.elem 24000 y2.2.toNat 0) 2 0)) :: (.one (.s .ro Ai (Ad v y2.2).1)) :: (.one (.ptr (.elem 27000 0 0) 9 0)) :: (.agg (B0 (.pair mI Dd) (Ad (Ad v y2.2).1 0))) :: (.one (.s .ro A3 v)) :: (.one (vI y2.1)) :: (.one (.ptr (.elem 31000 y2.1.toNat 0) 2 0)) :: (.one (.ptr (.elem 31000 y2.1.toNat 0) 2 0)) :: (.one (.s .ro Ai (Ad v y2.1).1)) :: (.one (.ptr (.elem 34000 0 0) 9 0)) :: (.agg (B0 (.pair mI Dd) (Ad (Ad v y2.1).1 0))) :: (.one (vB true)) :: dz 3 []), [eM 24000 (.s .ro A3 v), eM 27000 (.s .ro Ai (Ad v y2.2).1), eM 31000 (.s .ro A3 v), eM 34000 (.s .ro Ai (Ad v y2.1).1)]⟩) (fun y2 => KK (.exit 2) ⟨(.one (.s .ro A3 v)) :: (.one .d) :: (.one .d) :: (.one (vI y2.1)) :: (.one (vI y2.2)) :: dz 12 ((.one (vI y2.2)) :: (.one (vI y2.1)) :: (.one (vB false)) :: dz 20 []), []⟩) z := by
 induction n with
 | zero => intros; rfl
 | succ n ih =>
  intro x3_2 x4_2
  refine Eq.trans (b := Kn (Qa k v KK n) (fun y2 => KK .ret ⟨(.one (.s .ro A3 v)) :: (.one .d) :: (.one (vB false)) :: (.one (vI y2.1)) :: (.one (vI y2.2)) :: dz 12 ((.one (vI y2.2)) :: (.one (vI y2.1)) :: (.one (vB true)) :: (.one .d) :: (.one .d) :: (.one (.s .ro A3 v)) :: (.one (vI y2.2)) :: (.one (.ptr (.elem 24000 y2.2.toNat 0) 2 0)) :: (.one (.ptr (.elem 24000 y2.2.toNat 0) 2 0)) :: (.one (.s .ro Ai (Ad v y2.2).1)) :: (.one (.ptr (.elem 27000 0 0) 9 0)) :: (.agg (B0 (.pair mI Dd) (Ad (Ad v y2.2).1 0))) :: (.one (.s .ro A3 v)) :: (.one (vI y2.1)) :: (.one (.ptr (.elem 31000 y2.1.toNat 0) 2 0)) :: (.one (.ptr (.elem 31000 y2.1.toNat 0) 2 0)) :: (.one (.s .ro Ai (Ad v y2.1).1)) :: (.one (.ptr (.elem 34000 0 0) 9 0)) :: (.agg (B0 (.pair mI Dd) (Ad (Ad v y2.1).1 0))) :: (.one (vB true)) :: dz 3 []), [eM 24000 (.s .ro A3 v), eM 27000 (.s .ro Ai (Ad v y2.2).1), eM 31000 (.s .ro A3 v), eM 34000 (.s .ro Ai (Ad v y2.1).1)]⟩) (fun y2 => KK (.exit 2) ⟨(.one (.s .ro A3 v)) :: (.one .d) :: (.one .d) :: (.one (vI y2.1)) :: (.one (vI y2.2)) :: dz 12 ((.one (vI y2.2)) :: (.one (vI y2.1)) :: (.one (vB false)) :: dz 20 []), []⟩) k v x3_2 x4_2) (by kernel_rfl) ?_
  rw [Lc]
  simp only [Kn, z1, z2, z3, z4, z5, z6, z7, z8, ih]
def X0c (v : Al) (x3_0 : Int) : St := ⟨(.one (.s .ro A3 v)) :: (.one .d) :: (.one .d) :: (.one (vI x3_0)) :: dz 36 [], []⟩
noncomputable def O7 {β : Type} (k : Nat) (v : Al) (K : KT β) (n : Nat) (x3_0 : Int) : Option β := A2 (Dn k) Tryz.f133 [1, 0, 1, 0] 0 (Ae (Dn k) [1, 0, 1, 0] (Af Tryz.f133) 0 (Z1 k v K)) n (X0c v x3_0)
def Gc (k : Nat) (v : Al) : Nat → Int → Option (Bool)
 | 0, _ => none
 | n + 1, x3_0 => cond (decide (x3_0 < (v.length : Int))) (Ax x3_0 v ((Uh k (Ad v x3_0)).bind fun b1 => cond (!b1) (some false) ((Lc k v k x3_0 0).bind fun z2 => Gz (fun y2 => some false) (fun y2 => Gc k v n (i64.wrap (y2.1 + 1))) z2))) (some (decide ((v.length : Int) ≤ 3)))
theorem Xal {β : Type} (k n : Nat) (v : Al) (y2 : Int × Int) (K : KT β) :
  (Ae (Dn k) [1, 0, 0, 1, 1, 0] (Ba [1, 0, 1, 0, 0] (Af Tryz.f133)) 0 (Bt (Dn k) Tryz.f133 [1, 0, 1, 0] 0 (Ae (Dn k) [1, 0, 1, 0] (Af Tryz.f133) 0 (Z1 k v K)) n)) .ret ⟨(.one (.s .ro A3 v)) :: (.one .d) :: (.one (vB false)) :: (.one (vI y2.1)) :: (.one (vI y2.2)) :: dz 12 ((.one (vI y2.2)) :: (.one (vI y2.1)) :: (.one (vB true)) :: (.one .d) :: (.one .d) :: (.one (.s .ro A3 v)) :: (.one (vI y2.2)) :: (.one (.ptr (.elem 24000 y2.2.toNat 0) 2 0)) :: (.one (.ptr (.elem 24000 y2.2.toNat 0) 2 0)) :: (.one (.s .ro Ai (Ad v y2.2).1)) :: (.one (.ptr (.elem 27000 0 0) 9 0)) :: (.agg (B0 (.pair mI Dd) (Ad (Ad v y2.2).1 0))) :: (.one (.s .ro A3 v)) :: (.one (vI y2.1)) :: (.one (.ptr (.elem 31000 y2.1.toNat 0) 2 0)) :: (.one (.ptr (.elem 31000 y2.1.toNat 0) 2 0)) :: (.one (.s .ro Ai (Ad v y2.1).1)) :: (.one (.ptr (.elem 34000 0 0) 9 0)) :: (.agg (B0 (.pair mI Dd) (Ad (Ad v y2.1).1 0))) :: (.one (vB true)) :: dz 3 []), [eM 24000 (.s .ro A3 v), eM 27000 (.s .ro Ai (Ad v y2.2).1), eM 31000 (.s .ro A3 v), eM 34000 (.s .ro Ai (Ad v y2.1).1)]⟩ =
  K (F133_O.put false) := by kernel_rfl
theorem Yk {β : Type} (k n : Nat) (v : Al) (y2 : Int × Int) (K : KT β) :
  (Ae (Dn k) [1, 0, 0, 1, 1, 0] (Ba [1, 0, 1, 0, 0] (Af Tryz.f133)) 0 (Bt (Dn k) Tryz.f133 [1, 0, 1, 0] 0 (Ae (Dn k) [1, 0, 1, 0] (Af Tryz.f133) 0 (Z1 k v K)) n)) (.exit 2) ⟨(.one (.s .ro A3 v)) :: (.one .d) :: (.one .d) :: (.one (vI y2.1)) :: (.one (vI y2.2)) :: dz 12 ((.one (vI y2.2)) :: (.one (vI y2.1)) :: (.one (vB false)) :: dz 20 []), []⟩ =
  O7 k v K n (i64.wrap (y2.1 + 1)) := by kernel_rfl
theorem Xg3 {β : Type} (k : Nat) (v : Al) (K : KT β) (n : Nat) : ∀ (x3_0 : Int), O7 k v K n x3_0 =
  (Gc k v n x3_0).bind fun r => K (F133_O.put r) := by
 induction n with
 | zero => intros; rfl
 | succ n ih =>
  intro x3_0
  refine Eq.trans (b := cond (decide (x3_0 < (v.length : Int))) (Ax x3_0 v ((Uh k (Ad v x3_0)).bind fun b1 => cond (!b1) (K (F133_O.put false)) (Qa k v (Ae (Dn k) [1, 0, 0, 1, 1, 0] (Ba [1, 0, 1, 0, 0] (Af Tryz.f133)) 0 (Bt (Dn k) Tryz.f133 [1, 0, 1, 0] 0 (Ae (Dn k) [1, 0, 1, 0] (Af Tryz.f133) 0 (Z1 k v K)) n)) k x3_0 0))) (K (F133_O.put (decide ((v.length : Int) ≤ 3))))) (by kernel_rfl) ?_
  rw [Gc]
  simp only [z1, z2, z3, z4, z5, z6, z7, z8, Xfy, Xal k n v _ K, Yk k n v _ K, ih, Ax, Be]
def Up {β : Type} (LP0 : Int → Option β) (k : Nat) (v : Al) : Option β := LP0 0
def Xc7 (k : Nat) (v : Al) : Option (Bool) := Up (Gc k v k) k v
theorem X0n {β : Type} (k : Nat) (v : Al) (K : KT β) : Aj (Dn k) Tryz.f133 (PsT.put Xfs (v, ())) K = (Xc7 k v).bind fun r => K (F133_O.put r) :=
 Eq.trans (b := Up (O7 k v K k) k v) (by kernel_rfl) (by simp only [Xc7, Up, z1, z2, z3, z4, z5, z6, z7, z8, Xg3])
def Xuk (k : Nat) : FD := ⟨133, Xfs, F133_O, Xc7 k⟩
theorem X7i (k : Nat) : (Xuk k).Ok Tryz.prog := ⟨fun x => Ac (Am (Ah (.c (Xf3 k) (.c (Xam k) .n))) _ _ _ _) Ak Tryz.func133 rfl rfl (X0n k _ some), .of (by kernel_rfl)⟩
end
end Go.Proofs.YtdmepjjepogddaaGreat.Gn
end

section
set_option linter.unusedVariables false
set_option linter.unusedSimpArgs false
namespace Go.Proofs.YtdmepjjepogddaaGreat.Gn
open Go.Rf IntKind
noncomputable section
def Yb4 : Nat → Hint
 | 0 => ⟨pl 2 3 (pl 6 3 []), pl 2000 2 (pl 3000 9 (pl 4000 2 (pl 6000 2 [])))⟩
 | 2 => ⟨pl 2 3 (pl 6 2 (pl 10 1 [])), pl 2000 2 (pl 3000 9 (pl 4000 2 ((6000, .own .own Ai []) :: (pl 6001 1 []))))⟩
 | _ => ⟨[], []⟩
abbrev Q2 (k : Nat) : Env := Bc (A0 [Z9 k, Gx k, S8 k, Tl k]) Yb4 .own [] k
abbrev Xgs : List PA := [.agg (.pair (.sl .ro Ai) mI), .agg (.pair mI Dd)]
abbrev F135_O : RO := ⟨[.a, .v], [.pair (.sl .own Ai) mI, mB]⟩
noncomputable def Xsn {β : Type} (k : Nat) (v : (den A3)) (w : (den Ai)) (K : KT β) : Ex → St → Option β := Br (Q2 k) Tryz.f135 (PsT.put Xgs (v, w, ())) K
def X1s (v : (den A3)) (w : (den Ai)) (x7_2 : Bool) (x10_2 : Int) (m6000_2 : (den A3)) : St := ⟨(.one .d) :: (.one .d) :: (.one (.ptr (.cell 2000) 2 0)) :: (.one (.ptr (.cell 3000) 9 0)) :: (.one (.ptr (.cell 4000) 2 0)) :: (.one .d) :: (.one (.ptr (.cell 6000) 2 0)) :: (.one (vB x7_2)) :: (.one .d) :: (.one .d) :: (.one (vI x10_2)) :: dz 106 [], A9 2000 (B0 (.pair (.sl .ro Ai) mI) v) (A9 3000 (B0 (.pair mI Dd) w) (A9 4000 (B0 (.pair (.sl .own Ai) mI) ([], 0)) (A9 6000 (B0 (.pair (.sl .own Ai) mI) m6000_2) [])))⟩
noncomputable def Qf {β : Type} (k : Nat) (v : (den A3)) (w : (den Ai)) (K : KT β) (n : Nat) (x7_2 : Bool) (x10_2 : Int) (m6000_2 : (den A3)) : Option β := A2 (Q2 k) Tryz.f135 [1, 1, 1, 1, 1, 0, 1, 0] 2 (Ae (Q2 k) [1, 1, 1, 1, 1, 0, 1, 0] (Af Tryz.f135) 0 (Xsn k v w K)) n (X1s v w x7_2 x10_2 m6000_2)
def Iz {β : Type} (k : Nat) (v : (den A3)) (w : (den Ai)) (NX : Bool → Int → (den A3) → Option β) (RET : (den A3) × Bool → Option β) (x10_2 : Int) (m6000_2 : (den A3)) (x7_2 : Bool) : Option β := Ax x10_2 v.1 ((N0 k (Ad v.1 x10_2)).bind fun b6 => Be (m6000_2.1.length) ([b6].length) 80 (NX x7_2 (i64.wrap (x10_2 + 1)) (m6000_2.1 ++ [b6], m6000_2.2)))
def K5 {β : Type} (NX : Bool → Int → (den A3) → Option β) (RET : (den A3) × Bool → Option β) (k : Nat) (v : (den A3)) (w : (den Ai)) (x7_2 : Bool) (x10_2 : Int) (m6000_2 : (den A3)) : Option β := Bm v fun v0 _ => cond (decide (x10_2 < (v0.length : Int))) (cond (!x7_2) (Ax x10_2 v0 (cond (decide (w.2.2.2.2.2.1 < (Ad v0 x10_2).2.2.2.2.2.1)) ((N0 k w).bind fun b4 => Be (m6000_2.1.length) ([b4].length) 80 (Ax x10_2 v0 ((N0 k (Ad v0 x10_2)).bind fun b5 => Be ((m6000_2.1 ++ [b4]).length) ([b5].length) 80 (NX true (i64.wrap (x10_2 + 1)) ((m6000_2.1 ++ [b4]) ++ [b5], m6000_2.2))))) (Iz k v w NX RET x10_2 m6000_2 x7_2))) (Iz k v w NX RET x10_2 m6000_2 x7_2)) (cond (!x7_2) ((N0 k w).bind fun b8 => Be (m6000_2.1.length) ([b8].length) 80 ((Uh k (m6000_2.1 ++ [b8], m6000_2.2)).bind fun b9 => cond (!b9) (RET (([], 0), false)) (RET ((m6000_2.1 ++ [b8], m6000_2.2), true)))) ((Uh k m6000_2).bind fun b10 => cond (!b10) (RET (([], 0), false)) (RET (m6000_2, true))))
def Iu (k : Nat) (v : (den A3)) (w : (den Ai)) : Nat → Bool → Int → (den A3) → Option ((den A3) × Bool)
 | 0, _, _, _ => none
 | n + 1, x7_2, x10_2, m6000_2 => K5 (Iu k v w n) some k v w x7_2 x10_2 m6000_2
theorem Xek {β : Type} (k : Nat) (v : (den A3)) (w : (den Ai)) (K : KT β) (n : Nat) : ∀ (x7_2 : Bool) (x10_2 : Int) (m6000_2 : (den A3)), Qf k v w K n x7_2 x10_2 m6000_2 =
  (Iu k v w n x7_2 x10_2 m6000_2).bind fun r => K (F135_O.put r) := by
 induction n with
 | zero => intros; rfl
 | succ n ih =>
  intro x7_2 x10_2 m6000_2
  refine Eq.trans (b := K5 (Qf k v w K n) (fun r => K (F135_O.put r)) k v w x7_2 x10_2 m6000_2) (by kernel_rfl) ?_
  rw [Iu]
  simp only [K5, Iz, z1, z2, z3, z4, z5, z6, z7, z8, Az, Bm, ih]
def Xw1 (v : (den A3)) (w : (den Ai)) (x7_0 : Bool) (x8_0 : Int) : St := ⟨(.one .d) :: (.one .d) :: (.one (.ptr (.cell 2000) 2 0)) :: (.one (.ptr (.cell 3000) 9 0)) :: (.one (.ptr (.cell 4000) 2 0)) :: (.one .d) :: (.one (.ptr (.cell 6000) 2 0)) :: (.one (vB x7_0)) :: (.one (vI x8_0)) :: dz 108 [], A9 2000 (B0 (.pair (.sl .ro Ai) mI) v) (A9 3000 (B0 (.pair mI Dd) w) (A9 4000 (B0 (.pair (.sl .own Ai) mI) ([], 0)) (A9 6000 (B0 (.pair (.sl .own Ai) mI) ([], v.2)) [])))⟩
noncomputable def Qj {β : Type} (k : Nat) (v : (den A3)) (w : (den Ai)) (K : KT β) (n : Nat) (x7_0 : Bool) (x8_0 : Int) : Option β := A2 (Q2 k) Tryz.f135 [1, 1, 1, 1, 0, 1, 0] 0 (Ae (Q2 k) [1, 1, 1, 1, 0, 1, 0] (Af Tryz.f135) 0 (Xsn k v w K)) n (Xw1 v w x7_0 x8_0)
def Kj {β : Type} (NX : Bool → Int → Option β) (LP2 : Bool → Int → (den A3) → Option β) (k : Nat) (v : (den A3)) (w : (den Ai)) (x7_0 : Bool) (x8_0 : Int) : Option β := Bm v fun v0 v1 => cond (decide (x8_0 < (v0.length : Int))) (Ax x8_0 v0 (cond ((Ad v0 x8_0).2.2.2.2.2.1 == w.2.2.2.2.2.1) (cond ((Ad v0 x8_0).2.2.2.2.2.2.1 == w.2.2.2.2.2.2.1) (cond ((L6 (Ad v0 x8_0).2.2.2.2.2.2.2.2).toList == (L6 w.2.2.2.2.2.2.2.2).toList) (NX true (i64.wrap (x8_0 + 1))) (NX x7_0 (i64.wrap (x8_0 + 1)))) (NX x7_0 (i64.wrap (x8_0 + 1)))) (NX x7_0 (i64.wrap (x8_0 + 1))))) (LP2 x7_0 0 ([], v1))
def Lr (k : Nat) (v : (den A3)) (w : (den Ai)) : Nat → Bool → Int → Option ((den A3) × Bool)
 | 0, _, _ => none
 | n + 1, x7_0, x8_0 => Kj (Lr k v w n) (Iu k v w k) k v w x7_0 x8_0
theorem Xfx {β : Type} (k : Nat) (v : (den A3)) (w : (den Ai)) (K : KT β) (n : Nat) : ∀ (x7_0 : Bool) (x8_0 : Int), Qj k v w K n x7_0 x8_0 =
  (Lr k v w n x7_0 x8_0).bind fun r => K (F135_O.put r) := by
 induction n with
 | zero => intros; rfl
 | succ n ih =>
  intro x7_0 x8_0
  refine Eq.trans (b := Kj (Qj k v w K n) (Qf k v w K k) k v w x7_0 x8_0) (by kernel_rfl) ?_
  rw [Lr]
  simp only [Kj, z1, z2, z3, z4, z5, z6, z7, z8, Az, Bm, Xek, ih]
def Y1 {β : Type} (LP0 : Bool → Int → Option β) (RET : (den A3) × Bool → Option β) (k : Nat) (v : (den A3)) (w : (den Ai)) : Option β := (Uh k v).bind fun b1 => cond (!b1) (RET (([], 0), false)) ((Ha k w).bind fun b2 => cond (!b2) (RET (([], 0), false)) (cond (decide (0 < (v.1.length : Int))) ((Zz k (Ad v.1 0) w).bind fun b3 => cond (!b3) (RET (([], 0), false)) (LP0 false 0)) none))
def Xld (k : Nat) (v : (den A3)) (w : (den Ai)) : Option ((den A3) × Bool) := Y1 (Lr k v w k) some k v w
theorem Xww {β : Type} (k : Nat) (v : (den A3)) (w : (den Ai)) (K : KT β) : Aj (Q2 k) Tryz.f135 (PsT.put Xgs (v, w, ())) K = (Xld k v w).bind fun r => K (F135_O.put r) :=
 Eq.trans (b := Y1 (Qj k v w K k) (fun r => K (F135_O.put r)) k v w) (by kernel_rfl) (by simp only [Xld, Y1, z1, z2, z3, z4, z5, z6, z7, z8, Az, Bm, Xfx])
def Xq0 (k : Nat) : FD := ⟨135, Xgs, F135_O, Xld k⟩
theorem X5z (k : Nat) : (Xq0 k).Ok Tryz.prog := ⟨fun x => Ac (Am (Ah (.c (Xf3 k) (.c (Ig k) (.c (Xam k) (.c (Xaw k) .n))))) _ _ _ _) Ak Tryz.func135 rfl rfl (Xww k _ _ some), .of (by kernel_rfl)⟩
def X8r : Nat → Hint
 | 0 => ⟨pl 1 2 (pl 4 2 []), pl 1000 2 (pl 2000 9 (pl 4000 8 ((4008, .own .own (.int .u8) []) :: (pl 26000 1 []))))⟩
 | _ => ⟨[], []⟩
abbrev Xat (k : Nat) : Env := Bc (A0 [Z9 k]) X8r .own [] k
abbrev Xfc : List PA := [.agg (.pair (.sl .ro Ai) mI)]
abbrev F136_O : RO := ⟨[.a, .v], [.pair mI M5, mB]⟩
noncomputable def X8l {β : Type} (k : Nat) (v : (den A3)) (K : KT β) : Ex → St → Option β := Br (Xat k) Tryz.f136 (PsT.put Xfc (v, ())) K
def Xzf (v : (den A3)) (x5_0 : Int) (m4000_0 : (den Ai)) : St := ⟨(.one .d) :: (.one (.ptr (.cell 1000) 2 0)) :: (.one (.ptr (.cell 2000) 9 0)) :: (.one .d) :: (.one (.ptr (.cell 4000) 9 0)) :: (.one (vI x5_0)) :: dz 51 [], A9 1000 (B0 (.pair (.sl .ro Ai) mI) v) (A9 2000 (B0 (.pair mI M5) (0, 0, 0, 0, 0, 0, false, false, [])) (A9 4000 (B0 (.pair mI M5) m4000_0) [eM 26000 .d]))⟩
noncomputable def Q8 {β : Type} (k : Nat) (v : (den A3)) (K : KT β) (n : Nat) (x5_0 : Int) (m4000_0 : (den Ai)) : Option β := A2 (Xat k) Tryz.f136 [1, 1, 1, 1, 1, 0, 1, 0] 0 (Ae (Xat k) [1, 1, 1, 1, 1, 0, 1, 0] (Af Tryz.f136) 0 (X8l k v K)) n (Xzf v x5_0 m4000_0)
def Hj {β : Type} (NX : Int → (den Ai) → Option β) (RET : (den Ai) × Bool → Option β) (k : Nat) (v : (den A3)) (x5_0 : Int) (m4000_0 : (den Ai)) : Option β := Bm v fun v0 _ => cond (decide (x5_0 < (v0.length : Int))) (Ax x5_0 v0 (cond ((Ad v0 x5_0).2.2.2.2.2.1 != (m4000_0.2.2.2.2.2.2.2.2.length : Int)) (RET ((0, 0, 0, 0, 0, 0, false, false, []), false)) (Ax x5_0 v0 (Be (m4000_0.2.2.2.2.2.2.2.2.length) ((Ad v0 x5_0).2.2.2.2.2.2.2.2.length) 1 (NX (i64.wrap (x5_0 + 1)) (m4000_0.1, m4000_0.2.1, m4000_0.2.2.1, m4000_0.2.2.2.1, m4000_0.2.2.2.2.1, m4000_0.2.2.2.2.2.1, m4000_0.2.2.2.2.2.2.1, m4000_0.2.2.2.2.2.2.2.1, m4000_0.2.2.2.2.2.2.2.2 ++ (Ad v0 x5_0).2.2.2.2.2.2.2.2)))))) (RET (m4000_0, true))
def Iq (k : Nat) (v : (den A3)) : Nat → Int → (den Ai) → Option ((den Ai) × Bool)
 | 0, _, _ => none
 | n + 1, x5_0, m4000_0 => Hj (Iq k v n) some k v x5_0 m4000_0
theorem Xgf {β : Type} (k : Nat) (v : (den A3)) (K : KT β) (n : Nat) : ∀ (x5_0 : Int) (m4000_0 : (den Ai)), Q8 k v K n x5_0 m4000_0 =
  (Iq k v n x5_0 m4000_0).bind fun r => K (F136_O.put r) := by
 induction n with
 | zero => intros; rfl
 | succ n ih =>
  intro x5_0 m4000_0
  refine Eq.trans (b := Hj (Q8 k v K n) (fun r => K (F136_O.put r)) k v x5_0 m4000_0) (by kernel_rfl) ?_
  rw [Iq]
  simp only [Hj, z1, z2, z3, z4, z5, z6, z7, z8, Bm, ih]
def Yf {β : Type} (LP0 : Int → (den Ai) → Option β) (RET : (den Ai) × Bool → Option β) (k : Nat) (v : (den A3)) : Option β := Bm v fun v0 _ => (Uh k v).bind fun b1 => cond (!b1) (RET ((0, 0, 0, 0, 0, 0, false, false, []), false)) (Ax (i64.wrap ((v0.length : Int) - 1)) v0 (cond (Ad v0 (i64.wrap ((v0.length : Int) - 1))).2.2.2.2.2.2.1 (RET ((0, 0, 0, 0, 0, 0, false, false, []), false)) (cond (decide (0 < (v0.length : Int))) (LP0 0 ((Ad v0 0).1, (Ad v0 0).2.1, (Ad v0 0).2.2.1, (Ad v0 0).2.2.2.1, (Ad v0 0).2.2.2.2.1, (Ad v0 0).2.2.2.2.2.1, false, (Ad v0 0).2.2.2.2.2.2.2.1, [])) none)))
def Xn4 (k : Nat) (v : (den A3)) : Option ((den Ai) × Bool) := Yf (Iq k v k) some k v
theorem Xxr {β : Type} (k : Nat) (v : (den A3)) (K : KT β) : Aj (Xat k) Tryz.f136 (PsT.put Xfc (v, ())) K = (Xn4 k v).bind fun r => K (F136_O.put r) :=
 Eq.trans (b := Yf (Q8 k v K k) (fun r => K (F136_O.put r)) k v) (by kernel_rfl) (by simp only [Xn4, Yf, z1, z2, z3, z4, z5, z6, z7, z8, Bm, Xgf])
def Xwa (k : Nat) : FD := ⟨136, Xfc, F136_O, Xn4 k⟩
theorem X99 (k : Nat) : (Xwa k).Ok Tryz.prog := ⟨fun x => Ac (Am (Ah (.c (Xf3 k) .n)) _ _ _ _) Ak Tryz.func136 rfl rfl (Xxr k _ some), .of (by kernel_rfl)⟩
def X9y : Nat → Hint
 | 0 => ⟨pl 1 4 [], pl 1000 2 (pl 2000 2 ((3000, .own .own Ai []) :: (pl 3001 1 [])))⟩
 | _ => ⟨[], []⟩
abbrev X5 (k : Nat) : Env := Bc (A0 [Tl k]) X9y .own [] k
abbrev Xe3 : List PA := [.agg (.pair (.sl .ro Ai) mI)]
abbrev F137_O : RO := ⟨[.a], [.pair (.sl .own Ai) mI]⟩
noncomputable def X84 {β : Type} (k : Nat) (v : (den A3)) (K : KT β) : Ex → St → Option β := Br (X5 k) Tryz.f137 (PsT.put Xe3 (v, ())) K
def Xxp (v : (den A3)) (x4_0 : Int) (m3000_0 : (den A3)) : St := ⟨(.one .d) :: (.one (.ptr (.cell 1000) 2 0)) :: (.one (.ptr (.cell 2000) 2 0)) :: (.one (.ptr (.cell 3000) 2 0)) :: (.one (vI x4_0)) :: dz 22 [], A9 1000 (B0 (.pair (.sl .ro Ai) mI) v) (A9 2000 (B0 (.pair (.sl .own Ai) mI) ([], 0)) (A9 3000 (B0 (.pair (.sl .own Ai) mI) m3000_0) []))⟩
noncomputable def P0 {β : Type} (k : Nat) (v : (den A3)) (K : KT β) (n : Nat) (x4_0 : Int) (m3000_0 : (den A3)) : Option β := A2 (X5 k) Tryz.f137 [1, 1, 0, 1, 0] 0 (Ae (X5 k) [1, 1, 0, 1, 0] (Af Tryz.f137) 0 (X84 k v K)) n (Xxp v x4_0 m3000_0)
def Qp {β : Type} (NX : Int → (den A3) → Option β) (RET : (den A3) → Option β) (k : Nat) (v : (den A3)) (x4_0 : Int) (m3000_0 : (den A3)) : Option β := cond (decide (x4_0 < (v.1.length : Int))) (Ax x4_0 v.1 ((N0 k (Ad v.1 x4_0)).bind fun b1 => Be (m3000_0.1.length) ([b1].length) 80 (NX (i64.wrap (x4_0 + 1)) (m3000_0.1 ++ [b1], m3000_0.2)))) (RET m3000_0)
def Si (k : Nat) (v : (den A3)) : Nat → Int → (den A3) → Option ((den A3))
 | 0, _, _ => none
 | n + 1, x4_0, m3000_0 => Qp (Si k v n) some k v x4_0 m3000_0
theorem Xgx {β : Type} (k : Nat) (v : (den A3)) (K : KT β) (n : Nat) : ∀ (x4_0 : Int) (m3000_0 : (den A3)), P0 k v K n x4_0 m3000_0 =
  (Si k v n x4_0 m3000_0).bind fun r => K (F137_O.put r) := by
 induction n with
 | zero => intros; rfl
 | succ n ih =>
  intro x4_0 m3000_0
  refine Eq.trans (b := Qp (P0 k v K n) (fun r => K (F137_O.put r)) k v x4_0 m3000_0) (by kernel_rfl) ?_
  rw [Si]
  simp only [Qp, z1, z2, z3, z4, z5, z6, z7, z8, Bm, ih]
def Xe8 {β : Type} (LP0 : Int → (den A3) → Option β) (k : Nat) (v : (den A3)) : Option β := LP0 0 ([], v.2)
def Xw6 (k : Nat) (v : (den A3)) : Option ((den A3)) := Xe8 (Si k v k) k v
theorem Xz7 {β : Type} (k : Nat) (v : (den A3)) (K : KT β) : Aj (X5 k) Tryz.f137 (PsT.put Xe3 (v, ())) K = (Xw6 k v).bind fun r => K (F137_O.put r) :=
 Eq.trans (b := Xe8 (P0 k v K k) k v) (by kernel_rfl) (by simp only [Xw6, Xe8, z1, z2, z3, z4, z5, z6, z7, z8, Bm, Xgx])
def Xon (k : Nat) : FD := ⟨137, Xe3, F137_O, Xw6 k⟩
theorem X6m (k : Nat) : (Xon k).Ok Tryz.prog := ⟨fun x => Ac (Am (Ah (.c (Xaw k) .n)) _ _ _ _) Ak Tryz.func137 rfl rfl (Xz7 k _ some), .of (by kernel_rfl)⟩
def Ycx : Nat → Hint
 | 0 => ⟨pl 0 1 (pl 2 1 (pl 4 1 (pl 7 1 ((9, .own .own A3 []) :: (pl 10 5 []))))), pl 4000 9 (pl 7000 9 (pl 12000 8 ((12008, .own .own (.int .u8) []) :: [])))⟩
 | _ => ⟨[], []⟩
abbrev Xj2 (k : Nat) : Env := Bc (A0 [Xuk k, Gx k, C9 k, S8 k, Xq0 k, Xwa k, Xon k, Tl k]) Ycx .own [] k
abbrev Xry : List PA := [.one (.sl .ro A3), .agg (.pair mI Dd), .one mI]
abbrev F62_O : RO := ⟨[.v, .a, .v], [.sl .own A3, .pair mI M5, mB]⟩
noncomputable def Yct {β : Type} (k : Nat) (v : Al) (w : (den Ai)) (p : Int) (K : KT β) : Ex → St → Option β := Br (Xj2 k) Tryz.f62 (PsT.put Xry (v, w, p, ())) K
def X7q (v : Al) (w : (den Ai)) (p : Int) (x10_0 x11_0 x13_0 : Bool) (x14_0 : Int) (m12000_0 : (den Ai)) (m9900_0 : Al) : St := ⟨(.one (.s .ro A3 v)) :: (.one .d) :: (.one (vI p)) :: (.one .d) :: (.one (.ptr (.cell 4000) 9 0)) :: (.one .d) :: (.one .d) :: (.one (.ptr (.cell 7000) 9 0)) :: (.one .d) :: (.one (.a (.cell 9900) 0 0 none)) :: (.one (vB x10_0)) :: (.one (vB x11_0)) :: (.one (.ptr (.cell 12000) 9 0)) :: (.one (vB x13_0)) :: (.one (vI x14_0)) :: dz 100 [], A9 4000 (B0 (.pair mI Dd) w) (A9 7000 (B0 (.pair mI M5) (0, 0, 0, 0, 0, 0, false, false, [])) (A9 12000 (B0 (.pair mI M5) m12000_0) [eM 9900 (.s .own A3 m9900_0)]))⟩
noncomputable def Uv {β : Type} (k : Nat) (v : Al) (w : (den Ai)) (p : Int) (K : KT β) (n : Nat) (x10_0 x11_0 x13_0 : Bool) (x14_0 : Int) (m12000_0 : (den Ai)) (m9900_0 : Al) : Option β := A2 (Xj2 k) Tryz.f62 [1, 1, 1, 1, 1, 1, 1, 0, 1, 0] 0 (Ae (Xj2 k) [1, 1, 1, 1, 1, 1, 1, 0, 1, 0] (Af Tryz.f62) 0 (Yct k v w p K)) n (X7q v w p x10_0 x11_0 x13_0 x14_0 m12000_0 m9900_0)
def P7 {β : Type} (k : Nat) (v : Al) (w : (den Ai)) (p : Int) (NX : Bool → Bool → Bool → Int → (den Ai) → Al → Option β) (RET : (Al × (den Ai) × Bool) → Option β) (x14_0 : Int) (m9900_0 : Al) (x10_0 x11_0 x13_0 : Bool) (m12000_0 : (den Ai)) : Option β := (Xw6 k (Ad v x14_0)).bind fun b7 => Be (m9900_0.length) ([b7].length) 32 (NX x10_0 x11_0 x13_0 (i64.wrap (x14_0 + 1)) m12000_0 (m9900_0 ++ [b7]))
def D7 {β : Type} (NX : Bool → Bool → Bool → Int → (den Ai) → Al → Option β) (RET : (Al × (den Ai) × Bool) → Option β) (k : Nat) (v : Al) (w : (den Ai)) (p : Int) (x10_0 x11_0 x13_0 : Bool) (x14_0 : Int) (m12000_0 : (den Ai)) (m9900_0 : Al) : Option β := cond (decide (x14_0 < (v.length : Int))) (Ax x14_0 v (cond (decide ((Ad v x14_0).2 ≤ p)) (NX x10_0 x11_0 x13_0 (i64.wrap (x14_0 + 1)) m12000_0 m9900_0) (cond (!x10_0) (cond (decide (0 < ((Ad v x14_0).1.length : Int))) ((Zz k (Ad (Ad v x14_0).1 0) w).bind fun b4 => cond b4 ((Xld k (Ad v x14_0) w).bind fun b5 => (Xn4 k b5.1).bind fun b6 => cond b5.2 (cond (!b6.2) (Be (m9900_0.length) ([b5.1].length) 32 (NX x10_0 true b6.2 (i64.wrap (x14_0 + 1)) b6.1 (m9900_0 ++ [b5.1]))) (NX x10_0 true b6.2 (i64.wrap (x14_0 + 1)) b6.1 m9900_0)) (NX x10_0 true b6.2 (i64.wrap (x14_0 + 1)) b6.1 m9900_0)) (P7 k v w p NX RET x14_0 m9900_0 x10_0 x11_0 x13_0 m12000_0)) none) (P7 k v w p NX RET x14_0 m9900_0 x10_0 x11_0 x13_0 m12000_0)))) (cond x10_0 ((N0 k w).bind fun b9 => RET (m9900_0, b9, true)) (cond (!x11_0) ((N0 k w).bind fun b10 => Be (m9900_0.length) ([([b10], i64.wrap (p + 15))].length) 32 (cond (decide (((m9900_0 ++ [([b10], i64.wrap (p + 15))]).length : Int) > 3)) (cond (decide (0 ≤ 1) && decide (1 ≤ ((m9900_0 ++ [([b10], i64.wrap (p + 15))]).length : Int))) (RET (((m9900_0 ++ [([b10], i64.wrap (p + 15))]).take ((((m9900_0 ++ [([b10], i64.wrap (p + 15))]).length : Int)).toNat)).drop 1, m12000_0, x13_0)) none) (RET (m9900_0 ++ [([b10], i64.wrap (p + 15))], m12000_0, x13_0)))) (cond (decide ((m9900_0.length : Int) > 3)) (cond (decide (0 ≤ 1) && decide (1 ≤ (m9900_0.length : Int))) (RET ((m9900_0.take (((m9900_0.length : Int)).toNat)).drop 1, m12000_0, x13_0)) none) (RET (m9900_0, m12000_0, x13_0)))))
def Il (k : Nat) (v : Al) (w : (den Ai)) (p : Int) : Nat → Bool → Bool → Bool → Int → (den Ai) → Al → Option (Al × (den Ai) × Bool)
 | 0, _, _, _, _, _, _ => none
 | n + 1, x10_0, x11_0, x13_0, x14_0, m12000_0, m9900_0 => D7 (Il k v w p n) some k v w p x10_0 x11_0 x13_0 x14_0 m12000_0 m9900_0
theorem Xnq {β : Type} (k : Nat) (v : Al) (w : (den Ai)) (p : Int) (K : KT β) (n : Nat) : ∀ (x10_0 x11_0 x13_0 : Bool) (x14_0 : Int) (m12000_0 : (den Ai)) (m9900_0 : Al), Uv k v w p K n x10_0 x11_0 x13_0 x14_0 m12000_0 m9900_0 =
  (Il k v w p n x10_0 x11_0 x13_0 x14_0 m12000_0 m9900_0).bind fun r => K (F62_O.put r) := by
 induction n with
 | zero => intros; rfl
 | succ n ih =>
  intro x10_0 x11_0 x13_0 x14_0 m12000_0 m9900_0
  refine Eq.trans (b := D7 (Uv k v w p K n) (fun r => K (F62_O.put r)) k v w p x10_0 x11_0 x13_0 x14_0 m12000_0 m9900_0) (by kernel_rfl) ?_
  rw [Il]
  simp only [D7, P7, z1, z2, z3, z4, z5, z6, z7, z8, Az, ih]
def Wl {β : Type} (LP0 : Bool → Bool → Bool → Int → (den Ai) → Al → Option β) (RET : (Al × (den Ai) × Bool) → Option β) (k : Nat) (v : Al) (w : (den Ai)) (p : Int) : Option β := (Xc7 k v).bind fun b1 => cond (!b1) (RET ([], (0, 0, 0, 0, 0, 0, false, false, []), false)) ((Ha k w).bind fun b2 => cond (!b2) (RET ([], (0, 0, 0, 0, 0, 0, false, false, []), false)) ((Hc k p 0 999985).bind fun b3 => cond (!b3) (RET ([], (0, 0, 0, 0, 0, 0, false, false, []), false)) (cond (w.2.2.2.2.2.1 == 0) (LP0 (!w.2.2.2.2.2.2.1) false false 0 (0, 0, 0, 0, 0, 0, false, false, []) []) (LP0 false false false 0 (0, 0, 0, 0, 0, 0, false, false, []) []))))
def F62 (k : Nat) (v : Al) (w : (den Ai)) (p : Int) : Option (Al × (den Ai) × Bool) := Wl (Il k v w p k) some k v w p
theorem X62 {β : Type} (k : Nat) (v : Al) (w : (den Ai)) (p : Int) (K : KT β) : Aj (Xj2 k) Tryz.f62 (PsT.put Xry (v, w, p, ())) K = (F62 k v w p).bind fun r => K (F62_O.put r) :=
 Eq.trans (b := Wl (Uv k v w p K k) (fun r => K (F62_O.put r)) k v w p) (by kernel_rfl) (by simp only [F62, Wl, z1, z2, z3, z4, z5, z6, z7, z8, Az, Xnq])
def X2x (k : Nat) : FD := ⟨62, Xry, F62_O, F62 k⟩
theorem Ydd (k : Nat) : (X2x k).Ok Tryz.prog := ⟨fun x => Ac (Am (Ah (.c (X7i k) (.c (Ig k) (.c (Dl k) (.c (Xam k) (.c (X5z k) (.c (X99 k) (.c (X6m k) (.c (Xaw k) .n))))))))) _ _ _ _) Ak Tryz.func62 rfl rfl (X62 k _ _ _ some), .of (by kernel_rfl)⟩
def Yd1 : Nat → Hint
 | 0 => ⟨pl 14 1 ((15, .own .own A3 []) :: (pl 16 1 [])), pl 14000 3 []⟩
 | _ => ⟨[], []⟩
abbrev Xj6 (k : Nat) : Env := Bc (A0 [Xjy k, C9 k, X2c k, X2x k]) Yd1 .own [] k
abbrev Xsj : List PA := [.one (.sl .ro sta), .one mI, .one mI, .one mI, .one mI, .one (.sl .ro (.int .u8))]
abbrev F13_O : RO := ⟨[.v, .v], [.sl .own (.int .u8), mB]⟩
noncomputable def Yc5 {β : Type} (k : Nat) (v : An) (w p q o : Int) (c : Aa) (K : KT β) : Ex → St → Option β := Br (Xj6 k) Tryz.f13 (PsT.put Xsj (v, w, p, q, o, c, ())) K
def Yau (v : An) (w p q o : Int) (c : Aa) (x16_0 : Int) (m14000_0 : (den Dg)) (m15900_0 : Al) : St := ⟨dz 14 ((.one (.ptr (.cell 14000) 3 0)) :: (.one (.a (.cell 15900) 0 0 none)) :: (.one (vI x16_0)) :: dz 59 []), A9 14000 (B0 m_13 m14000_0) [eM 15900 (.s .own A3 m15900_0)]⟩
noncomputable def Tc {β : Type} (k : Nat) (v : An) (w p q o : Int) (c : Aa) (K : KT β) (n : Nat) (x16_0 : Int) (m14000_0 : (den Dg)) (m15900_0 : Al) : Option β := A2 (Xj6 k) Tryz.f13 [1, 1, 1, 1, 0, 1, 0] 0 (Ae (Xj6 k) [1, 1, 1, 1, 0, 1, 0] (Af Tryz.f13) 0 (Yc5 k v w p q o c K)) n (Yau v w p q o c x16_0 m14000_0 m15900_0)
def Hm {β : Type} (NX : Int → (den Dg) → Al → Option β) (RET : (Aa × Bool) → Option β) (k : Nat) (v : An) (w p q o : Int) (c : Aa) (x16_0 : Int) (m14000_0 : (den Dg)) (m15900_0 : Al) : Option β := cond (decide (x16_0 < (m14000_0.1.length : Int))) (Ax x16_0 m14000_0.1 ((F62 k m15900_0 (Ad m14000_0.1 x16_0) 0).bind fun b4 => cond b4.2.2 (Be (([] : Aa).length) (b4.2.1.2.2.2.2.2.2.2.2.length) 1 (RET ([] ++ b4.2.1.2.2.2.2.2.2.2.2, true))) (NX (i64.wrap (x16_0 + 1)) m14000_0 b4.1))) (RET ([], false))
def H6 (k : Nat) (v : An) (w p q o : Int) (c : Aa) : Nat → Int → (den Dg) → Al → Option (Aa × Bool)
 | 0, _, _, _ => none
 | n + 1, x16_0, m14000_0, m15900_0 => Hm (H6 k v w p q o c n) some k v w p q o c x16_0 m14000_0 m15900_0
theorem Xmj {β : Type} (k : Nat) (v : An) (w p q o : Int) (c : Aa) (K : KT β) (n : Nat) : ∀ (x16_0 : Int) (m14000_0 : (den Dg)) (m15900_0 : Al), Tc k v w p q o c K n x16_0 m14000_0 m15900_0 =
  (H6 k v w p q o c n x16_0 m14000_0 m15900_0).bind fun r => K (F13_O.put r) := by
 induction n with
 | zero => intros; rfl
 | succ n ih =>
  intro x16_0 m14000_0 m15900_0
  refine Eq.trans (b := Hm (Tc k v w p q o c K n) (fun r => K (F13_O.put r)) k v w p q o c x16_0 m14000_0 m15900_0) (by kernel_rfl) ?_
  rw [H6]
  simp only [Hm, z1, z2, z3, z4, z5, z6, z7, z8, ih]
def Xjo {β : Type} (LP0 : Int → (den Dg) → Al → Option β) (RET : (Aa × Bool) → Option β) (k : Nat) (v : An) (w p q o : Int) (c : Aa) : Option β := (F59 k v).bind fun b1 => cond (!b1) (RET ([], false)) ((Hc k w 0 (i64.wrap ((v.length : Int) - 1))).bind fun b2 => cond (!b2) (RET ([], false)) (cond (decide ((c.length : Int) > 48)) (RET ([], false)) (Ax w v ((F61 k v w ((Ad v w).1, p, q, 64, o, 0, false, false, c)).bind fun b3 => LP0 0 b3 []))))
def F13 (k : Nat) (v : An) (w p q o : Int) (c : Aa) : Option (Aa × Bool) := Xjo (H6 k v w p q o c k) some k v w p q o c
theorem X4k {β : Type} (k : Nat) (v : An) (w p q o : Int) (c : Aa) (K : KT β) : Aj (Xj6 k) Tryz.f13 (PsT.put Xsj (v, w, p, q, o, c, ())) K = (F13 k v w p q o c).bind fun r => K (F13_O.put r) :=
 Eq.trans (b := Xjo (Tc k v w p q o c K k) (fun r => K (F13_O.put r)) k v w p q o c) (by kernel_rfl) (by simp only [F13, Xjo, z1, z2, z3, z4, z5, z6, z7, z8, Xmj])
def X34 (k : Nat) : FD := ⟨13, Xsj, F13_O, F13 k⟩
theorem Ydy (k : Nat) : (X34 k).Ok Tryz.prog := ⟨fun x => Ac (Am (Ah (.c (Xqe k) (.c (Dl k) (.c (Yc7 k) (.c (Ydd k) .n))))) _ _ _ _) Ak Tryz.func13 rfl rfl (X4k k _ _ _ _ _ _ some), .of (by kernel_rfl)⟩
abbrev Yep (k : Nat) : Env := Bc (A0 [Xkr k, Xjy k, Xjp k, C9 k, Xsv k, X34 k, Xvw k]) Ao .own [] k
abbrev X29 : List PA := [.one (.sl .ro Ay), .one (.sl .ro sta), .one mI, .one mI, .agg (.pair mI (.pair mI O2))]
abbrev F28_O : RO := ⟨[.v, .v], [.sl .own Ay, mI]⟩
def Ud {β : Type} (RET : (Ab × Int) → Option β) (k : Nat) (v : Ab) (w : An) (p q : Int) (o : (den Bd)) : Option β := (F80 k v).bind fun b1 => cond (!b1) (RET ([], 0)) ((F59 k w).bind fun b2 => cond (!b2) ((F81 k v).bind fun b3 => RET (b3, 0)) ((Hc k p 0 (i64.wrap ((w.length : Int) - 1))).bind fun b4 => cond (!b4) ((F81 k v).bind fun b5 => RET (b5, 0)) (Ax p w ((F82 k ((Ad w p).1, o.2.1, o.2.2.1, o.2.2.2) q).bind fun b6 => (F13 k w p q 2 0 b6).bind fun b7 => cond (!b7.2) ((F81 k v).bind fun b8 => RET (b8, 0)) ((F83 k v q ((Ad w p).1, q, 2, 0, 0, 0, false, false, b7.1)).bind fun b9 => RET b9)))))
def F28 := Ud (β := Ab × Int) some
theorem X5t {β : Type} (k : Nat) (v : Ab) (w : An) (p q : Int) (o : (den Bd)) (K : KT β) : Aj (Yep k) Tryz.f28 (PsT.put X29 (v, w, p, q, o, ())) K = (F28 k v w p q o).bind fun r => K (F28_O.put r) :=
 Eq.trans (b := Ud (fun r => K (F28_O.put r)) k v w p q o) (by kernel_rfl) (by simp only [F28, Ud, z1, z2, z3, z4, z5, z6, z7, z8, Ek])
def X3g (k : Nat) : FD := ⟨28, X29, F28_O, F28 k⟩
theorem Yc3 (k : Nat) : (X3g k).Ok Tryz.prog := ⟨fun x => Ac (Am (Ah (.c (Xo3 k) (.c (Xqe k) (.c (Xti k) (.c (Dl k) (.c (X3u k) (.c (Ydy k) (.c (X2p k) .n)))))))) _ _ _ _) Ak Tryz.func28 rfl rfl (X5t k _ _ _ _ _ some), .of (by kernel_rfl)⟩
end
end Go.Proofs.YtdmepjjepogddaaGreat.Gn
end

section
set_option linter.unusedVariables false
set_option linter.unusedSimpArgs false
namespace Go.Proofs.YtdmepjjepogddaaGreat.Gn
open Go.Rf IntKind
noncomputable section
abbrev Yfj (k : Nat) : Env := Bc Bx Ao .own [] k
abbrev X21 : List PA := [.one mI, .one mI, .one mI]
abbrev F64_O : RO := ⟨[.v], [mB]⟩
def Rp (k : Nat) (v w p : Int) : Option (Bool) := cond (decide (v ≥ w)) (some (decide (v ≤ p))) (some false)
theorem Yb5 {β : Type} (k : Nat) (v w p : Int) (K : KT β) : Aj (Yfj k) Tryz.f64 (PsT.put X21 (v, w, p, ())) K = (Rp k v w p).bind fun r => K (F64_O.put r) :=
 Eq.trans (b := cond (decide (v ≥ w)) (K (F64_O.put (decide (v ≤ p)))) (K (F64_O.put false))) (by kernel_rfl) (by simp only [Rp, z1, z2, z3, z4, z5, z6, z7, z8])
def Gl (k : Nat) : FD := ⟨64, X21, F64_O, Rp k⟩
theorem G7 (k : Nat) : (Gl k).Ok Tryz.prog := ⟨fun x => Ac (Am .none _ _ _ _) Ak Tryz.func64 rfl rfl (Yb5 k _ _ _ some), .of (by kernel_rfl)⟩
abbrev Yfc (k : Nat) : Env := Bc (A0 [Gl k]) Ao .own [] k
abbrev X26 : List PA := [.one mI]
abbrev F85_O : RO := ⟨[.v], [mB]⟩
def F85 (k : Nat) (v : Int) : Option (Bool) := (Rp k v 1 255).bind fun b1 => some b1
theorem X94 {β : Type} (k : Nat) (v : Int) (K : KT β) : Aj (Yfc k) Tryz.f85 (PsT.put X26 (v, ())) K = (F85 k v).bind fun r => K (F85_O.put r) :=
 Eq.trans (b := (Rp k v 1 255).bind fun b1 => K (F85_O.put b1)) (by kernel_rfl) (by simp only [F85, z1, z2, z3, z4, z5, z6, z7, z8])
def Xp7 (k : Nat) : FD := ⟨85, X26, F85_O, F85 k⟩
theorem X35 (k : Nat) : (Xp7 k).Ok Tryz.prog := ⟨fun x => Ac (Am (Ah (.c (G7 k) .n)) _ _ _ _) Ak Tryz.func85 rfl rfl (X94 k _ some), .of (by kernel_rfl)⟩
abbrev Yet (k : Nat) : Env := Bc (A0 [Gl k]) Ao .own [] k
abbrev X19 : List PA := [.one mI]
abbrev F65_O : RO := ⟨[.v], [mB]⟩
def Xw (k : Nat) (v : Int) : Option (Bool) := (Rp k v 0 65535).bind fun b1 => some b1
theorem X6e {β : Type} (k : Nat) (v : Int) (K : KT β) : Aj (Yet k) Tryz.f65 (PsT.put X19 (v, ())) K = (Xw k v).bind fun r => K (F65_O.put r) :=
 Eq.trans (b := (Rp k v 0 65535).bind fun b1 => K (F65_O.put b1)) (by kernel_rfl) (by simp only [Xw, z1, z2, z3, z4, z5, z6, z7, z8])
def Jm (k : Nat) : FD := ⟨65, X19, F65_O, Xw k⟩
theorem L2 (k : Nat) : (Jm k).Ok Tryz.prog := ⟨fun x => Ac (Am (Ah (.c (G7 k) .n)) _ _ _ _) Ak Tryz.func65 rfl rfl (X6e k _ some), .of (by kernel_rfl)⟩
abbrev Yex (k : Nat) : Env := Bc (A0 [Jm k, Xp7 k]) Ao .own [] k
abbrev X2t : List PA := [.agg (.pair mI (.pair mI O2))]
abbrev F79_O : RO := ⟨[.v], [mB]⟩
def Xjg {β : Type} (RET : Bool → Option β) (k : Nat) (v : (den Bd)) : Option β := (Xw k v.1).bind fun b1 => cond b1 ((F85 k v.2.1).bind fun b2 => cond b2 ((F85 k v.2.2.1).bind fun b3 => cond b3 (RET (decide ((v.2.2.2.length : Int) ≤ 40))) (RET false)) (RET false)) (RET false)
def F79 := Xjg (β := Bool) some
theorem Yal {β : Type} (k : Nat) (v : (den Bd)) (K : KT β) : Aj (Yex k) Tryz.f79 (PsT.put X2t (v, ())) K = (F79 k v).bind fun r => K (F79_O.put r) :=
 Eq.trans (b := Xjg (fun r => K (F79_O.put r)) k v) (by kernel_rfl) (by simp only [F79, Xjg, z1, z2, z3, z4, z5, z6, z7, z8, Ek])
def Xkg (k : Nat) : FD := ⟨79, X2t, F79_O, F79 k⟩
theorem Xup (k : Nat) : (Xkg k).Ok Tryz.prog := ⟨fun x => Ac (Am (Ah (.c (L2 k) (.c (X35 k) .n))) _ _ _ _) Ak Tryz.func79 rfl rfl (Yal k _ some), .of (by kernel_rfl)⟩
abbrev Yd9 (k : Nat) : Env := Bc (A0 [Xkg k]) Ao .own [(false, 1000), (false, 1001)] k
abbrev X2g : List PA := [.agg (.pair mI (.pair mI O2)), .p (.pair mI (.sl .ro Bd))]
abbrev F87_O : RO := ⟨[.v], [mB, .pair mI (.sl .ro Bd)]⟩
def F87 (k : Nat) (v : (den Bd)) (w : (den Ay)) : Option (Bool × (den Ay)) := (F79 k v).bind fun b1 => cond (!b1) (some (true, w)) (some ((v.2.2.1 != w.1), w))
theorem X7e {β : Type} (k : Nat) (v : (den Bd)) (w : (den Ay)) (K : KT β) : Aj (Yd9 k) Tryz.f87 (PsT.put X2g (v, w, ())) K = (F87 k v w).bind fun r => K (F87_O.put r) :=
 Eq.trans (b := (F79 k v).bind fun b1 => cond (!b1) (K (F87_O.put (true, w))) (K (F87_O.put ((v.2.2.1 != w.1), w)))) (by kernel_rfl) (by simp only [F87, z1, z2, z3, z4, z5, z6, z7, z8, Ek])
def X14 (k : Nat) : FD := ⟨87, X2g, F87_O, F87 k⟩
theorem Ydp (k : Nat) : (X14 k).Ok Tryz.prog := ⟨fun x => Ac (Am (Ah (.c (Xup k) .n)) _ _ _ _) Ak Tryz.func87 rfl rfl (X7e k _ _ some), .of (by kernel_rfl)⟩
def Ybk : Nat → Hint
 | 0 => ⟨pl 0 2 (pl 7 2 []), pl 1100 2 []⟩
 | _ => ⟨[], []⟩
abbrev Xu (k : Nat) : Env := Bc (A0 [X14 k]) Ybk .own [(false, 1100), (false, 1101)] k
abbrev Xe6 : List PA := [.one (.sl .ro Bd), .fc 87 [.pair mI (.sl .ro Bd)]]
abbrev F157_O : RO := ⟨[.v], [mI, .pair mI (.sl .ro Bd)]⟩
noncomputable def X56 {β : Type} (k : Nat) (v : Cm) (wx : (den Ay)) (K : KT β) : Ex → St → Option β := Br (Xu k) Tryz.f157 (PsT.put Xe6 (v, (wx, ()), ())) K
def X1u (v : Cm) (wx : (den Ay)) (x8_0 : Int) (m1100_0 : (den Ay)) : St := ⟨(.one (.s .ro Bd v)) :: (.one (.fn 87 [((.cell 1100), 2, 0)])) :: dz 5 ((.one (vI (v.length : Int))) :: (.one (vI x8_0)) :: dz 10 []), A9 1100 (B0 (.pair mI (.sl .ro Bd)) m1100_0) []⟩
noncomputable def P4 {β : Type} (k : Nat) (v : Cm) (wx : (den Ay)) (K : KT β) (n : Nat) (x8_0 : Int) (m1100_0 : (den Ay)) : Option β := A2 (Xu k) Tryz.f157 [1, 0, 1, 0] 0 (Ae (Xu k) [1, 0, 1, 0] (Af Tryz.f157) 0 (X56 k v wx K)) n (X1u v wx x8_0 m1100_0)
def Li {β : Type} (NX : Int → (den Ay) → Option β) (RET : (Int × (den Ay)) → Option β) (k : Nat) (v : Cm) (wx : (den Ay)) (x8_0 : Int) (m1100_0 : (den Ay)) : Option β := cond (decide (x8_0 < (v.length : Int))) (Ax x8_0 v ((F87 k (Ad v x8_0) m1100_0).bind fun b1 => cond b1.1 (RET (x8_0, b1.2)) (NX (i64.wrap (x8_0 + 1)) b1.2))) (RET ((-1), m1100_0))
def La (k : Nat) (v : Cm) (wx : (den Ay)) : Nat → Int → (den Ay) → Option (Int × (den Ay))
 | 0, _, _ => none
 | n + 1, x8_0, m1100_0 => Li (La k v wx n) some k v wx x8_0 m1100_0
theorem Xgb {β : Type} (k : Nat) (v : Cm) (wx : (den Ay)) (K : KT β) (n : Nat) : ∀ (x8_0 : Int) (m1100_0 : (den Ay)), P4 k v wx K n x8_0 m1100_0 =
  (La k v wx n x8_0 m1100_0).bind fun r => K (F157_O.put r) := by
 induction n with
 | zero => intros; rfl
 | succ n ih =>
  intro x8_0 m1100_0
  refine Eq.trans (b := Li (P4 k v wx K n) (fun r => K (F157_O.put r)) k v wx x8_0 m1100_0) (by kernel_rfl) ?_
  rw [La]
  simp only [Li, z1, z2, z3, z4, z5, z6, z7, z8, ih]
def Xd7 {β : Type} (LP0 : Int → (den Ay) → Option β) (k : Nat) (v : Cm) (wx : (den Ay)) : Option β := LP0 0 wx
def Xt9 (k : Nat) (v : Cm) (wx : (den Ay)) : Option (Int × (den Ay)) := Xd7 (La k v wx k) k v wx
theorem Xxn {β : Type} (k : Nat) (v : Cm) (wx : (den Ay)) (K : KT β) : Aj (Xu k) Tryz.f157 (PsT.put Xe6 (v, (wx, ()), ())) K = (Xt9 k v wx).bind fun r => K (F157_O.put r) :=
 Eq.trans (b := Xd7 (P4 k v wx K k) k v wx) (by kernel_rfl) (by simp only [Xt9, Xd7, z1, z2, z3, z4, z5, z6, z7, z8, Xgb])
def Xvx (k : Nat) : FD := ⟨157, Xe6, F157_O, Xt9 k⟩
theorem Yap (k : Nat) : (Xvx k).Ok Tryz.prog := ⟨fun x => Ac (Am (Ah (.c (Ydp k) .n)) _ _ _ _) Ak Tryz.func157 rfl rfl (Xxn k _ _ some), .of (by kernel_rfl)⟩
abbrev Ydo (k : Nat) : Env := Bc (A0 [Xvx k]) Ao .own [(false, 1100), (false, 1101)] k
abbrev X28 : List PA := [.one (.sl .ro Bd), .fc 87 [.pair mI (.sl .ro Bd)]]
abbrev F86_O : RO := ⟨[.v], [mB, .pair mI (.sl .ro Bd)]⟩
def F86 (k : Nat) (v : Cm) (wx : (den Ay)) : Option (Bool × (den Ay)) := (Xt9 k v wx).bind fun b1 => some (decide (b1.1 ≥ 0), b1.2)
theorem X6u {β : Type} (k : Nat) (v : Cm) (wx : (den Ay)) (K : KT β) : Aj (Ydo k) Tryz.f86 (PsT.put X28 (v, (wx, ()), ())) K = (F86 k v wx).bind fun r => K (F86_O.put r) :=
 Eq.trans (b := (Xt9 k v wx).bind fun b1 => K (F86_O.put (decide (b1.1 ≥ 0), b1.2))) (by kernel_rfl) (by simp only [F86, z1, z2, z3, z4, z5, z6, z7, z8])
def X2z (k : Nat) : FD := ⟨86, X28, F86_O, F86 k⟩
theorem Yey (k : Nat) : (X2z k).Ok Tryz.prog := ⟨fun x => Ac (Am (Ah (.c (Yap k) .n)) _ _ _ _) Ak Tryz.func86 rfl rfl (X6u k _ _ some), .of (by kernel_rfl)⟩
def Yel : Nat → Hint
 | 0 => ⟨pl 0 1 (pl 5 3 []), []⟩
 | _ => ⟨[], []⟩
abbrev Xi2 (k : Nat) : Env := Bc (A0 [Xp7 k, X2z k]) Yel .own [] k
abbrev Xqa : List PA := [.one (.sl .ro Ay)]
abbrev F30_O : RO := ⟨[.v], [mB]⟩
noncomputable def Yef {β : Type} (k : Nat) (v : Ab) (K : KT β) : Ex → St → Option β := Br (Xi2 k) Tryz.f30 (PsT.put Xqa (v, ())) K
def X9z (v : Ab) (x7_0 : Int) : St := ⟨(.one (.s .ro Ay v)) :: dz 4 ((.one (.s .ro Ay v)) :: (.one (vI (v.length : Int))) :: (.one (vI x7_0)) :: dz 39 []), []⟩
noncomputable def Us {β : Type} (k : Nat) (v : Ab) (K : KT β) (n : Nat) (x7_0 : Int) : Option β := A2 (Xi2 k) Tryz.f30 [1, 0, 1, 0] 0 (Ae (Xi2 k) [1, 0, 1, 0] (Af Tryz.f30) 0 (Yef k v K)) n (X9z v x7_0)
def G6 {β : Type} (k : Nat) (v : Ab) (NX : Int → Option β) (RET : Bool → Option β) (x7_0 : Int) : Option β := cond (decide (((Ad v x7_0).2.length : Int) > 3)) (RET false) ((F86 k (Ad v x7_0).2 (Ad v x7_0)).bind fun b2 => cond b2.1 (RET false) (NX (i64.wrap (x7_0 + 1))))
def Ou {β : Type} (NX : Int → Option β) (RET : Bool → Option β) (k : Nat) (v : Ab) (x7_0 : Int) : Option β := cond (decide (x7_0 < (v.length : Int))) (Ax x7_0 v ((F85 k (Ad v x7_0).1).bind fun b1 => cond (!b1) (RET false) (cond (decide (x7_0 > 0)) (Ax (i64.wrap (x7_0 - 1)) v (cond (decide ((Ad v (i64.wrap (x7_0 - 1))).1 ≥ (Ad v x7_0).1)) (RET false) (G6 k v NX RET x7_0))) (G6 k v NX RET x7_0)))) (RET (decide ((v.length : Int) ≤ 4)))
def Mw (k : Nat) (v : Ab) : Nat → Int → Option (Bool)
 | 0, _ => none
 | n + 1, x7_0 => Ou (Mw k v n) some k v x7_0
theorem Xlq {β : Type} (k : Nat) (v : Ab) (K : KT β) (n : Nat) : ∀ (x7_0 : Int), Us k v K n x7_0 =
  (Mw k v n x7_0).bind fun r => K (F30_O.put r) := by
 induction n with
 | zero => intros; rfl
 | succ n ih =>
  intro x7_0
  refine Eq.trans (b := Ou (Us k v K n) (fun r => K (F30_O.put r)) k v x7_0) (by kernel_rfl) ?_
  rw [Mw]
  simp only [Ou, G6, z1, z2, z3, z4, z5, z6, z7, z8, ih]
def Xqu {β : Type} (LP0 : Int → Option β) (k : Nat) (v : Ab) : Option β := LP0 0
def F30 (k : Nat) (v : Ab) : Option (Bool) := Xqu (Mw k v k) k v
theorem X7v {β : Type} (k : Nat) (v : Ab) (K : KT β) : Aj (Xi2 k) Tryz.f30 (PsT.put Xqa (v, ())) K = (F30 k v).bind fun r => K (F30_O.put r) :=
 Eq.trans (b := Xqu (Us k v K k) k v) (by kernel_rfl) (by simp only [F30, Xqu, z1, z2, z3, z4, z5, z6, z7, z8, Xlq])
def Xjz (k : Nat) : FD := ⟨30, Xqa, F30_O, F30 k⟩
theorem Xrx (k : Nat) : (Xjz k).Ok Tryz.prog := ⟨fun x => Ac (Am (Ah (.c (X35 k) (.c (Yey k) .n))) _ _ _ _) Ak Tryz.func30 rfl rfl (X7v k _ some), .of (by kernel_rfl)⟩
abbrev X7t (k : Nat) : Env := Bc (A0 [Gl k, Jm k]) Ao .own [] k
abbrev Xva : List PA := [.agg m_7]
abbrev F226_O : RO := ⟨[.v], [mB]⟩
def Zl {β : Type} (RET : Bool → Option β) (k : Nat) (v : (den Ci)) : Option β := C7 v fun v0 v1 v2 v3 => (Rp k v1 0 16).bind fun b1 => cond b1 ((Xw k v0).bind fun b2 => cond b2 (cond (decide ((i64.wrap (16 - v1)) < 0)) none (cond (decide ((i64.wrap (1 * 2 ^ (min (i64.wrap (16 - v1)).toNat 64))) = 0)) none (cond ((v0.tmod (i64.wrap (1 * 2 ^ (min (i64.wrap (16 - v1)).toNat 64)))) == 0) ((Xw k v2).bind fun b3 => cond b3 ((Rp k v3 1 48).bind fun b4 => RET b4) (RET false)) (RET false)))) (RET false)) (RET false)
def Xm6 := Zl (β := Bool) some
theorem Xyd {β : Type} (k : Nat) (v : (den Ci)) (K : KT β) : Aj (X7t k) Tryz.f226 (PsT.put Xva (v, ())) K = (Xm6 k v).bind fun r => K (F226_O.put r) :=
 Eq.trans (b := Zl (fun r => K (F226_O.put r)) k v) (by kernel_rfl) (by simp only [Xm6, Zl, z1, z2, z3, z4, z5, z6, z7, z8, C7])
def Xv5 (k : Nat) : FD := ⟨226, Xva, F226_O, Xm6 k⟩
theorem X7c (k : Nat) : (Xv5 k).Ok Tryz.prog := ⟨fun x => Ac (Am (Ah (.c (G7 k) (.c (L2 k) .n))) _ _ _ _) Ak Tryz.func226 rfl rfl (Xyd k _ some), .of (by kernel_rfl)⟩
abbrev Yb8 (k : Nat) : Env := Bc Bx Ao .own [] k
abbrev Xs4 : List PA := [.one mI]
abbrev F228_O : RO := ⟨[.v], [mB]⟩
def Xl4 (k : Nat) (v : Int) : Option (Bool) := some (v != v)
theorem X0g {β : Type} (k : Nat) (v : Int) (K : KT β) : Aj (Yb8 k) Tryz.f228 (PsT.put Xs4 (v, ())) K = (Xl4 k v).bind fun r => K (F228_O.put r) :=
 Eq.trans (b := K (F228_O.put (v != v))) (by kernel_rfl) (by simp only [Xl4, z1, z2, z3, z4, z5, z6, z7, z8])
def Xn8 (k : Nat) : FD := ⟨228, Xs4, F228_O, Xl4 k⟩
theorem X5m (k : Nat) : (Xn8 k).Ok Tryz.prog := ⟨fun x => Ac (Am .none _ _ _ _) Ak Tryz.func228 rfl rfl (X0g k _ some), .of (by kernel_rfl)⟩
abbrev X7l (k : Nat) : Env := Bc (A0 [Xn8 k]) Ao .own [] k
abbrev Xrs : List PA := [.one mI, .one mI]
abbrev F162_O : RO := ⟨[.v], [mI]⟩
def Xab {β : Type} (RET : Int → Option β) (k : Nat) (v w : Int) : Option β := (Xl4 k v).bind fun b1 => (Xl4 k w).bind fun b2 => cond b1 (cond b2 (RET 0) (RET (-1))) (cond b2 (RET 1) (cond (decide (v < w)) (RET (-1)) (cond (decide (v > w)) (RET 1) (RET 0))))
def Xaa := Xab (β := Int) some
theorem Xwz {β : Type} (k : Nat) (v w : Int) (K : KT β) : Aj (X7l k) Tryz.f162 (PsT.put Xrs (v, w, ())) K = (Xaa k v w).bind fun r => K (F162_O.put r) :=
 Eq.trans (b := Xab (fun r => K (F162_O.put r)) k v w) (by kernel_rfl) (by simp only [Xaa, Xab, z1, z2, z3, z4, z5, z6, z7, z8])
def Xfl (k : Nat) : FD := ⟨162, Xrs, F162_O, Xaa k⟩
theorem Xr2 (k : Nat) : (Xfl k).Ok Tryz.prog := ⟨fun x => Ac (Am (Ah (.c (X5m k) .n)) _ _ _ _) Ak Tryz.func162 rfl rfl (Xwz k _ _ some), .of (by kernel_rfl)⟩
def Yca : Nat → Hint
 | 0 => ⟨pl 3 1 (pl 6 3 []), []⟩
 | _ => ⟨[], []⟩
abbrev Xr (k : Nat) : Env := Bc Bx Yca .own [] k
abbrev Xgt : List PA := [.one (.sl .ro (.int .i64))]
abbrev F280_O : RO := ⟨[.v], [mI]⟩
noncomputable def X9d {β : Type} (k : Nat) (v : Bn) (K : KT β) : Ex → St → Option β := Br (Xr k) Tryz.f280 (PsT.put Xgt (v, ())) K
def Xw0 (v : Bn) (x8_0 : Int) : St := ⟨dz 3 ((.one (vI 0)) :: (.one .d) :: (.one .d) :: (.one (.s .ro (.int .i64) v)) :: (.one (vI (v.length : Int))) :: (.one (vI x8_0)) :: dz 9 []), []⟩
noncomputable def Pk {β : Type} (k : Nat) (v : Bn) (K : KT β) (n : Nat) (x8_0 : Int) : Option β := A2 (Xr k) Tryz.f280 [1, 1, 0, 1, 0] 0 (Ae (Xr k) [1, 1, 0, 1, 0] (Af Tryz.f280) 0 (X9d k v K)) n (Xw0 v x8_0)
def Fa {β : Type} (NX : Int → Option β) (RET : Int → Option β) (k : Nat) (v : Bn) (x8_0 : Int) : Option β := cond (decide (x8_0 < (v.length : Int))) (Ax x8_0 v (cond ((Ad v x8_0) != 0) (RET (Ad v x8_0)) (NX (i64.wrap (x8_0 + 1))))) (RET 0)
def F1 (k : Nat) (v : Bn) : Nat → Int → Option (Int)
 | 0, _ => none
 | n + 1, x8_0 => Fa (F1 k v n) some k v x8_0
theorem Xhx {β : Type} (k : Nat) (v : Bn) (K : KT β) (n : Nat) : ∀ (x8_0 : Int), Pk k v K n x8_0 =
  (F1 k v n x8_0).bind fun r => K (F280_O.put r) := by
 induction n with
 | zero => intros; rfl
 | succ n ih =>
  intro x8_0
  refine Eq.trans (b := Fa (Pk k v K n) (fun r => K (F280_O.put r)) k v x8_0) (by kernel_rfl) ?_
  rw [F1]
  simp only [Fa, z1, z2, z3, z4, z5, z6, z7, z8, ih]
def Xii {β : Type} (LP0 : Int → Option β) (k : Nat) (v : Bn) : Option β := LP0 0
def Xsi (k : Nat) (v : Bn) : Option (Int) := Xii (F1 k v k) k v
theorem Xze {β : Type} (k : Nat) (v : Bn) (K : KT β) : Aj (Xr k) Tryz.f280 (PsT.put Xgt (v, ())) K = (Xsi k v).bind fun r => K (F280_O.put r) :=
 Eq.trans (b := Xii (Pk k v K k) k v) (by kernel_rfl) (by simp only [Xsi, Xii, z1, z2, z3, z4, z5, z6, z7, z8, Xhx])
def Xua (k : Nat) : FD := ⟨280, Xgt, F280_O, Xsi k⟩
theorem X68 (k : Nat) : (Xua k).Ok Tryz.prog := ⟨fun x => Ac (Am .none _ _ _ _) Ak Tryz.func280 rfl rfl (Xze k _ some), .of (by kernel_rfl)⟩
abbrev Yax (k : Nat) : Env := Bc (A0 [Xfl k, Xua k]) Ao .own [] k
abbrev Xro : List PA := [.agg m_7, .agg m_7]
abbrev F227_O : RO := ⟨[.v], [mI]⟩
def X4 {β : Type} (RET : Int → Option β) (k : Nat) (v w : (den Ci)) : Option β := (Xaa k v.2.1 w.2.1).bind fun b1 => (Xaa k v.1 w.1).bind fun b2 => (Xsi k [b1, b2]).bind fun b3 => RET b3
def Xnn := X4 (β := Int) some
theorem X08 {β : Type} (k : Nat) (v w : (den Ci)) (K : KT β) : Aj (Yax k) Tryz.f227 (PsT.put Xro (v, w, ())) K = (Xnn k v w).bind fun r => K (F227_O.put r) :=
 Eq.trans (b := X4 (fun r => K (F227_O.put r)) k v w) (by kernel_rfl) (by simp only [Xnn, X4, z1, z2, z3, z4, z5, z6, z7, z8, C7])
def Xpm (k : Nat) : FD := ⟨227, Xro, F227_O, Xnn k⟩
theorem X48 (k : Nat) : (Xpm k).Ok Tryz.prog := ⟨fun x => Ac (Am (Ah (.c (Xr2 k) (.c (X68 k) .n))) _ _ _ _) Ak Tryz.func227 rfl rfl (X08 k _ _ some), .of (by kernel_rfl)⟩
def Ybg : Nat → Hint
 | 0 => ⟨pl 0 1 (pl 5 3 []), []⟩
 | _ => ⟨[], []⟩
abbrev Xav (k : Nat) : Env := Bc (A0 [Xv5 k, Xpm k]) Ybg .own [] k
abbrev Xhq : List PA := [.one (.sl .ro Ci)]
abbrev F158_O : RO := ⟨[.v], [mB]⟩
noncomputable def X8t {β : Type} (k : Nat) (v : A5) (K : KT β) : Ex → St → Option β := Br (Xav k) Tryz.f158 (PsT.put Xhq (v, ())) K
def Xxc (v : A5) (x7_0 : Int) : St := ⟨(.one (.s .ro Ci v)) :: dz 4 ((.one (.s .ro Ci v)) :: (.one (vI (v.length : Int))) :: (.one (vI x7_0)) :: dz 25 []), []⟩
noncomputable def Q0 {β : Type} (k : Nat) (v : A5) (K : KT β) (n : Nat) (x7_0 : Int) : Option β := A2 (Xav k) Tryz.f158 [1, 0, 1, 0] 0 (Ae (Xav k) [1, 0, 1, 0] (Af Tryz.f158) 0 (X8t k v K)) n (Xxc v x7_0)
def Kp {β : Type} (NX : Int → Option β) (RET : Bool → Option β) (k : Nat) (v : A5) (x7_0 : Int) : Option β := cond (decide (x7_0 < (v.length : Int))) (Ax x7_0 v ((Xm6 k (Ad v x7_0)).bind fun b1 => cond (!b1) (RET false) (cond (decide (x7_0 > 0)) (Ax (i64.wrap (x7_0 - 1)) v ((Xnn k (Ad v (i64.wrap (x7_0 - 1))) (Ad v x7_0)).bind fun b2 => cond (decide (b2 ≥ 0)) (RET false) (NX (i64.wrap (x7_0 + 1))))) (NX (i64.wrap (x7_0 + 1)))))) (RET (decide ((v.length : Int) ≤ 8)))
def Ke (k : Nat) (v : A5) : Nat → Int → Option (Bool)
 | 0, _ => none
 | n + 1, x7_0 => Kp (Ke k v n) some k v x7_0
theorem Xfw {β : Type} (k : Nat) (v : A5) (K : KT β) (n : Nat) : ∀ (x7_0 : Int), Q0 k v K n x7_0 =
  (Ke k v n x7_0).bind fun r => K (F158_O.put r) := by
 induction n with
 | zero => intros; rfl
 | succ n ih =>
  intro x7_0
  refine Eq.trans (b := Kp (Q0 k v K n) (fun r => K (F158_O.put r)) k v x7_0) (by kernel_rfl) ?_
  rw [Ke]
  simp only [Kp, z1, z2, z3, z4, z5, z6, z7, z8, ih]
def Xfg {β : Type} (LP0 : Int → Option β) (k : Nat) (v : A5) : Option β := LP0 0
def Xl1 (k : Nat) (v : A5) : Option (Bool) := Xfg (Ke k v k) k v
theorem Xye {β : Type} (k : Nat) (v : A5) (K : KT β) : Aj (Xav k) Tryz.f158 (PsT.put Xhq (v, ())) K = (Xl1 k v).bind fun r => K (F158_O.put r) :=
 Eq.trans (b := Xfg (Q0 k v K k) k v) (by kernel_rfl) (by simp only [Xl1, Xfg, z1, z2, z3, z4, z5, z6, z7, z8, Xfw])
def Xty (k : Nat) : FD := ⟨158, Xhq, F158_O, Xl1 k⟩
theorem Yad (k : Nat) : (Xty k).Ok Tryz.prog := ⟨fun x => Ac (Am (Ah (.c (X7c k) (.c (X48 k) .n))) _ _ _ _) Ak Tryz.func158 rfl rfl (Xye k _ some), .of (by kernel_rfl)⟩
abbrev Ydq (k : Nat) : Env := Bc (A0 [Jm k, Xty k]) Ao .own [] k
abbrev X2u : List PA := [.agg (.pair mI (.sl .ro Ci))]
abbrev F88_O : RO := ⟨[.v], [mB]⟩
def F88 (k : Nat) (v : (den sta)) : Option (Bool) := (Xw k v.1).bind fun b1 => cond b1 ((Xl1 k v.2).bind fun b2 => some b2) (some false)
theorem X5b {β : Type} (k : Nat) (v : (den sta)) (K : KT β) : Aj (Ydq k) Tryz.f88 (PsT.put X2u (v, ())) K = (F88 k v).bind fun r => K (F88_O.put r) :=
 Eq.trans (b := (Xw k v.1).bind fun b1 => cond b1 ((Xl1 k v.2).bind fun b2 => K (F88_O.put b2)) (K (F88_O.put false))) (by kernel_rfl) (by simp only [F88, z1, z2, z3, z4, z5, z6, z7, z8])
def X22 (k : Nat) : FD := ⟨88, X2u, F88_O, F88 k⟩
theorem Yem (k : Nat) : (X22 k).Ok Tryz.prog := ⟨fun x => Ac (Am (Ah (.c (L2 k) (.c (Yad k) .n))) _ _ _ _) Ak Tryz.func88 rfl rfl (X5b k _ some), .of (by kernel_rfl)⟩
abbrev X44 (k : Nat) : Env := Bc Bx Ao .own [(false, 1000)] k
abbrev Xsx : List PA := [.agg (.pair mI (.sl .ro Ci)), .p mI]
abbrev F148_O : RO := ⟨[.v], [mB, mI]⟩
def Xuy (k : Nat) (v : (den sta)) (w : Int) : Option (Bool × Int) := some ((v.1 == w), w)
theorem Xyu {β : Type} (k : Nat) (v : (den sta)) (w : Int) (K : KT β) : Aj (X44 k) Tryz.f148 (PsT.put Xsx (v, w, ())) K = (Xuy k v w).bind fun r => K (F148_O.put r) :=
 Eq.trans (b := K (F148_O.put ((v.1 == w), w))) (by kernel_rfl) (by simp only [Xuy, z1, z2, z3, z4, z5, z6, z7, z8])
def Xvd (k : Nat) : FD := ⟨148, Xsx, F148_O, Xuy k⟩
theorem X5k (k : Nat) : (Xvd k).Ok Tryz.prog := ⟨fun x => Ac (Am .none _ _ _ _) Ak Tryz.func148 rfl rfl (Xyu k _ _ some), .of (by kernel_rfl)⟩
def X7o : Nat → Hint
 | 0 => ⟨pl 0 2 (pl 7 2 []), pl 1100 1 []⟩
 | _ => ⟨[], []⟩
abbrev Xa (k : Nat) : Env := Bc (A0 [Xvd k]) X7o .own [(false, 1100)] k
abbrev Xgg : List PA := [.one (.sl .ro sta), .fc 148 [mI]]
abbrev F147_O : RO := ⟨[.v], [mI, mI]⟩
noncomputable def X63 {β : Type} (k : Nat) (v : An) (wx : Int) (K : KT β) : Ex → St → Option β := Br (Xa k) Tryz.f147 (PsT.put Xgg (v, (wx, ()), ())) K
def Xyw (v : An) (wx : Int) (x8_0 m1100_0 : Int) : St := ⟨(.one (.s .ro sta v)) :: (.one (.fn 148 [((.cell 1100), 1, 0)])) :: dz 5 ((.one (vI (v.length : Int))) :: (.one (vI x8_0)) :: dz 10 []), [iM 1100 m1100_0]⟩
noncomputable def Pc {β : Type} (k : Nat) (v : An) (wx : Int) (K : KT β) (n : Nat) (x8_0 m1100_0 : Int) : Option β := A2 (Xa k) Tryz.f147 [1, 0, 1, 0] 0 (Ae (Xa k) [1, 0, 1, 0] (Af Tryz.f147) 0 (X63 k v wx K)) n (Xyw v wx x8_0 m1100_0)
def Lg {β : Type} (NX : Int → Int → Option β) (RET : (Int × Int) → Option β) (k : Nat) (v : An) (wx : Int) (x8_0 m1100_0 : Int) : Option β := cond (decide (x8_0 < (v.length : Int))) (Ax x8_0 v ((Xuy k (Ad v x8_0) m1100_0).bind fun b1 => cond b1.1 (RET (x8_0, b1.2)) (NX (i64.wrap (x8_0 + 1)) b1.2))) (RET ((-1), m1100_0))
def Lf (k : Nat) (v : An) (wx : Int) : Nat → Int → Int → Option (Int × Int)
 | 0, _, _ => none
 | n + 1, x8_0, m1100_0 => Lg (Lf k v wx n) some k v wx x8_0 m1100_0
theorem Xh1 {β : Type} (k : Nat) (v : An) (wx : Int) (K : KT β) (n : Nat) : ∀ (x8_0 m1100_0 : Int), Pc k v wx K n x8_0 m1100_0 =
  (Lf k v wx n x8_0 m1100_0).bind fun r => K (F147_O.put r) := by
 induction n with
 | zero => intros; rfl
 | succ n ih =>
  intro x8_0 m1100_0
  refine Eq.trans (b := Lg (Pc k v wx K n) (fun r => K (F147_O.put r)) k v wx x8_0 m1100_0) (by kernel_rfl) ?_
  rw [Lf]
  simp only [Lg, z1, z2, z3, z4, z5, z6, z7, z8, ih]
def Xfo {β : Type} (LP0 : Int → Int → Option β) (k : Nat) (v : An) (wx : Int) : Option β := LP0 0 wx
def Xwf (k : Nat) (v : An) (wx : Int) : Option (Int × Int) := Xfo (Lf k v wx k) k v wx
theorem Xxu {β : Type} (k : Nat) (v : An) (wx : Int) (K : KT β) : Aj (Xa k) Tryz.f147 (PsT.put Xgg (v, (wx, ()), ())) K = (Xwf k v wx).bind fun r => K (F147_O.put r) :=
 Eq.trans (b := Xfo (Pc k v wx K k) k v wx) (by kernel_rfl) (by simp only [Xwf, Xfo, z1, z2, z3, z4, z5, z6, z7, z8, Xh1])
def Xvh (k : Nat) : FD := ⟨147, Xgg, F147_O, Xwf k⟩
theorem X4z (k : Nat) : (Xvh k).Ok Tryz.prog := ⟨fun x => Ac (Am (Ah (.c (X5k k) .n)) _ _ _ _) Ak Tryz.func147 rfl rfl (Xxu k _ _ some), .of (by kernel_rfl)⟩
abbrev Ycs (k : Nat) : Env := Bc (A0 [Xvh k]) Ao .own [] k
abbrev X12 : List PA := [.one (.sl .ro sta), .one mI]
abbrev F75_O : RO := ⟨[.v], [mI]⟩
def F75 (k : Nat) (v : An) (w : Int) : Option (Int) := (Xwf k v w).bind fun b1 => some b1.1
theorem Ya6 {β : Type} (k : Nat) (v : An) (w : Int) (K : KT β) : Aj (Ycs k) Tryz.f75 (PsT.put X12 (v, w, ())) K = (F75 k v w).bind fun r => K (F75_O.put r) :=
 Eq.trans (b := (Xwf k v w).bind fun b1 => K (F75_O.put b1.1)) (by kernel_rfl) (by simp only [F75, z1, z2, z3, z4, z5, z6, z7, z8])
def Xkd (k : Nat) : FD := ⟨75, X12, F75_O, F75 k⟩
theorem Xoz (k : Nat) : (Xkd k).Ok Tryz.prog := ⟨fun x => Ac (Am (Ah (.c (X4z k) .n)) _ _ _ _) Ak Tryz.func75 rfl rfl (Ya6 k _ _ some), .of (by kernel_rfl)⟩
def Yd2 : Nat → Hint
 | 0 => ⟨pl 0 1 (pl 5 3 []), []⟩
 | _ => ⟨[], []⟩
abbrev Xi1 (k : Nat) : Env := Bc (A0 [X22 k, Xkd k]) Yd2 .own [] k
abbrev Xql : List PA := [.one (.sl .ro sta)]
abbrev F31_O : RO := ⟨[.v], [mB]⟩
noncomputable def Yd7 {β : Type} (k : Nat) (v : An) (K : KT β) : Ex → St → Option β := Br (Xi1 k) Tryz.f31 (PsT.put Xql (v, ())) K
def Yag (v : An) (x7_0 : Int) : St := ⟨(.one (.s .ro sta v)) :: dz 4 ((.one (.s .ro sta v)) :: (.one (vI (v.length : Int))) :: (.one (vI x7_0)) :: dz 19 []), []⟩
noncomputable def Un {β : Type} (k : Nat) (v : An) (K : KT β) (n : Nat) (x7_0 : Int) : Option β := A2 (Xi1 k) Tryz.f31 [1, 0, 1, 0] 0 (Ae (Xi1 k) [1, 0, 1, 0] (Af Tryz.f31) 0 (Yd7 k v K)) n (Yag v x7_0)
def Nj {β : Type} (NX : Int → Option β) (RET : Bool → Option β) (k : Nat) (v : An) (x7_0 : Int) : Option β := cond (decide (x7_0 < (v.length : Int))) (Ax x7_0 v ((F88 k (Ad v x7_0)).bind fun b1 => cond (!b1) (RET false) ((F75 k v (Ad v x7_0).1).bind fun b2 => cond (decide (b2 < x7_0)) (RET false) (NX (i64.wrap (x7_0 + 1)))))) (RET (decide ((v.length : Int) ≤ 5)))
def O4 (k : Nat) (v : An) : Nat → Int → Option (Bool)
 | 0, _ => none
 | n + 1, x7_0 => Nj (O4 k v n) some k v x7_0
theorem Xn0 {β : Type} (k : Nat) (v : An) (K : KT β) (n : Nat) : ∀ (x7_0 : Int), Un k v K n x7_0 =
  (O4 k v n x7_0).bind fun r => K (F31_O.put r) := by
 induction n with
 | zero => intros; rfl
 | succ n ih =>
  intro x7_0
  refine Eq.trans (b := Nj (Un k v K n) (fun r => K (F31_O.put r)) k v x7_0) (by kernel_rfl) ?_
  rw [O4]
  simp only [Nj, z1, z2, z3, z4, z5, z6, z7, z8, ih]
def Xrr {β : Type} (LP0 : Int → Option β) (k : Nat) (v : An) : Option β := LP0 0
def F31 (k : Nat) (v : An) : Option (Bool) := Xrr (O4 k v k) k v
theorem X7j {β : Type} (k : Nat) (v : An) (K : KT β) : Aj (Xi1 k) Tryz.f31 (PsT.put Xql (v, ())) K = (F31 k v).bind fun r => K (F31_O.put r) :=
 Eq.trans (b := Xrr (Un k v K k) k v) (by kernel_rfl) (by simp only [F31, Xrr, z1, z2, z3, z4, z5, z6, z7, z8, Xn0])
def Xb2 (k : Nat) : FD := ⟨31, Xql, F31_O, F31 k⟩
theorem Xk8 (k : Nat) : (Xb2 k).Ok Tryz.prog := ⟨fun x => Ac (Am (Ah (.c (Yem k) (.c (Xoz k) .n))) _ _ _ _) Ak Tryz.func31 rfl rfl (X7j k _ some), .of (by kernel_rfl)⟩
abbrev X4d (k : Nat) : Env := Bc Bx Ao .own [] k
abbrev Xrd : List PA := [.one (.sl .own (.int .u8))]
abbrev F197_O : RO := ⟨[.v], [.sl .own (.int .u8)]⟩
def W7 {β : Type} (RET : Aa → Option β) (k : Nat) (v : Aa) : Option β := cond (decide (0 ≤ (v.length : Int)) && decide ((v.length : Int) ≤ (v.length : Int))) (cond (decide ((v.length : Int) = (v.length : Int))) (RET ((v.take ((v.length : Int).toNat)).drop 0)) none) none
def Xm1 := W7 (β := Aa) some
theorem Xz6 {β : Type} (k : Nat) (v : Aa) (K : KT β) : Aj (X4d k) Tryz.f197 (PsT.put Xrd (v, ())) K = (Xm1 k v).bind fun r => K (F197_O.put r) :=
 Eq.trans (b := W7 (fun r => K (F197_O.put r)) k v) (by kernel_rfl) (by simp only [Xm1, W7, z1, z2, z3, z4, z5, z6, z7, z8])
def Xvu (k : Nat) : FD := ⟨197, Xrd, F197_O, Xm1 k⟩
theorem X49 (k : Nat) : (Xvu k).Ok Tryz.prog := ⟨fun x => Ac (Am .none _ _ _ _) Ak Tryz.func197 rfl rfl (Xz6 k _ some), .of (by kernel_rfl)⟩
abbrev X70 (k : Nat) : Env := Bc (A0 [Xvu k]) Ao .own [] k
abbrev Xu3 : List PA := [.one (.sl .ro (.int .u8))]
abbrev F121_O : RO := ⟨[.v], [.sl .own (.int .u8)]⟩
def Xi {β : Type} (RET : Aa → Option β) (k : Nat) (v : Aa) : Option β := cond ((v.length : Int) == 0) (RET []) (Be (([] : Aa).length) (v.length) 1 ((Xm1 k ([] ++ v)).bind fun b1 => RET b1))
def Qm := Xi (β := Aa) some
theorem X0j {β : Type} (k : Nat) (v : Aa) (K : KT β) : Aj (X70 k) Tryz.f121 (PsT.put Xu3 (v, ())) K = (Qm k v).bind fun r => K (F121_O.put r) :=
 Eq.trans (b := Xi (fun r => K (F121_O.put r)) k v) (by kernel_rfl) (by simp only [Qm, Xi, z1, z2, z3, z4, z5, z6, z7, z8])
def M6 (k : Nat) : FD := ⟨121, Xu3, F121_O, Qm k⟩
theorem Q5 (k : Nat) : (M6 k).Ok Tryz.prog := ⟨fun x => Ac (Am (Ah (.c (X49 k) .n)) _ _ _ _) Ak Tryz.func121 rfl rfl (X0j k _ some), .of (by kernel_rfl)⟩
abbrev Ya1 (k : Nat) : Env := Bc Bx Ao .own [] k
abbrev Xqm : List PA := [.one (.sl .own Bd)]
abbrev F150_O : RO := ⟨[.v], [.sl .own Bd]⟩
def Y5 {β : Type} (RET : Cm → Option β) (k : Nat) (v : Cm) : Option β := cond (decide (0 ≤ (v.length : Int)) && decide ((v.length : Int) ≤ (v.length : Int))) (cond (decide ((v.length : Int) = (v.length : Int))) (RET ((v.take ((v.length : Int).toNat)).drop 0)) none) none
def Xig := Y5 (β := Cm) some
theorem Xz4 {β : Type} (k : Nat) (v : Cm) (K : KT β) : Aj (Ya1 k) Tryz.f150 (PsT.put Xqm (v, ())) K = (Xig k v).bind fun r => K (F150_O.put r) :=
 Eq.trans (b := Y5 (fun r => K (F150_O.put r)) k v) (by kernel_rfl) (by simp only [Xig, Y5, z1, z2, z3, z4, z5, z6, z7, z8])
def Xoh (k : Nat) : FD := ⟨150, Xqm, F150_O, Xig k⟩
theorem Ybv (k : Nat) : (Xoh k).Ok Tryz.prog := ⟨fun x => Ac (Am .none _ _ _ _) Ak Tryz.func150 rfl rfl (Xz4 k _ some), .of (by kernel_rfl)⟩
end
end Go.Proofs.YtdmepjjepogddaaGreat.Gn
end
