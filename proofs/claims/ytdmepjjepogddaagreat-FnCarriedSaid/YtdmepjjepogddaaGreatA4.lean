/-
  What the proof of this row needs, part 4: the typed evaluator of the translated code, the functions that the law reaches as plain functions, and what they answer.
-/
import Derived.RangeFuncBox
import Derived.RangeFuncLeaves
import Derived.Shelf.Abstract
import Derived.WalkKit
import Derived.OwnWalkIn
import Derived.TacticsInMore
import Derived.LoopNIn
import Derived.LoopIn
import Derived.Test.YtdmepjjepogddaaGreatChecked
import Derived.KernelRfl
import Derived.RangeFuncNested
import Derived.Shelf.Spec.SlicesInsertGrow
import Derived.Shelf.RegionOpenPlain
import Derived.Deep.LoopGhost
import Derived.Deep.RegionLaw
import Derived.Lib.Walk
import Derived.Lib.SliceRun
import Derived.Lib.SlicesDelete
import Derived.Test.YtdmepjjepogddaaGreatA3
section
namespace Go.Proofs.YtdmepjjepogddaaGreat.It
open Go.RowKit Go.Shelf Go.Rf
attribute [local go_sem] Oper.semAt_some
set_option linter.unusedVariables false
set_option maxRecDepth 100000 in
set_option maxHeartbeats 2000000 in
theorem mk (w : World) (a : Option Addr) (len cap : Nat) (n : Int) (hn : 1 ≤ n) : CallsIn Fence.wide 1 Tryz.prog 164 #[.slice a len cap, .int .i64 n] w fun e w' =>
  e = .returned (.func (.func 229) #[] #[.pointer (some ⟨w.heap.size, 0, none⟩), .pointer (some ⟨w.heap.size + 1, 0, none⟩)]) ∧ w' = (w.alloc (.cells #[.slice a len cap] 23)).alloc (.cells #[.int .i64 n] 3) := by
 have hlt : (decide (n < 1)) = false := decide_eq_false (by omega)
 refine callsIn_of_wp Tryz.func164 rfl trivial ?_ rfl
 simp only [Tryz.ntmps164, List.size_toArray, List.length_cons, List.length_nil, Nat.reduceAdd, Nat.reduceSub, Array.replicate_succ, Array.replicate_zero, List.push_toArray, List.append_toArray, List.nil_append, List.cons_append]
 gi_wp2
 go_ret
 exact ⟨rfl, rfl⟩
set_option maxRecDepth 100000 in
set_option maxHeartbeats 4000000 in
theorem it (lp N : Nat) (a : Option Addr) (len cap b1 b2 : Nat) (J : Nat → World → Prop) (W : World) (hN : 1 ≤ N) (hl : len ≤ 140737488355328) (hN2 : (N : Int) ≤ 9223372036854775807) (hc : len ≤ cap) (ha : a = none → len = 0)
    (hJ : ∀ j W, J j W → W.cell? ⟨b1, 0, none⟩ = some (.slice a len cap) ∧ W.cell? ⟨b2, 0, none⟩ = some (.int .i64 (N : Int))) (hd : ∀ j W, J j W → J j { W with drawn := W.drawn + 1 })
    (hY : ∀ j W, j * N < len → J j W → YieldAt Fence.wide 0 Tryz.prog lp #[.slice (a.map (·.add (j * N * 1))) (min N (len - j * N)) (min N (len - j * N))] W fun e W' => e = .returned (.bool true) ∧ J (j + 1) W') (h0 : J 0 W) :
    CallsIn Fence.wide 1 Tryz.prog 229 #[.func (.yield lp) #[] #[], .pointer (some ⟨b1, 0, none⟩), .pointer (some ⟨b2, 0, none⟩)] W fun e W' => (∃ v, e = .returned v) ∧ J ((len + N - 1) / N) W' := by
  refine callsIn_of_wp Tryz.func229 rfl trivial ?_ rfl
  simp only [Tryz.ntmps229, List.size_toArray, List.length_cons, List.length_nil, Nat.reduceAdd, Nat.reduceSub, Array.replicate_succ, Array.replicate_zero, List.push_toArray, List.append_toArray, List.nil_append, List.cons_append]
  gi_wp2
  gi_loopw [4] (fun i wr => ∃ k : Nat, i = .int .i64 ((k * N : Nat) : Int) ∧ (k = 0 ∨ (k - 1) * N < len) ∧ J k wr) (fun i _ => len + N - (intOf i).toNat)
  case atStart => exact ⟨0, by simp, .inl rfl, h0⟩
  case round =>
    obtain ⟨k, rfl, hk, hJs⟩ := hrel
    obtain ⟨hc1, hc2⟩ := hJ k wr hJs
    by_cases hlt : k * N < len
    · obtain ⟨⟨ab, ao, asp⟩, rfl⟩ : ∃ ad, a = some ad := by
        cases a with
        | none => exact absurd (ha rfl) (by omega)
        | some ad => exact ⟨ad, rfl⟩
      have hkn : ((k : Int) * (N : Int)) < (len : Int) := by exact_mod_cast hlt
      have hkc : ((k : Int) * (N : Int)) ≤ (cap : Int) := by omega
      have hk0 : (0 : Int) ≤ (k : Int) * (N : Int) := by exact_mod_cast Nat.zero_le (k * N)
      gi_wp2
      gi_region
      have hm : (if len - k * N < N then ((len - k * N : Nat) : Int) else ((N : Nat) : Int)) = ((min N (len - k * N) : Nat) : Int) := by split <;> omega
      first | rw [hm] | rw [show min (N : Int) ((len - k * N : Nat) : Int) = ((min N (len - k * N) : Nat) : Int) by omega]
      obtain ⟨hc3, hc4⟩ := hJ k wr.drew (hd k wr hJs)
      obtain ⟨fn, tmps, assign, body, hy, hR⟩ := hY k wr.drew hlt (hd k wr hJs)
      simp only [Option.map_some, Nat.mul_one] at hy
      have he1 : 1 ≤ min N (len - k * N) := by omega
      have he2 : k * N + min N (len - k * N) ≤ len := by omega
      have he3 : min N (len - k * N) ≤ N := by omega
      generalize min N (len - k * N) = e at *
      have he4 : ((k : Int) * (N : Int)) + (e : Int) ≤ (cap : Int) := by have : ((k * N + e : Nat) : Int) ≤ (len : Int) := by exact_mod_cast he2
                                                                         push_cast at this; omega
      gi_wp2
      refine hR.mono ?_
      rintro e' W3 ⟨rfl, hJ3⟩
      obtain ⟨hc5, hc6⟩ := hJ (k + 1) W3 hJ3
      have hk2 : k = 0 ∨ ((k : Int) * (N : Int)) + (N : Int) ≤ 9223372036854775807 := by
        rcases Nat.eq_zero_or_pos k with h | h
        · exact .inl h
        · right
          have : N ≤ k * N := Nat.le_mul_of_pos_left N h
          have : ((k * N : Nat) : Int) + (N : Int) ≤ 9223372036854775807 := by omega
          push_cast at this
          exact this
      have hk3 : ((k : Int) * (N : Int)) + (N : Int) ≤ 9223372036854775807 := by
        rcases hk2 with rfl | h
        · simpa using hN2
        · exact h
      gi_wp2
      go_roundw
      case rel =>
        refine ⟨k + 1, ?_, .inr (by simpa using hlt), hJ3⟩
        congr 1
        rw [Nat.add_mul]
        push_cast
        omega
      case measure =>
        simp [RowKit.intOf]
        have e1 : ((k : Int) * (N : Int)) = ((k * N : Nat) : Int) := by push_cast; rfl
        rw [e1]
        generalize k * N = q at *
        omega
    · have hkn : ¬ ((k : Int) * (N : Int)) < (len : Int) := by exact_mod_cast hlt
      gi_wp2
      go_end0
      refine ⟨⟨_, rfl⟩, ?_⟩
      have : (len + N - 1) / N = k := by
        rcases hk with rfl | hk
        · have : len = 0 := by omega
          subst this
          rw [Nat.zero_add]
          exact Nat.div_eq_of_lt (by omega)
        · have h1 : 1 ≤ k := by
            rcases Nat.eq_zero_or_pos k with rfl | h
            · simp at hk hlt; omega
            · exact h
          obtain ⟨m, rfl⟩ : ∃ m, k = m + 1 := ⟨k - 1, by omega⟩
          rw [Nat.add_sub_cancel] at hk
          have h2 : (m + 1) * N = m * N + N := Nat.succ_mul m N
          rw [h2] at hlt
          refine Nat.div_eq_of_lt_le ?_ ?_
          · rw [h2]; omega
          · rw [Nat.succ_mul, h2]; omega
      rw [this]
      exact hJs
theorem mkOk : ItMk Tryz.prog 164 229 := ⟨FnOk.of (by kernel_rfl), fun w a len cap n hn => Calls.mono (callsIn_wide.1 (mk w a len cap n hn)) fun e w' ⟨h1, h2⟩ => by
 subst h2
 have hs : ((w.alloc (.cells #[.slice a len cap] 23)).alloc (.cells #[.int .i64 n] 3)).heap.size = w.heap.size + 2 := by simp
 have c1 : (w.alloc (.cells #[.slice a len cap] 23)).heap[w.heap.size]? = some (.cells #[.slice a len cap] 23) := World.alloc_heap_new w _
 have c2 : ((w.alloc (.cells #[.slice a len cap] 23)).alloc (.cells #[.int .i64 n] 3)).heap[w.heap.size + 1]? = some (.cells #[.int .i64 n] 3) := by
  have := World.alloc_heap_new (w.alloc (.cells #[.slice a len cap] 23)) (.cells #[.int .i64 n] 3); rwa [World.size_alloc] at this
 have c3 : ((w.alloc (.cells #[.slice a len cap] 23)).alloc (.cells #[.int .i64 n] 3)).heap[w.heap.size]? = some (.cells #[.slice a len cap] 23) := (Below.heap_alloc _ _ _ (by simp)).trans c1
 refine ⟨w.heap.size, w.heap.size + 1, h1, ⟨by omega, by omega⟩, ⟨by omega, by omega⟩, by simp only [cellAt, World.cell?]; rw [c3]; rfl, by simp only [cellAt, World.cell?]; rw [c2]; rfl, fun q hq => (Below.heap_alloc _ _ _ (by simp; omega)).trans (Below.heap_alloc _ _ _ hq), by omega, ⟨rfl, rfl, rfl⟩⟩⟩
theorem itOk : ItOk Tryz.prog 229 (.int .u8) := ⟨FnOk.of (by kernel_rfl), fun lp n a len cap b1 b2 J W hn hl hc ha hJ hd hY h0 => by
 obtain ⟨N, rfl⟩ := Int.eq_ofNat_of_zero_le (show 0 ≤ n by have := hn.1; omega)
 exact it lp N a len cap b1 b2 J W (by have := hn.1; omega) hl hn.2 hc ha hJ hd hY h0⟩
end Go.Proofs.YtdmepjjepogddaaGreat.It
end

section
set_option linter.unusedVariables false
set_option linter.unusedSimpArgs false
namespace Go.Proofs.YtdmepjjepogddaaGreat.Gr
open Go.Rf IntKind
noncomputable section
abbrev B6 : Ty := (.pair (.int .i64) (.pair (.int .i64) (.pair (.int .i64) (.int .i64))))
abbrev Yl : MT := .pair mI (.pair mI (.pair mI mI))
abbrev Cv {β : Type} (e : (den B6)) (f : Int → Int → Int → Int → β) : β := f e.1 e.2.1 e.2.2.1 e.2.2.2
def tyT : List (Nat × TyI) := [(3, ⟨(.int .i64), false, 0⟩), (4, ⟨.bool, false, 0⟩), (114, ⟨B6, true, 0⟩)]
def Z7 : Xf3 := [(114, [(0, 1, false), (1, 1, false), (2, 1, false), (3, 1, false)])]
def eqT : List Nat := []
def Bc (tab : Tab) (hint : Nat → Hint) (rm : Rf.Mode) (pins : List (Bool × Nat)) (k : Nat) : Env :=
 { tab := tab, lend := (fun _ => []), lent := (fun _ => []), pins := pins, ty := asc tyT, fld := Lb Z7, pw := fun _ => none, cw := fun _ => [], hint := hint, eqt := B5 eqT, rm := rm, fuel := k }
theorem tyOk : AllT (TyOk Tryz.prog) tyT :=
 ⟨.ofInt (b := 8) (by kernel_rfl) (by kernel_rfl), .ofBool (b := 1) (by kernel_rfl) (by kernel_rfl), .ofAgg (b := 32) (by kernel_rfl) (by kernel_rfl), trivial⟩
theorem fldOk : AllF Tryz.prog Z7 :=
 ⟨⟨⟨by kernel_rfl, by kernel_rfl⟩, ⟨by kernel_rfl, by kernel_rfl⟩, ⟨by kernel_rfl, by kernel_rfl⟩, ⟨by kernel_rfl, by kernel_rfl⟩, trivial⟩, trivial⟩
theorem Ah : Tryz.prog.follows .mixedOrders = true := by kernel_rfl
theorem bldOk : AllT (fun t i => i.agg = true → BldOk Tryz.prog t (Lb Z7 t)) tyT :=
 ⟨nofun, nofun, fun _ => Fz (row := [(0, 1, false), (1, 1, false), (2, 1, false), (3, 1, false)]) rfl (by kernel_rfl) (by kernel_rfl), trivial⟩
theorem eqOkT : AllT (fun t i => B5 eqT t = true → EqOk Tryz.prog t i.ty) tyT :=
 ⟨fun h => absurd h (by decide), fun h => absurd h (by decide), fun h => absurd h (by decide), trivial⟩
theorem Xjb (tab : Tab) (hint : Nat → Hint) (rm : Rf.Mode) (pins : List (Bool × Nat)) (k : Nat) : TysOk Tryz.prog (Bc tab hint rm pins k) :=
 ⟨fun t i h => tyOk.get h, fun s f z h => fldOk.get h, fun t i h => bldOk.get h, fun t i h h2 => eqOkT.get h2 h, fun _ h => by cases h⟩
theorem Am {tab : Tab} (h : TabFn Tryz.prog tab) (hint : Nat → Hint) (rm : Rf.Mode) (pins : List (Bool × Nat)) (k : Nat) : EnvOk Tryz.prog (Bc tab hint rm pins k) := EnvOk.of (Xjb tab hint rm pins k) h
def Bv : Tab := fun _ _ => none
def An : Nat → Hint := fun _ => ⟨[], []⟩
abbrev Xv4 (k : Nat) : Env := Bc Bv An .own [] k
abbrev Xik : List PA := [.agg Yl, .one mI]
abbrev F146_O : RO := ⟨[.v], [mB]⟩
def Tu {β : Type} (RET : Bool → Option β) (k : Nat) (v : (den B6)) (w : Int) : Option β := Cv v fun v0 v1 _ _ => cond (decide ((i64.wrap (16 - v1)) < 0)) none (cond (decide ((i64.wrap (16 - v1)) < 0)) none (RET ((w.fdiv (2 ^ (min (i64.wrap (16 - v1)).toNat 64))) == (v0.fdiv (2 ^ (min (i64.wrap (16 - v1)).toNat 64))))))
def Xfz := Tu (β := Bool) some
theorem Xq2 {β : Type} (k : Nat) (v : (den B6)) (w : Int) (K : KT β) : Ag (Xv4 k) Tryz.f146 (PsT.put Xik (v, w, ())) K = (Xfz k v w).bind fun r => K (F146_O.put r) :=
 Eq.trans (b := Tu (fun r => K (F146_O.put r)) k v w) (by kernel_rfl) (by simp only [Xfz, Tu, z1, z2, z3, z4, z5, z6, z7, z8, Cv])
def X1m (k : Nat) : FD := ⟨146, Xik, F146_O, Xfz k⟩
theorem X0a (k : Nat) : (X1m k).Ok Tryz.prog := ⟨fun x => Ab (Am .none _ _ _ _) Ah Tryz.func146 rfl rfl (Xq2 k _ _ some), .of (by kernel_rfl)⟩
end
end Go.Proofs.YtdmepjjepogddaaGreat.Gr
end

section
namespace Go.Proofs.YtdmepjjepogddaaGreat.Rt
open Go.RowKit Go.Shelf Go.Rf
attribute [local go_sem] Oper.semAt_some
set_option linter.unusedVariables false
abbrev E : Ty := .pair (.int .i64) (.pair (.int .i64) (.pair (.int .i64) (.int .i64)))
def okB (r : den E) : Bool := decide (0 ≤ (r.2.1 : Int)) && decide ((r.2.1 : Int) ≤ 16)
def Sd (w : Int) (r : den E) : Bool := w.fdiv (2 ^ (16 - r.2.1 : Int).toNat) == (r.1 : Int).fdiv (2 ^ (16 - r.2.1 : Int).toNat)
def Bq (w p : Int) : List (den E) → den E × Bool
 | [] => ((0, 0, 0, 0), false)
 | r :: l => cond (decide ((r.2.1 : Int) < p) && Sd w r) (r, true) (Bq w p l)
def to (v : List (den E)) (w p : Int) : Option (den E × Bool) := cond (v.all okB && decide (v.length ≤ 1000000)) (some (Bq w p v.reverse)) none
set_option maxRecDepth 100000 in
set_option maxHeartbeats 1000000 in
theorem mk (F : Fence) (n : Nat) (hF : F.fn 145) (hro : F.round = none) (w : World) (a : Option Addr) (len cap : Nat) : CallsIn F n Tryz.prog 145 #[.slice a len cap] w fun e w' =>
  e = .returned (.func (.func 223) #[] #[.pointer (some ⟨w.heap.size, 0, none⟩)]) ∧ w' = w.alloc (.cells #[.slice a len cap] 50) := by
 refine callsIn_of_wp Tryz.func145 rfl hF ?_ hro
 simp only [Tryz.ntmps145, List.size_toArray, List.length_cons, List.length_nil, Nat.reduceAdd, Nat.reduceSub, Array.replicate_succ, Array.replicate_zero, List.push_toArray, List.append_toArray, List.nil_append, List.cons_append]
 gi_wp2
 go_ret
 exact ⟨rfl, rfl⟩
def rv (r : den E) : Value := .agg #[.int .i64 r.1, .int .i64 r.2.1, .int .i64 r.2.2.1, .int .i64 r.2.2.2]
def zr : den E := (0, 0, 0, 0)
def Ld {α : Type} (f : Nat → α) (k : Nat) : List α := (List.range k).map f
theorem S3 {α : Type} (f : Nat → α) (k : Nat) : Ld f (k + 1) = Ld f k ++ [f k] := by simp [Ld, List.range_succ]
theorem Zu {α : Type} (f : Nat → α) (k : Nat) : (Ld f k).length = k := by simp [Ld]
def bk (zs : List (den E)) (j : Nat) : Nat × den E := (zs.length - 1 - j, zs[zs.length - 1 - j]?.getD zr)
abbrev RT : Type := { x : Nat × den E // okB x.2 = true }
theorem X4b {zs : List (den E)} (h : zs.all okB = true) (j : Nat) : okB (bk zs j).2 = true := by
 unfold bk
 by_cases hj : zs.length - 1 - j < zs.length
 ·rw [List.getElem?_eq_getElem hj, Option.getD_some]
  exact List.all_eq_true.1 h _ (List.getElem_mem hj)
 ·rw [List.getElem?_eq_none (by omega)]; rfl
def bks (zs : List (den E)) (h : zs.all okB = true) (j : Nat) : RT := ⟨bk zs j, X4b h j⟩
set_option maxRecDepth 100000 in
set_option maxHeartbeats 2000000 in
theorem X2x (F : Fence) (n : Nat) (hF : F.fn 223) (hro : F.round = none) (hn : 1 ≤ n) (l Bs n₀ b off cap : Nat) (zs : List (den E)) (hz : zs.all okB = true) (hreach : zs.length ≤ 1000000) (hcap : zs.length ≤ cap) (hb : b < n₀) (J Jx : List RT → World → Prop)
  (hY : ∀ pre x W, J pre W → pre.length < zs.length → YieldAt F (n - 1) Tryz.prog l #[.int .i64 (x.1.1 : Int), rv x.1.2] W fun e W' =>
   (e = .returned (.bool true) ∧ J (pre ++ [x]) W' ∧ (Below n₀ W W' ∧ W'.cell? ⟨Bs, 0, none⟩ = W.cell? ⟨Bs, 0, none⟩)) ∨ (e = .returned (.bool false) ∧ Jx (pre ++ [x]) W'))
  (W : World) (hBs : W.cell? ⟨Bs, 0, none⟩ = some (.slice (some ⟨b, off, none⟩) zs.length cap))
  (hc : ∀ i, i < zs.length → W.cell? ⟨b, off + i * 4, none⟩ = some (.int .i64 (zs[i]?.getD zr).1) ∧ W.cell? ⟨b, off + i * 4 + 1, none⟩ = some (.int .i64 (zs[i]?.getD zr).2.1) ∧ W.cell? ⟨b, off + i * 4 + 2, none⟩ = some (.int .i64 (zs[i]?.getD zr).2.2.1) ∧ W.cell? ⟨b, off + i * 4 + 3, none⟩ = some (.int .i64 (zs[i]?.getD zr).2.2.2)) (h0 : J [] W) :
  CallsIn F n Tryz.prog 223 #[.func (.yield l) #[] #[], .pointer (some ⟨Bs, 0, none⟩)] W fun e W' => (∃ v, e = .returned v) ∧
   ((∃ ys, ys = Ld (bks zs hz) zs.length ∧ J ys W') ∨ (∃ pre, (∃ k, k ≤ zs.length ∧ pre = Ld (bks zs hz) k) ∧ Jx pre W')) := by
 refine callsIn_of_wp Tryz.func223 rfl hF ?_ hro
 simp only [Tryz.ntmps223, List.size_toArray, List.length_cons, List.length_nil, Nat.reduceAdd, Nat.reduceSub, Array.replicate_succ, Array.replicate_zero, List.push_toArray, List.append_toArray, List.nil_append, List.cons_append]
 gi_wp2
 gi_loopw [3] (fun i wr => ∃ k : Nat, k ≤ zs.length ∧ i = .int .i64 ((zs.length : Int) - 1 - k) ∧ J (Ld (bks zs hz) k) wr ∧ (Below n₀ W wr ∧ wr.cell? ⟨Bs, 0, none⟩ = W.cell? ⟨Bs, 0, none⟩))
  (fun i _ => (RowKit.intOf i + 1).toNat)
 case atStart => exact ⟨0, Nat.zero_le _, by simp, h0, Below.refl _ _, rfl⟩
 case round =>
  obtain ⟨k, hk, rfl, hJs, hnx, hbs⟩ := hrel
  rw [hBs] at hbs
  by_cases hlt : k < zs.length
  ·obtain ⟨fn, tmps, assign, body, hy, hR⟩ := hY _ (bks zs hz k) wr hJs (by rw [Zu]; exact hlt)
   obtain ⟨c0, c1, c2, c3⟩ := hc (zs.length - 1 - k) (by omega)
   have d0 := (hnx.cell (p := ⟨b, off + (zs.length - 1 - k) * 4, none⟩) hb).trans c0
   have d1 := (hnx.cell (p := ⟨b, off + (zs.length - 1 - k) * 4 + 1, none⟩) hb).trans c1
   have d2 := (hnx.cell (p := ⟨b, off + (zs.length - 1 - k) * 4 + 2, none⟩) hb).trans c2
   have d3 := (hnx.cell (p := ⟨b, off + (zs.length - 1 - k) * 4 + 3, none⟩) hb).trans c3
   have e1 : ((zs.length : Int) - 1 - (k : Int)) = ((zs.length - 1 - k : Nat) : Int) := by omega
   rw [e1]
   simp only [bks, bk] at hy
   have hj : zs.length - 1 - k < zs.length := by omega
   generalize hjj : zs.length - 1 - k = j at *
   simp only [rv, List.getElem?_eq_getElem hj, Option.getD_some] at hy
   gi_wp2
   refine hR.mono ?_
   rintro e W3 (⟨rfl, hJ3, hk3, hk4⟩ | ⟨rfl, hJx3⟩)
   ·gi_wp2
    go_roundw
    case rel => exact ⟨k + 1, by omega, by congr 1; omega, by rw [S3]; exact hJ3, hnx.trans hk3, by rw [hk4, hbs, hBs]⟩
    case measure => simp [RowKit.intOf]
   ·gi_wp2
    refine bodyPost_ret (results_none rfl _ _ _) rfl ?_
    exact ⟨⟨_, rfl⟩, .inr ⟨_, ⟨k + 1, by omega, (S3 _ _).symm⟩, hJx3⟩⟩
  ·obtain rfl : k = zs.length := by omega
   gi_wp2
   go_end0
   exact ⟨⟨_, rfl⟩, .inl ⟨_, rfl, hJs⟩⟩
set_option maxRecDepth 100000 in
set_option maxHeartbeats 1000000 in
theorem X4c (F : Fence) (n : Nat) (hF : F.fn 223) (hro : F.round = none) (l Bs cap : Nat) (ad : Option Addr) (J : List RT → World → Prop) (W : World) (hBs : W.cell? ⟨Bs, 0, none⟩ = some (.slice ad 0 cap)) (h0 : J [] W) :
  CallsIn F n Tryz.prog 223 #[.func (.yield l) #[] #[], .pointer (some ⟨Bs, 0, none⟩)] W fun e W' => (∃ v, e = .returned v) ∧ J [] W' := by
 refine callsIn_of_wp Tryz.func223 rfl hF ?_ hro
 simp only [Tryz.ntmps223, List.size_toArray, List.length_cons, List.length_nil, Nat.reduceAdd, Nat.reduceSub, Array.replicate_succ, Array.replicate_zero, List.push_toArray, List.append_toArray, List.nil_append, List.cons_append]
 gi_wp2
 gi_loopw [3] (fun i wr => i = .int .i64 (-1) ∧ J [] wr) (fun _ _ => 0)
 case atStart => exact ⟨rfl, h0⟩
 case round =>
  obtain ⟨rfl, hJs⟩ := hrel
  gi_wp2
  go_end0
  exact ⟨⟨_, rfl⟩, hJs⟩
def Rts (n₀ : Nat) (W : World) (sv : Value) (zs : List (den E)) : Prop :=
 (∃ ad c, sv = .slice ad 0 c ∧ zs = []) ∨ ∃ b off cap, sv = .slice (some ⟨b, off, none⟩) zs.length cap ∧ zs.length ≤ cap ∧ b < n₀ ∧
  ∀ i, i < zs.length → W.cell? ⟨b, off + i * 4, none⟩ = some (.int .i64 (zs[i]?.getD zr).1) ∧ W.cell? ⟨b, off + i * 4 + 1, none⟩ = some (.int .i64 (zs[i]?.getD zr).2.1) ∧ W.cell? ⟨b, off + i * 4 + 2, none⟩ = some (.int .i64 (zs[i]?.getD zr).2.2.1) ∧ W.cell? ⟨b, off + i * 4 + 3, none⟩ = some (.int .i64 (zs[i]?.getD zr).2.2.2)
theorem Rts.below {n₀ : Nat} {A B : World} (h : Below n₀ A B) {sv : Value} {zs : List (den E)} : Rts n₀ A sv zs → Rts n₀ B sv zs
 | .inl e => .inl e
 | .inr ⟨b, off, cap, e, hl, hb, hc⟩ => .inr ⟨b, off, cap, e, hl, hb, fun i hi => by
  obtain ⟨c0, c1, c2, c3⟩ := hc i hi
  exact ⟨(h.cell (p := ⟨b, _, none⟩) hb).trans c0, (h.cell (p := ⟨b, _, none⟩) hb).trans c1, (h.cell (p := ⟨b, _, none⟩) hb).trans c2, (h.cell (p := ⟨b, _, none⟩) hb).trans c3⟩⟩
def KP (n₀ Bs : Nat) (A B : World) : Prop := Below n₀ A B ∧ B.cell? ⟨Bs, 0, none⟩ = A.cell? ⟨Bs, 0, none⟩
theorem KP.t {n₀ Bs : Nat} {A B C : World} (h : KP n₀ Bs A B) (k : KP n₀ Bs B C) : KP n₀ Bs A C := ⟨h.1.trans k.1, k.2.trans h.2⟩
theorem Xm3 {W : World} {l q : Nat} {o' : Obj} (h : q ≠ l) : (W.putObj l o').cell? ⟨q, 0, none⟩ = W.cell? ⟨q, 0, none⟩ := by
 simp only [World.cell?, World.putObj_heap_other h]
theorem KP.b {n₀ Bs : Nat} {w : World} (hn : n₀ ≤ w.heap.size) (hB : Bs < w.heap.size) (W : World) (l : Nat) (o o' : Obj) (hl : w.heap.size ≤ l) (h : W.heap[l]? = some o) (h1 : o.isCells = false) (h2 : o.isWalk = false) : KP n₀ Bs W (W.putObj l o') :=
 ⟨belowK_b hn W l o o' hl h h1 h2, Xm3 (by omega)⟩
theorem stops (F : Fence) (n : Nat) (hF : F.fn 223) (hro : F.round = none) (hn : 1 ≤ n) (Bs n₀ : Nat) (sv : Value) (zs : List (den E)) (hz : zs.all okB = true) (hreach : zs.length ≤ 1000000) (w : World) (hBs : Bs < w.heap.size) (hn₀ : n₀ ≤ w.heap.size)
  (hc : w.cell? ⟨Bs, 0, none⟩ = some sv) (hI : Rts n₀ w sv zs) :
  SeqStopsK F n Tryz.prog 223 #[.pointer (some ⟨Bs, 0, none⟩)] (fun x : RT => #[Value.int .i64 (x.1.1 : Int), rv x.1.2]) (KP n₀ Bs) (fun ys => ys = Ld (bks zs hz) zs.length)
   (fun pre => ∃ k, k ≤ zs.length ∧ pre = Ld (bks zs hz) k) zs.length w := fun l J Jx W hW _ _ hY h0 => by
 have hc' := (hW.cell (p := ⟨Bs, 0, none⟩) hBs).trans hc
 rcases hI.below (hW.mono hn₀) with ⟨ad, c, rfl, rfl⟩ | ⟨b, off, cap, rfl, hl, hb, hcs⟩
 ·exact (X4c F n hF hro l Bs c ad J W hc' h0).mono fun e W' ⟨he, hj⟩ => ⟨he, .inl ⟨_, rfl, hj⟩⟩
 ·exact X2x F n hF hro hn l Bs n₀ b off cap zs hz hreach hl hb J Jx hY W hc' hcs h0
theorem c146 (r : den E) (w : Int) : Contract Tryz.prog 146 [.agg [.l (.v (.int .i64 r.1)), .l (.v (.int .i64 r.2.1)), .l (.v (.int .i64 r.2.2.1)), .l (.v (.int .i64 r.2.2.2))], .one (.l (.v (.int .i64 w)))] ⟨Gr.Xfz 0 r w, fun b => (.one (.v (.bool b)), [])⟩ := (Gr.X0a 0).con (r, w, ())
theorem Kt (F : Fence) (hF : Fw F) (n : Nat) (r : den E) (w : Int) (hr : okB r = true) (W : World) : CallsIn F n Tryz.prog 146 #[rv r, .int .i64 w] W fun e W' => e = .returned (.bool (Sd w r)) ∧ Below W.heap.size W W' := by
 obtain ⟨r0, r1, r2, r3⟩ := r
 simp only [okB, Bool.and_eq_true, decide_eq_true_eq] at hr
 obtain ⟨q0, q1⟩ := hr
 have q0 : @LE.le Int _ 0 r1 := q0
 have q1 : @LE.le Int _ r1 16 := q1
 have hF146 : Gr.Xfz 0 (r0, r1, r2, r3) w = some (Sd w (r0, r1, r2, r3)) := by
  unfold Gr.Xfz Gr.Tu Sd
  dsimp only [Gr.Cv]
  have e : IntKind.i64.wrap (16 - r1) = 16 - r1 := by rw [IntKind.wrap_i64]; omega
  rw [e, decide_eq_false (by omega), cond_false, cond_false, Nat.min_eq_left (by omega)]
 have c := c146 (r0, r1, r2, r3) w W (fun _ => False) [rv (r0, r1, r2, r3), .int .i64 w] [[], []]
  ⟨⟨[.int .i64 r0, .int .i64 r1, .int .i64 r2, .int .i64 r3], [[], [], [], []], rfl, ⟨⟨rfl, rfl⟩, ⟨rfl, rfl⟩, ⟨rfl, rfl⟩, ⟨rfl, rfl⟩, trivial⟩, rfl⟩, ⟨rfl, rfl⟩, trivial⟩
  (by simp) (by simp) (fun _ h => h.elim) (List.nodup_nil (α := Nat × Nat)) (fun a ha => by cases ha) (Sd w (r0, r1, r2, r3)) hF146
 have c2 : Calls Tryz.prog 146 #[rv (r0, r1, r2, r3), .int .i64 w] W fun e W' => e = .returned (.bool (Sd w (r0, r1, r2, r3))) ∧ Below W.heap.size W W' := by
  refine Calls.mono c ?_
  rintro e W' ⟨v, rfl, hP⟩
  obtain ⟨S', bs, bbs, h1, _⟩ := hP.ex
  obtain ⟨rfl, _⟩ := (h1 : v = .bool (Sd w (r0, r1, r2, r3)) ∧ bs = [])
  refine ⟨rfl, hP.io.os, hP.io.tape, hP.io.output, hP.sz, fun q hq => ?_⟩
  exact (hP.frm q hq (by simp)).eq fun o ho => by cases ho
 exact hF.calls c2
def Row4 (W : World) (B : Nat) (r : den E) : Prop := W.heap[B]? = some (.cells #[.int .i64 r.1, .int .i64 r.2.1, .int .i64 r.2.2.1, .int .i64 r.2.2.2] 114 (0, 0))
theorem Row4.lt {W : World} {B : Nat} {r : den E} (h : Row4 W B r) : B < W.heap.size := (Array.getElem?_eq_some_iff.1 h).1
theorem Row4.c {W : World} {B : Nat} {r : den E} (h : Row4 W B r) : W.cell? ⟨B, 0, none⟩ = some (.int .i64 r.1) ∧ W.cell? ⟨B, 1, none⟩ = some (.int .i64 r.2.1) ∧ W.cell? ⟨B, 2, none⟩ = some (.int .i64 r.2.2.1) ∧ W.cell? ⟨B, 3, none⟩ = some (.int .i64 r.2.2.2) := by
 unfold Row4 at h
 simp [World.cell?, h]
theorem Row4.f {W : World} {B : Nat} {r : den E} (h : Row4 W B r) : W.frozen? ⟨B, 0, none⟩ = false ∧ W.frozen? ⟨B, 1, none⟩ = false ∧ W.frozen? ⟨B, 2, none⟩ = false ∧ W.frozen? ⟨B, 3, none⟩ = false := by
 unfold Row4 at h
 simp [World.frozen?, h]
theorem Ss (w p : Int) : ∀ (l : List (den E)), (∀ r ∈ l, (decide ((r.2.1 : Int) < p) && Sd w r) = false) → Bq w p l = ((0, 0, 0, 0), false)
 | [], _ => rfl
 | r :: l, h => by
  rw [Bq, h r List.mem_cons_self, cond_false]
  exact Ss w p l fun x hx => h x (List.mem_cons_of_mem _ hx)
theorem S4 (w p : Int) (r : den E) (b : List (den E)) (hr : (decide ((r.2.1 : Int) < p) && Sd w r) = true) : ∀ (a : List (den E)), (∀ r ∈ a, (decide ((r.2.1 : Int) < p) && Sd w r) = false) → Bq w p (a ++ r :: b) = (r, true)
 | [], _ => by rw [List.nil_append, Bq, hr]; rfl
 | x :: a, h => by
  rw [List.cons_append, Bq, h x List.mem_cons_self, cond_false]
  exact S4 w p r b hr a fun y hy => h y (List.mem_cons_of_mem _ hy)
theorem Y8 (v : List (den E)) (hz : v.all okB = true) (k : Nat) (hk : k ≤ v.length) : (Ld (bks v hz) k).map (fun x => x.1.2) = v.reverse.take k := by
 apply List.ext_getElem
 ·simp [Ld]; omega
 ·intro i h1 h2
  have hi : i < k := by simpa [Ld] using h1
  simp only [Ld, List.map_map, List.getElem_map, List.getElem_range, Function.comp_apply, bks, bk, List.getElem_take, List.getElem_reverse]
  rw [List.getElem?_eq_getElem (by omega), Option.getD_some]
theorem Jy {W : World} {B : Nat} {cs : Array Value} {te : TypeId} {fr : Nat × Nat} (h : W.heap[B]? = some (.cells cs te fr)) (o : Nat) (v : Value) : (W.setCell ⟨B, o, none⟩ v).heap[B]? = some (.cells (cs.setIfInBounds o v) te fr) := by
 show (W.heap.modify B _)[B]? = _
 rw [Array.getElem?_modify, if_pos rfl, h]
 rfl
theorem Row4.set {W : World} {B : Nat} {r : den E} (h : Row4 W B r) (r' : den E) : Row4 ((((W.setCell ⟨B, 0, none⟩ (.int .i64 r'.1)).setCell ⟨B, 1, none⟩ (.int .i64 r'.2.1)).setCell ⟨B, 2, none⟩ (.int .i64 r'.2.2.1)).setCell ⟨B, 3, none⟩ (.int .i64 r'.2.2.2)) B r' := by
 have := Jy (Jy (Jy (Jy h 0 (.int .i64 r'.1)) 1 (.int .i64 r'.2.1)) 2 (.int .i64 r'.2.2.1)) 3 (.int .i64 r'.2.2.2)
 simpa [Row4] using this
structure Inv (A : Nat) (w p : Int) (W : World) (sv : Value) (X : World) : Prop where
 b0 : Boxed X A 3 (.int .i64 w)
 b1 : Boxed X (A + 1) 3 (.int .i64 p)
 b2 : ∃ r, Row4 X (A + 1 + 1) r
 b3 : ∃ c, Boxed X (A + 1 + 1 + 1) 4 (.bool c)
 b4 : Boxed X (A + 1 + 1 + 1 + 1) 50 sv
 bel : Below A W X
theorem Inv.heap {A : Nat} {w p : Int} {W : World} {sv : Value} {X Y : World} (h : Inv A w p W sv X) (hs : ∀ k, A ≤ k → k < A + 5 → Y.heap[k]? = X.heap[k]?) (hb : Below A W Y) : Inv A w p W sv Y :=
 ⟨(hs _ (by omega) (by omega)).trans h.b0, (hs _ (by omega) (by omega)).trans h.b1, h.b2.imp fun _ h => (hs _ (by omega) (by omega)).trans h, h.b3.imp fun _ h => (hs _ (by omega) (by omega)).trans h, (hs _ (by omega) (by omega)).trans h.b4, hb⟩
theorem Inv.lt {A : Nat} {w p : Int} {W : World} {sv : Value} {X : World} (h : Inv A w p W sv X) : A + 5 ≤ X.heap.size := by have := h.b4.lt; omega
theorem Inv.own {A : Nat} {w p : Int} {W : World} {sv : Value} (hA : A ≤ W.heap.size) {β : Type} (B : Nat) (hB : A + 5 ≤ B) : OwnFrom B (fun (_ : β) X => Inv A w p W sv X) := fun s X Y row hs hg hr =>
 hs.heap (fun k _ hk => hg.block k (by have := hs.lt; omega) (fun e => by have := (hr k e.symm).1; omega)) (hs.bel.grown hg (by have := hs.lt; omega) (fun k e => by have := (hr k e).1; omega))
theorem Inv.alloc {A : Nat} {w p : Int} {W : World} {sv : Value} {X : World} (h : Inv A w p W sv X) (o : Obj) : Inv A w p W sv (X.alloc o) :=
 h.heap (fun k _ hk => Below.heap_alloc _ _ _ (by have := h.lt; omega)) (h.bel.trans ((Below.refl A X).alloc (by have := h.lt; omega) o))
theorem Inv.call {A : Nat} {w p : Int} {W : World} {sv : Value} {X Y : World} (h : Inv A w p W sv X) (hB : Below X.heap.size X Y) : Inv A w p W sv Y :=
 h.heap (fun k _ hk => hB.block k (by have := h.lt; omega)) (h.bel.trans (hB.mono (by have := h.lt; omega)))
set_option maxRecDepth 100000 in
set_option maxHeartbeats 4000000 in
theorem X39 (v : List (den E)) (hv : v.length ≤ 1000000) (hok : v.all okB = true) (sv : Value) (w p : Int) (ad : Option Addr) (cap : Nat) (hsv : sv = .slice ad v.length cap) (W : World) (hI : Rts W.heap.size W sv v) :
  CallsIn Fence.wide 3 Tryz.prog 74 #[sv, .int .i64 w, .int .i64 p] W fun e W' => e = .returned (.tuple #[rv (Bq w p v.reverse).1, .bool (Bq w p v.reverse).2]) ∧ Below W.heap.size W W' := by
 subst hsv
 have h1 : 1 ≤ 3 := by omega
 refine callsIn_of_wp_marks Tryz.func74 rfl trivial ?_ rfl
 simp only [Tryz.ntmps74, List.size_toArray, List.length_cons, List.length_nil, Nat.reduceAdd, Nat.reduceSub, Array.replicate_succ, Array.replicate_zero, List.push_toArray, List.append_toArray, List.nil_append, List.cons_append]
 gi_wp2
 refine ⟨trivial, (mk Fence.wide 2 trivial rfl _ _ _ _).mono ?_⟩
 rintro e w' ⟨rfl, rfl⟩
 dsimp only
 gi_wp2
 have hIw := hI
 obtain ⟨w1, hw1⟩ : ∃ w1, (((((W.alloc (Obj.cells #[Value.int IntKind.i64 w] 3)).alloc (Obj.cells #[Value.int IntKind.i64 p] 3)).alloc (Obj.cells #[Value.int IntKind.i64 0, Value.int IntKind.i64 0, Value.int IntKind.i64 0, Value.int IntKind.i64 0] 114)).alloc (Obj.cells #[Value.bool false] 4)).alloc (Obj.cells #[Value.slice ad v.length cap] 50)) = w1 := ⟨_, rfl⟩
 have b0 := Boxed.new W 3 (.int .i64 w)
 have b1 := Boxed.new (W.alloc (Obj.cells #[Value.int IntKind.i64 w] 3)) 3 (.int .i64 p)
 have b2 : Row4 (((W.alloc (Obj.cells #[Value.int IntKind.i64 w] 3)).alloc (Obj.cells #[Value.int IntKind.i64 p] 3)).alloc (Obj.cells #[Value.int IntKind.i64 0, Value.int IntKind.i64 0, Value.int IntKind.i64 0, Value.int IntKind.i64 0] 114)) _ zr := World.alloc_heap_new _ _
 have b3 := Boxed.new (((W.alloc (Obj.cells #[Value.int IntKind.i64 w] 3)).alloc (Obj.cells #[Value.int IntKind.i64 p] 3)).alloc (Obj.cells #[Value.int IntKind.i64 0, Value.int IntKind.i64 0, Value.int IntKind.i64 0, Value.int IntKind.i64 0] 114)) 4 (.bool false)
 have b4 := Boxed.new ((((W.alloc (Obj.cells #[Value.int IntKind.i64 w] 3)).alloc (Obj.cells #[Value.int IntKind.i64 p] 3)).alloc (Obj.cells #[Value.int IntKind.i64 0, Value.int IntKind.i64 0, Value.int IntKind.i64 0, Value.int IntKind.i64 0] 114)).alloc (Obj.cells #[Value.bool false] 4)) 50 (.slice ad v.length cap)
 simp only [World.size_alloc] at b1 b2 b3 b4
 have hB0 : Below W.heap.size W w1 := by
  rw [← hw1]
  exact ((((((Below.refl _ W).alloc (Nat.le_refl _) _).alloc (by simp) _).alloc (by simp; omega) _).alloc (by simp; omega) _).alloc (by simp; omega) _)
 have hs1 : w1.heap.size = W.heap.size + 5 := by rw [← hw1]; simp
 have c0 := (((b0.alloc (Obj.cells #[Value.int IntKind.i64 p] 3)).alloc (Obj.cells #[Value.int IntKind.i64 0, Value.int IntKind.i64 0, Value.int IntKind.i64 0, Value.int IntKind.i64 0] 114)).alloc (Obj.cells #[Value.bool false] 4)).alloc (Obj.cells #[Value.slice ad v.length cap] 50)
 have c1 := ((b1.alloc (Obj.cells #[Value.int IntKind.i64 0, Value.int IntKind.i64 0, Value.int IntKind.i64 0, Value.int IntKind.i64 0] 114)).alloc (Obj.cells #[Value.bool false] 4)).alloc (Obj.cells #[Value.slice ad v.length cap] 50)
 have c3 := b3.alloc (Obj.cells #[Value.slice ad v.length cap] 50)
 have c2 : Row4 w1 (W.heap.size + 1 + 1) zr := by
  rw [← hw1]
  exact (Below.heap_alloc _ _ _ (by simp)).trans ((Below.heap_alloc _ _ _ (by simp)).trans b2)
 rw [hw1] at c0 c1 c3 b4
 rw [hw1]
 simp only [World.size_alloc]
 clear hw1 b0 b1 b2 b3 hI
 generalize hA : W.heap.size = A at *
 have Po : ∀ {r : den E} {c : Bool} {D : Nat} {Y : World} {t8 t9 t12 t13 t14 t15 t16 t17 t18 t19 t20 t21 t22 t23 t24 : Value}, Bq w p v.reverse = (r, c) → A + 5 ≤ D → Row4 Y (A + 1 + 1) r → Boxed Y (A + 1 + 1 + 1) 4 (.bool c) → Y.heap[D]? = some (.deferred (some [])) → Below W.heap.size W Y →
   bodyPostM Fence.wide 3 Tryz.prog Tryz.f74 (fun e W' => e = .returned (.tuple #[rv (Bq w p v.reverse).1, .bool (Bq w p v.reverse).2]) ∧ Below W.heap.size W W') .ret
    { tmps := #[.slice ad v.length cap, .int .i64 w, .int .i64 p, undef, .pointer (some ⟨A, 0, none⟩), .pointer (some ⟨A + 1, 0, none⟩), .pointer (some ⟨A + 1 + 1, 0, none⟩), .pointer (some ⟨A + 1 + 1 + 1, 0, none⟩), t8, t9, .slice ad v.length cap, .func (.func 223) #[] #[.pointer (some ⟨A + 1 + 1 + 1 + 1, 0, none⟩)], t12, t13, t14, t15, t16, t17, t18, t19, t20, t21, t22, t23, t24], defers := [{ target := .collected D, args := #[] }] } Y := by
  intro r c D Y t8 t9 t12 t13 t14 t15 t16 t17 t18 t19 t20 t21 t22 t23 t24 hf hD h4 h3 hK hb
  rw [hf]
  refine ⟨by simp, .inl ⟨_, _, rfl, run_takeDeferred hK, ?_⟩⟩
  have r4 : Row4 (Y.putObj D (.deferred none)) (A + 1 + 1) r := (World.putObj_heap_other (by omega)).trans h4
  have r3 : Boxed (Y.putObj D (.deferred none)) (A + 1 + 1 + 1) 4 (.bool c) := (World.putObj_heap_other (by omega)).trans h3
  obtain ⟨q0, q1, q2, q3⟩ := r4.c
  have q4 := r3.cell
  refine ⟨.tuple #[rv r, .bool c], ?_, rfl, hb.trans (belowK_b (w := W) (Nat.le_refl _) Y D _ _ (by omega) hK rfl rfl)⟩
  simp [results, Tryz.f74, go_sem, q0, q1, q2, q3, q4, rv]
 refine wpIn_rangeFunc_ownH rfl h1 (gf := 223) (lb := #[.pointer (some ⟨A + 1 + 1 + 1 + 1, 0, none⟩)]) rfl trivial (enters_of Tryz.func223 (by kernel_rfl) rfl)
  (stops Fence.wide 2 trivial rfl (by omega) (A + 1 + 1 + 1 + 1) A (.slice ad v.length cap) v hok hv w1 (by omega) (by omega) b4.cell (hIw.below hB0)) KP.t (KP.b (by omega) (by omega)) (Below.refl _ _) (fun _ => rfl)
  (fun pre X => (∀ x ∈ pre, (decide ((x.1.2.2.1 : Int) < p) && Sd w x.1.2) = false) ∧ Inv A w p W (.slice ad v.length cap) X)
  (fun c pre X => c = .ret ∧ ∃ ini last, pre = ini ++ [last] ∧ (∀ x ∈ ini, (decide ((x.1.2.2.1 : Int) < p) && Sd w x.1.2) = false) ∧ (decide ((last.1.2.2.1 : Int) < p) && Sd w last.1.2) = true ∧ Row4 X (A + 1 + 1) last.1.2 ∧ Boxed X (A + 1 + 1 + 1) 4 (.bool true) ∧ Below A W X)
  ?ownI ?ownX ?h0
  (fun x a' X => ∃ R, A + 5 ≤ R ∧ Row4 X R x.1.2 ∧ a' = { tmps := #[.slice ad v.length cap, .int .i64 w, .int .i64 p, undef, .pointer (some ⟨A, 0, none⟩), .pointer (some ⟨A + 1, 0, none⟩), .pointer (some ⟨A + 1 + 1, 0, none⟩), .pointer (some ⟨A + 1 + 1 + 1, 0, none⟩), undef, .pointer (some ⟨R, 0, none⟩), .slice ad v.length cap, .func (.func 223) #[] #[.pointer (some ⟨A + 1 + 1 + 1 + 1, 0, none⟩)], .int .i64 (x.1.1 : Int), rv x.1.2, undef, undef, undef, undef, undef, undef, undef, undef, undef, undef, undef], defers := [] }) ?ownA ?assign ?body ?done ?stop
 case ownI => exact OwnFrom.and (ownFrom_pure _ _) (Inv.own (by omega) _ (by omega))
 case ownX =>
  intro c s X Y row ⟨h0, ini, last, h1, h2, h3, h4, h5, h6⟩ hg hr
  have l4 := h4.lt
  have l5 := h5.lt
  exact ⟨h0, ini, last, h1, h2, h3, (hg.block _ l4 (fun e => by have := (hr _ e.symm).1; omega)).trans h4, (hg.block _ l5 (fun e => by have := (hr _ e.symm).1; omega)).trans h5, h6.grown hg (by omega) (fun k e => by have := (hr k e).1; omega)⟩
 case h0 => exact ⟨by simp, c0, c1, ⟨_, c2⟩, ⟨_, c3⟩, b4, hB0⟩
 case ownA =>
  intro x a' s X Y row ⟨R, h1, h2, h3⟩ hg hr
  have l2 := h2.lt
  refine ⟨R, h1, (hg.block _ l2 (fun e => ?_)).trans h2, h3⟩
  obtain ⟨_, o, h4, h5⟩ := hr _ e.symm
  rw [show X.heap[R]? = _ from h2] at h4
  cases h4; cases h5
 case assign =>
  intro l pre x X K ⟨hX0, hX⟩ hK
  simp only [rv]
  gi_wp2
  have hl := hX.lt
  refine hK _ _ (KeepsFrom.of_grownBy (World.grownBy_alloc X _ none) (fun j e => by cases e)) ⟨(Below.refl A X).alloc (by omega) _, ?_⟩ ⟨hX0, hX.alloc _⟩ ⟨X.heap.size, hl, World.alloc_heap_new X _, rfl⟩
  rw [(hX.alloc _).b4.cell, hX.b4.cell]
 case body =>
  rintro l pre x a' X hl hr ⟨i0, hX⟩ ⟨R, hR, hRr, rfl⟩ hlen
  obtain ⟨d0, d1, d2, d3⟩ := hRr.c
  have k1 := hX.b0.cell
  have k2 := hX.b1.cell
  have hlX := hX.lt
  have hRX := hRr.lt
  have stay : ∀ {Y : World} (a' : Act), Below X.heap.size X Y → (decide ((x.1.2.2.1 : Int) < p) && Sd w x.1.2) = false → ownPostG w1.heap.size (KP A (A + 1 + 1 + 1 + 1)) (fun pre X => (∀ x ∈ pre, (decide ((x.1.2.2.1 : Int) < p) && Sd w x.1.2) = false) ∧ Inv A w p W (.slice ad v.length cap) X) (fun c pre X => c = .ret ∧ ∃ ini last, pre = ini ++ [last] ∧ (∀ x ∈ ini, (decide ((x.1.2.2.1 : Int) < p) && Sd w x.1.2) = false) ∧ (decide ((last.1.2.2.1 : Int) < p) && Sd w last.1.2) = true ∧ Row4 X (A + 1 + 1) last.1.2 ∧ Boxed X (A + 1 + 1 + 1) 4 (.bool true) ∧ Below A W X) (pre ++ [x]) X .normal a' Y := fun {Y} a' hB hc =>
   ⟨⟨hB.size, fun k o _ h0 _ => (hB.block k (Array.getElem?_eq_some_iff.1 h0).1).trans h0⟩, ⟨hB.mono (by omega), by rw [(hX.call hB).b4.cell, hX.b4.cell]⟩, fun y hy => (List.mem_append.1 hy).elim (i0 y) (fun e => by rw [List.mem_singleton.1 e]; exact hc), hX.call hB⟩
  simp only [rv]
  gi_wp2
  ·refine ⟨trivial, (Kt _ (.inr ⟨l, rfl⟩) 0 x.1.2 w x.2 X).mono ?_⟩
   rintro e w' ⟨rfl, hB⟩
   dsimp only
   have hRr' : Row4 w' R x.1.2 := (hB.block _ hRX).trans hRr
   obtain ⟨e0, e1, e2, e3⟩ := hRr'.c
   have hX' := hX.call hB
   obtain ⟨r0, hr0⟩ := hX'.b2
   obtain ⟨f0, f1, f2, f3⟩ := hr0.c
   obtain ⟨g0, g1, g2, g3⟩ := hr0.f
   obtain ⟨cb, hcb⟩ := hX'.b3
   have m0 := hcb.cell
   have m1 := hcb.frozen
   cases hf : Sd w x.1.2 with
   | false =>
    gi_wp2
    exact stay _ hB (by rw [hf, Bool.and_false])
   | true =>
    gi_wp2
    rename_i hlt
    have h5 := hr0.set x.1.2
    have nb : ∀ (q : Nat), q ≠ A + 1 + 1 → ((((w'.setCell ⟨A + 1 + 1, 0, none⟩ (.int .i64 x.1.2.1)).setCell ⟨A + 1 + 1, 1, none⟩ (.int .i64 x.1.2.2.1)).setCell ⟨A + 1 + 1, 2, none⟩ (.int .i64 x.1.2.2.2.1)).setCell ⟨A + 1 + 1, 3, none⟩ (.int .i64 x.1.2.2.2.2)).heap[q]? = w'.heap[q]? := fun q hq => by
     rw [Ao hq, Ao hq, Ao hq, Ao hq]
    have h6 : Boxed ((((w'.setCell ⟨A + 1 + 1, 0, none⟩ (.int .i64 x.1.2.1)).setCell ⟨A + 1 + 1, 1, none⟩ (.int .i64 x.1.2.2.1)).setCell ⟨A + 1 + 1, 2, none⟩ (.int .i64 x.1.2.2.2.1)).setCell ⟨A + 1 + 1, 3, none⟩ (.int .i64 x.1.2.2.2.2)) (A + 1 + 1 + 1) 4 (.bool cb) := (nb _ (by omega)).trans hcb
    refine ⟨(KeepsFrom.mk hB.size fun k o _ h0 _ => (hB.block k (Array.getElem?_eq_some_iff.1 h0).1).trans h0).trans ((((((KeepsOthers.setCell _ _ _).from _).trans ((KeepsOthers.setCell _ _ _).from _)).trans ((KeepsOthers.setCell _ _ _).from _)).trans ((KeepsOthers.setCell _ _ _).from _)).trans ((KeepsOthers.setCell _ _ _).from _)), rfl, pre, x, rfl, i0, by rw [hf, Bool.and_true]; exact decide_eq_true hlt, ?_, h6.set _, ?_⟩
    ·exact (Ao (by omega)).trans h5
    ·exact ((((hX'.bel.setCell (p := ⟨A + 1 + 1, 0, none⟩) (by show A ≤ A + 1 + 1; omega) _).setCell (p := ⟨A + 1 + 1, 1, none⟩) (by show A ≤ A + 1 + 1; omega) _).setCell (p := ⟨A + 1 + 1, 2, none⟩) (by show A ≤ A + 1 + 1; omega) _).setCell (p := ⟨A + 1 + 1, 3, none⟩) (by show A ≤ A + 1 + 1; omega) _).setCell (p := ⟨A + 1 + 1 + 1, 0, none⟩) (by show A ≤ A + 1 + 1 + 1; omega) _
  ·refine ⟨trivial, ?_⟩
   gi_wp2
   rename_i hge
   exact stay _ (Below.refl _ _) (by rw [decide_eq_false (Int.not_lt.2 hge), Bool.false_and])
 case done =>
  rintro D xs X hD rfl ⟨hne, hX⟩ hK
  obtain ⟨r0, hr0⟩ := hX.b2
  obtain ⟨f0, f1, f2, f3⟩ := hr0.c
  obtain ⟨g0, g1, g2, g3⟩ := hr0.f
  obtain ⟨cb, hcb⟩ := hX.b3
  have m0 := hcb.cell
  have m1 := hcb.frozen
  have hfd : Bq w p v.reverse = ((0, 0, 0, 0), false) := Ss w p _ fun r hr => by
   rw [← List.take_length (l := v.reverse), List.length_reverse, ← Y8 v hok _ (Nat.le_refl _)] at hr
   obtain ⟨x, hx, rfl⟩ := List.mem_map.1 hr
   exact hne x hx
  gi_wp2
  have nb : ∀ (q : Nat), q ≠ A + 1 + 1 → ((((X.setCell ⟨A + 1 + 1, 0, none⟩ (.int .i64 0)).setCell ⟨A + 1 + 1, 1, none⟩ (.int .i64 0)).setCell ⟨A + 1 + 1, 2, none⟩ (.int .i64 0)).setCell ⟨A + 1 + 1, 3, none⟩ (.int .i64 0)).heap[q]? = X.heap[q]? := fun q hq => by
   rw [Ao hq, Ao hq, Ao hq, Ao hq]
  have h6 : Boxed ((((X.setCell ⟨A + 1 + 1, 0, none⟩ (.int .i64 0)).setCell ⟨A + 1 + 1, 1, none⟩ (.int .i64 0)).setCell ⟨A + 1 + 1, 2, none⟩ (.int .i64 0)).setCell ⟨A + 1 + 1, 3, none⟩ (.int .i64 0)) (A + 1 + 1 + 1) 4 (.bool cb) := (nb _ (by omega)).trans hcb
  have h5 := hr0.set zr
  have hbel := ((((hX.bel.setCell (p := ⟨A + 1 + 1, 0, none⟩) (by show A ≤ A + 1 + 1; omega) (.int .i64 0)).setCell (p := ⟨A + 1 + 1, 1, none⟩) (by show A ≤ A + 1 + 1; omega) (.int .i64 0)).setCell (p := ⟨A + 1 + 1, 2, none⟩) (by show A ≤ A + 1 + 1; omega) (.int .i64 0)).setCell (p := ⟨A + 1 + 1, 3, none⟩) (by show A ≤ A + 1 + 1; omega) (.int .i64 0)).setCell (p := ⟨A + 1 + 1 + 1, 0, none⟩) (by show A ≤ A + 1 + 1 + 1; omega) (.bool false)
  exact Po hfd (by omega) ((Ao (by omega)).trans h5) (h6.set _) ((Ao (by omega)).trans ((nb D (by omega)).trans hK)) (by rw [hA]; exact hbel)
 case stop =>
  rintro D c pre X hD ⟨k, hk, rfl⟩ ⟨rfl, ini, last, e1, e2, e3, hr4, hb3, hbel⟩ hK
  have hfd : Bq w p v.reverse = (last.1.2, true) := by
   have h2 := Y8 v hok k hk
   rw [e1, List.map_append, List.map_singleton] at h2
   have h3 : v.reverse = ini.map (fun x => x.1.2) ++ last.1.2 :: v.reverse.drop k := by
    conv => lhs; rw [← List.take_append_drop k v.reverse, ← h2]
    simp
   rw [h3]
   refine S4 w p _ _ e3 _ fun r hr => ?_
   obtain ⟨x, hx, rfl⟩ := List.mem_map.1 hr
   exact e2 x hx
  gi_wp2
  exact Po hfd (by omega) hr4 hb3 hK (by rw [hA]; exact hbel)
theorem Xl3 {w : World} {S : Nat → Prop} {a b c : Arg} {vals : List Value} {bss : List (List Nat)} (h : ArgsV w S [a, b, c] vals bss) :
  ∃ y iv z bl bi bv, vals = [y, iv, z] ∧ bss = [bl, bi, bv] ∧ ArgV w S a y bl ∧ ArgV w S b iv bi ∧ ArgV w S c z bv := by
 rcases vals with _ | ⟨y, _ | ⟨iv, _ | ⟨z, _ | _⟩⟩⟩ <;> rcases bss with _ | ⟨bl, _ | ⟨bi, _ | ⟨bv, _ | _⟩⟩⟩ <;> simp only [ArgsV, and_false] at h
 exact ⟨_, _, _, _, _, _, rfl, rfl, h.1, h.2.1, h.2.2.1⟩
theorem X25 {w : World} {S : Nat → Prop} {m : Rf.Mode} {x : den E} {u : List Value} {b : List Nat} (h : Rd w S E m x u b) : u = [.int .i64 x.1, .int .i64 x.2.1, .int .i64 x.2.2.1, .int .i64 x.2.2.2] := by
 obtain ⟨_, _, _, _, rfl, rfl, ⟨rfl, rfl⟩, _, _, _, _, rfl, rfl, ⟨rfl, rfl⟩, _, _, _, _, rfl, rfl, ⟨rfl, rfl⟩, ⟨rfl, rfl⟩⟩ := h
 rfl
theorem Xxi {w : World} {S : Nat → Prop} {v : List (den E)} {y : Value} {bs : List Nat} (h : Rd w S (.sl E) .ro v [y] bs) (hS : ∀ b, S b → b < w.heap.size) :
  (∃ ad cap, y = .slice ad v.length cap) ∧ Rts w.heap.size w y v ∧ bs = [] := by
 obtain ⟨y', hy, ad, c, rfl, hc, _, hr⟩ := h
 simp only [List.cons.injEq, and_true] at hy
 subst hy
 refine ⟨⟨_, _, rfl⟩, ?_, ?_⟩
 ·cases v with
  | nil => exact .inl ⟨_, _, rfl, rfl⟩
  | cons r0 v =>
   rcases hr with ⟨_, h, _⟩ | ⟨b, o, bss, rfl, hl, _, h2, _, hel⟩
   ·cases h
   ·obtain ⟨_, _, h3⟩ := h2 rfl
    refine .inr ⟨b, o, c, rfl, hc, hS _ (h3 (by simp)), fun i hi => ?_⟩
    obtain ⟨vs, hvl, hcell, hrd⟩ := hel i ((r0 :: v)[i]) (bss[i]'(by omega)) (by simp) (List.getElem?_eq_getElem hi) (List.getElem?_eq_getElem (by omega))
    have he := X25 hrd
    subst he
    rw [List.getElem?_eq_getElem hi, Option.getD_some]
    exact ⟨hcell 0 (by decide), hcell 1 (by decide), hcell 2 (by decide), hcell 3 (by decide)⟩
 ·rcases hr with ⟨_, _, _, h⟩ | ⟨b, o, bss, rfl, hl, _, h2, _, hel⟩
  ·exact h
  ·exact (h2 rfl).1
set_option maxRecDepth 100000 in
theorem con (v : List (den E)) (w p : Int) : Contract Tryz.prog 74 [.one (.l (.s .ro E v)), .one (.l (.v (.int .i64 w))), .one (.l (.v (.int .i64 p)))]
  ⟨to v w p, fun r => (.tup [(true, enc .own E r.1), (false, [.v (.bool r.2)])], [])⟩ := by
 intro W S vals bss hA hnd hown hS _ _ r hr
 obtain ⟨y, iv, z, bl, bi, bv, rfl, rfl, h1, h2, h3⟩ := Xl3 hA
 obtain ⟨rfl, rfl⟩ : iv = .int .i64 w ∧ bi = [] := h2
 obtain ⟨rfl, rfl⟩ : z = .int .i64 p ∧ bv = [] := h3
 have hr : to v w p = some r := hr
 unfold to at hr
 cases hk : (v.all okB && decide (v.length ≤ 1000000)) with
 | false => rw [hk] at hr; cases hr
 | true =>
  rw [hk, cond_true, Option.some.injEq] at hr
  simp only [Bool.and_eq_true, decide_eq_true_eq] at hk
  obtain ⟨⟨ad, cap, hy⟩, hI, rfl⟩ := Xxi (show Rd W S (.sl E) .ro v [y] bl from h1) hS
  have c := callsIn_wide.1 (X39 v hk.2 hk.1 y w p ad cap hy W hI)
  rw [hr] at c
  refine c.mono ?_
  rintro e W' ⟨rfl, hB⟩
  refine ⟨_, rfl, ⟨S, [], [], ⟨[rv r.1, .bool r.2], [[], []], rfl, ⟨⟨_, [[], [], [], []], rfl, ⟨⟨rfl, rfl⟩, ⟨rfl, rfl⟩, ⟨rfl, rfl⟩, ⟨rfl, rfl⟩, trivial⟩, rfl⟩, ⟨rfl, rfl⟩, trivial⟩, rfl⟩, trivial, by simp, by simp, fun _ h => h, fun q h => Nat.lt_of_lt_of_le (hS q h) hB.size, fun q h => .inl h, by simp, by simp [resBk, Qb]⟩, hB.size, ⟨hB.os, hB.tape, hB.output⟩, fun q h1 h2 => .inl (hB.block q h1).symm⟩
#print axioms con
end Go.Proofs.YtdmepjjepogddaaGreat.Rt
end

section
namespace Go.Proofs.YtdmepjjepogddaaGreat.De
open Go.RowKit Go.Shelf Go.Lib Go.Proofs
set_option linter.unusedVariables false
set_option linter.unusedSimpArgs false
theorem u100 : Tryz.prog.underlying 100 = some (.slice 196) := by kernel_rfl
abbrev Z : Value := .agg #[.slice none 0 0, .int .i64 0]
theorem Xfs : ∃ i, Tryz.prog.info? 196 = some i ∧ i.zero = some Z ∧ i.size = 2 ∧ i.bytes = 32 := info_parts (by kernel_rfl)
theorem X3d (w : World) : (zeroValue 196).run Tryz.prog w = .ok Z w := by
 obtain ⟨i, h1, h2, _⟩ := Xfs
 simp [zeroValue, typeInfo, h1, h2]
abbrev zz : List Value := [.slice none 0 0, .int .i64 0]
theorem Xxa (w : World) (ty : TypeId) (b o c : Nat) (hc : ∀ j, j < 2 → (w.cell? ⟨b, o + j, none⟩).isSome = true) (hf : ∀ j, j < 2 → w.frozen? ⟨b, o + j, none⟩ = false) :
  (Builtin.clear_ #[100] ty #[.slice (some ⟨b, o, none⟩) 1 c]).run Tryz.prog w = .ok (.tuple #[]) (w.setCells b o zz) := by
 have hst := run_storeCells_cells (P := Tryz.prog) b o zz 0 w (by simpa using hc) (by simpa using hf) (by intro v hv; simp at hv; rcases hv with rfl | rfl <;> rfl)
 simp only [Nat.add_zero] at hst
 have hzc : (Builtin.zeroCells Z.cells 1).toList = zz := by
  simp [Builtin.zeroCells, Value.cells]
  rfl
 simp [Builtin.clear_, run_underlying u100, X3d, hzc, hst]
set_option maxHeartbeats 4000000 in
set_option maxRecDepth 1000000 in
theorem del1 (b o c : Nat) (w : World) (hc1 : 1 ≤ c) (hc : ∀ j, j < 2 → (w.cell? ⟨b, o + j, none⟩).isSome = true) (hf : ∀ j, j < 2 → w.frozen? ⟨b, o + j, none⟩ = false) :
  Calls Tryz.prog 219 #[.slice (some ⟨b, o, none⟩) 1 c, .int .i64 0, .int .i64 1] w fun e w' => e = .returned (.slice (some ⟨b, o, none⟩) 0 c) ∧ w' = w.drew.setCells b o zz := by
 have Ah : Tryz.prog.follows .mixedOrders = true := by kernel_rfl
 obtain ⟨i0, hi0, hz0, hz1, hz2⟩ := Xfs
 have hcl := fun ty cc => Xxa w.drew ty b o cc hc hf
 obtain ⟨A, hA⟩ : ∃ A : Addr, (if c = 1 then some (⟨b, o, none⟩ : Addr) else some ⟨b, o + 2, none⟩) = some A := by
  by_cases h : c = 1
  ·exact ⟨_, by rw [if_pos h]⟩
  ·exact ⟨_, by rw [if_neg h]⟩
 go_enter Tryz.func219, Tryz.ntmps219
 go_wp2_with fail
 go_region_law_o (refine step_append_room rfl (.tmp 22) (.tmp 25) 100 rfl 196 i0 2 u100 hi0 hz1 b o 0 c (by simp [Act.eval, Act.put]) A 0 (c - 1) [] (by simp [Act.eval, Act.put]; try exact hA) rfl (by intro j u h; simp at h) (by intro u h; cases h) (by omega) (by intro j h; simp at h) ?_)
 rw [show w.drew.setCells b o [] = w.drew from rfl]
 go_wp2
 go_ret
 exact ⟨rfl, rfl⟩
open Go.Rf
abbrev E : Ty := .pair (.sl (.pair (.int .i64) (.pair (.int .i64) (.pair (.int .i64) (.pair (.int .i64) (.pair (.int .i64) (.pair (.int .i64) (.pair .bool (.pair .bool (.sl (.int .u8))))))))))) (.int .i64)
def del (l : List (den E)) (i j : Int) : Option (List (den E)) := cond (decide (i = 0) && decide (j = 1) && decide (l.length = 1)) (some []) none
theorem Kb {b : Nat} : ∀ {vs : List Value} {o : Nat} {w : World}, BlkOk w b (o + vs.length) →
  (∀ q, q ≠ b → (w.setCells b o vs).heap[q]? = w.heap[q]?) ∧ (∀ n, BlkOk w b n → BlkOk (w.setCells b o vs) b n) ∧
   (∀ p, cellAt (w.setCells b o vs) b p = if o ≤ p ∧ p < o + vs.length then vs[p - o]? else cellAt w b p) ∧ (w.setCells b o vs).heap.size = w.heap.size ∧ Io w (w.setCells b o vs)
 | [], o, w, hb => ⟨fun _ _ => rfl, fun _ h => h, fun p => by rw [if_neg (by simp only [List.length_nil]; omega)]; rfl, rfl, Io.refl _⟩
 | v :: vs, o, w, hb => by
  have hb1 : BlkOk w b (o + 1) := by obtain ⟨cs, te, h2, h3⟩ := hb; exact ⟨cs, te, h2, by simp at h3; omega⟩
  obtain ⟨hq, hblk, hcell, hsz, hio⟩ := Kb (b := b) (vs := vs) (o := o + 1) (w := w.setCell ⟨b, o, none⟩ v)
   (B9 (by obtain ⟨cs, te, h2, h3⟩ := hb; exact ⟨cs, te, h2, by simp at h3; omega⟩))
  refine ⟨fun q hne => (hq q hne).trans (Ao hne), fun n hn => hblk n (B9 hn), fun p => ?_, hsz.trans (Bu _ _ _), (show Io w (w.setCell ⟨b, o, none⟩ v) from ⟨rfl, rfl, rfl⟩).trans hio⟩
  rw [World.setCells, hcell p]
  by_cases h2 : o + 1 ≤ p ∧ p < o + 1 + vs.length
  ·rw [if_pos h2, if_pos (by simp; omega)]
   rw [show p - o = (p - (o + 1)) + 1 by omega, List.getElem?_cons_succ]
  ·rw [if_neg h2, C4 hb1 (by omega)]
   by_cases h3 : p = o
   ·subst h3
    simp
   ·rw [if_neg (by simp [h3]), if_neg (by simp; omega)]
theorem Xl3 {w : World} {S : Nat → Prop} {a b c : Arg} {vals : List Value} {bss : List (List Nat)} (h : ArgsV w S [a, b, c] vals bss) :
  ∃ y iv z bl bi bv, vals = [y, iv, z] ∧ bss = [bl, bi, bv] ∧ ArgV w S a y bl ∧ ArgV w S b iv bi ∧ ArgV w S c z bv := by
 rcases vals with _ | ⟨y, _ | ⟨iv, _ | ⟨z, _ | _⟩⟩⟩ <;> rcases bss with _ | ⟨bl, _ | ⟨bi, _ | ⟨bv, _ | _⟩⟩⟩ <;> simp only [ArgsV, and_false] at h
 exact ⟨_, _, _, _, _, _, rfl, rfl, h.1, h.2.1, h.2.2.1⟩
theorem Xlz {w : World} {b n p : Nat} (h : BlkOk w b n) (hp : p < n) : (w.cell? ⟨b, p, none⟩).isSome = true ∧ w.frozen? ⟨b, p, none⟩ = false := by
 obtain ⟨cs, te, h1, h2⟩ := h
 unfold World.cell? World.frozen?
 simp only [h1, Option.isSome_none, Bool.false_eq_true, if_false]
 rw [Array.getElem?_eq_getElem (by omega)]
 exact ⟨rfl, by simp⟩
theorem Po {w w' : World} {S : Nat → Prop} {l : List (den E)} {y : Value} {b : Nat} {own : List Nat} (hR : Rd w' S (.sl E) .own l [y] [b]) (hb : b ∈ own ∨ w.heap.size ≤ b) (hown : ∀ q ∈ own, ¬ S q) (hS : ∀ q, S q → q < w.heap.size)
  (hsz : w.heap.size ≤ w'.heap.size) (hio : Io w w') (hfr : ∀ q, q < w.heap.size → q ∉ own → w'.heap[q]? = w.heap[q]?) : Post w S [] own w' (.one (.s .own E l), []) y := by
 refine ⟨⟨S, [b], [], hR, trivial, by simp, ?_, fun _ h => h, fun q h => Nat.lt_of_lt_of_le (hS q h) hsz, fun q h => .inl h, ?_, ?_⟩, hsz, hio, fun q h1 h2 => .inl (hfr q h1 h2).symm⟩
 ·intro q hq
  simp only [List.flatten_nil, List.append_nil, List.mem_singleton] at hq
  subst hq
  rcases hb with hb | hb
  ·exact hown _ hb
  ·intro h; have := hS _ h; omega
 ·intro q hq
  simp only [List.flatten_nil, List.append_nil, List.mem_singleton] at hq
  subst hq
  exact hb
 ·intro a ha; simp [resBk, Qb] at ha
theorem con (l : List (den E)) (i j : Int) : Contract Tryz.prog 219 [.one (.l (.s .sown E l)), .one (.l (.v (.int .i64 i))), .one (.l (.v (.int .i64 j)))] ⟨del l i j, fun r => (.one (.s .own E r), [])⟩ := by
 intro w S vals bss hA hnd hown hS _ _ r hr
 obtain ⟨y, iv, jv, bl, bi, bj, rfl, rfl, h1, h2, h3⟩ := Xl3 hA
 obtain ⟨rfl, rfl⟩ : iv = .int .i64 i ∧ bi = [] := h2
 obtain ⟨rfl, rfl⟩ : jv = .int .i64 j ∧ bj = [] := h3
 have hr : del l i j = some r := hr
 unfold del at hr
 cases hk : (decide (i = 0) && decide (j = 1) && decide (l.length = 1)) with
 | false => rw [hk] at hr; cases hr
 | true =>
  rw [hk, cond_true, Option.some.injEq] at hr
  simp only [Bool.and_eq_true, decide_eq_true_eq] at hk
  obtain ⟨⟨rfl, rfl⟩, hl⟩ := hk
  subst hr
  obtain ⟨y', hy, ad, c, rfl, hlc, _, hh⟩ := (h1 : Rd w S (.sl E) .sown l [y] bl)
  obtain rfl : y = .slice ad l.length c := by simpa using hy
  rcases hh with ⟨_, e, _⟩ | ⟨b, o, bs', rfl, _, hb, _⟩
  ·rw [e] at hl; cases hl
  ·obtain ⟨rfl, hblk⟩ := hb rfl
   have hblk : BlkOk w b (o + c * 2) := hblk
   rw [hl] at hlc ⊢
   have hc : ∀ t, t < 2 → (w.cell? ⟨b, o + t, none⟩).isSome = true ∧ w.frozen? ⟨b, o + t, none⟩ = false := fun t ht => Xlz hblk (by omega)
   have hd0 : BlkOk w.drew b (o + c * 2) := hblk
   obtain ⟨q1, b1, c1, s1, io1⟩ := Kb (vs := zz) (o := o) (w := w.drew) (b := b) (by obtain ⟨p1, p2, p3, p4⟩ := hd0; exact ⟨p1, p2, p3, by show o + 2 ≤ _; omega⟩)
   refine (del1 b o c w hlc (fun t ht => (hc t ht).1) (fun t ht => (hc t ht).2)).mono ?_
   rintro e w' ⟨rfl, rfl⟩
   refine ⟨_, rfl, ?_⟩
   have hin : b ∈ [b :: bs'.flatten, [], []].flatten := by simp
   have hR : Rd (w.drew.setCells b o zz) S (.sl E) .own [] [.slice (some ⟨b, o, none⟩) 0 c] [b] :=
    ⟨_, rfl, some ⟨b, o, none⟩, c, rfl, Nat.zero_le _, (by intro h; cases h), .inr ⟨b, o, [], rfl, rfl, fun _ => ⟨rfl, b1 _ hd0⟩, (by intro h; cases h), (by intro i h; cases h), (by intro i x b' _ hx; simp at hx)⟩⟩
   exact Po hR (.inl hin) hown hS (by rw [s1]; exact Nat.le_refl _) ((show Io w w.drew from ⟨rfl, rfl, rfl⟩).trans io1) (fun q h1 h2 => q1 q (fun e => h2 (by rw [e]; exact hin)))
#print axioms con
end Go.Proofs.YtdmepjjepogddaaGreat.De
end

section
set_option linter.unusedVariables false
set_option linter.unusedSimpArgs false
namespace Go.Proofs.YtdmepjjepogddaaGreat.Gn
open Go.Rf IntKind
noncomputable section
abbrev B6 : Ty := (.pair (.int .i64) (.pair (.int .i64) (.pair (.int .i64) (.int .i64))))
abbrev sta : Ty := (.pair (.int .i64) (.sl B6))
abbrev Ac : Ty := (.pair (.int .i64) (.pair (.int .i64) (.pair (.int .i64) (.pair (.int .i64) (.pair (.int .i64) (.pair (.int .i64) (.pair .bool (.pair .bool (.sl (.int .u8))))))))))
abbrev Ax : Ty := (.pair (.sl Ac) (.int .i64))
abbrev Pa : Ty := (.pair (.int .i64) (.pair (.int .i64) (.sl Ac)))
abbrev Cy : Ty := (.pair (.sl Ac) Ax)
abbrev Ay : Type := List (den B6)
abbrev Af : Type := List (den sta)
abbrev Aa : Type := List (den (.int .u8))
abbrev Ak : Type := List (den Ac)
abbrev Ad : Type := List (den Ax)
abbrev Bd : Type := List (den (.int .i64))
abbrev Ft : Type := List (den (.sl (.int .u8)))
abbrev Cb : Type := List (den (.pair (.int .i64) Ac))
abbrev Yl : MT := .pair (.sl .ro (.int .u8)) mI
abbrev m_2 : MT := .pair mI (.pair mI (.pair mI mI))
abbrev m_3 : MT := .pair mB (.sl .ro (.int .u8))
abbrev m_4 : MT := .pair mI (.pair mI (.pair mB m_3))
abbrev C1 : MT := .pair mI (.pair mI (.pair mI m_4))
abbrev m_6 : MT := .pair mB (.sl .own (.int .u8))
abbrev m_7 : MT := .pair mI (.pair mI (.pair mB m_6))
abbrev m_8 : MT := .pair mI (.pair mI (.pair mI m_7))
abbrev m_9 : MT := .pair mI (.sl .ro (.int .u8))
abbrev m_10 : MT := .pair mI (.sl .own (.int .u8))
abbrev Xor : MT := .pair mI (.pair mI (.sl .own Ac))
abbrev J7 : MT := .pair (.sl .own Ac) (.pair (.sl .own Ac) mI)
abbrev m_13 : MT := .pair (.sl .ro Ac) (.pair (.sl .ro Ac) mI)
abbrev Xoh : MT := .pair (.sl .sown Ac) (.pair (.sl .sown Ac) mI)
abbrev Xrv : MT := .pair mI (.pair mI (.sl .sown Ac))
abbrev u_0 {β : Type} (e : (Aa × Int)) (f : Aa → Int → β) : β := f e.1 e.2
abbrev Cv {β : Type} (e : (den B6)) (f : Int → Int → Int → Int → β) : β := f e.1 e.2.1 e.2.2.1 e.2.2.2
abbrev Aw {β : Type} (e : (den Ac)) (f : Int → Int → Int → Int → Int → Int → Bool → Bool → Aa → β) : β := f e.1 e.2.1 e.2.2.1 e.2.2.2.1 e.2.2.2.2.1 e.2.2.2.2.2.1 e.2.2.2.2.2.2.1 e.2.2.2.2.2.2.2.1 e.2.2.2.2.2.2.2.2
abbrev u_3 {β : Type} (e : (Int × (Int × Aa))) (f : Int → Int → Aa → β) : β := f e.1 e.2.1 e.2.2
abbrev Bb {β : Type} (e : (den Ax)) (f : Ak → Int → β) : β := f e.1 e.2
def tyT : List (Nat × TyI) := [(3, ⟨(.int .i64), false, 0⟩), (4, ⟨.bool, false, 0⟩), (5, ⟨(.int .u8), false, 0⟩), (9, ⟨.str, false, 0⟩), (23, ⟨(.sl (.int .u8)), false, 1⟩), (27, ⟨(.sl sta), false, 32⟩), (50, ⟨(.sl B6), false, 32⟩), (52, ⟨sta, true, 0⟩), (56, ⟨Ac, true, 0⟩), (96, ⟨(.sl Ac), false, 80⟩), (98, ⟨Cy, true, 0⟩), (100, ⟨(.sl Ax), false, 32⟩), (114, ⟨B6, true, 0⟩), (158, ⟨(.sl (.sl (.int .u8))), false, 24⟩), (190, ⟨(.sl (.int .i64)), false, 8⟩), (192, ⟨Pa, true, 0⟩), (196, ⟨Ax, true, 0⟩), (207, ⟨(.pair (.sl (.int .u8)) (.int .i64)), true, 0⟩), (268, ⟨(.pair (.int .i64) Ac), true, 0⟩), (269, ⟨(.sl (.pair (.int .i64) Ac)), false, 88⟩), (346, ⟨(.pair (.int .i64) (.pair (.int .i64) (.sl (.int .u8)))), true, 0⟩)]
def Z7 : Xf3 := [(52, [(0, 1, false), (1, 1, false)]), (56, [(0, 1, false), (1, 1, false), (2, 1, false), (3, 1, false), (4, 1, false), (5, 1, false), (6, 1, false), (7, 1, false), (8, 1, false)]), (98, [(0, 1, false), (1, 1, false), (2, 1, false)]), (114, [(0, 1, false), (1, 1, false), (2, 1, false), (3, 1, false)]), (192, [(0, 1, false), (1, 1, false), (2, 1, false)]), (196, [(0, 1, false), (1, 1, false)]), (207, [(0, 1, false), (1, 1, false)]), (268, [(0, 1, false), (1, 9, true)]), (346, [(0, 1, false), (1, 1, false), (2, 1, false)])]
def eqT : List Nat := []
def Bc (tab : Tab) (hint : Nat → Hint) (rm : Rf.Mode) (pins : List (Bool × Nat)) (k : Nat) : Env :=
 { tab := tab, lend := (fun f => cond (Nat.beq f 219) [true] (cond (Nat.beq f 276) [true] (cond (Nat.beq f 211) [true] (cond (Nat.beq f 271) [true] (cond (Nat.beq f 163) [true] (cond (Nat.beq f 197) [true] (cond (Nat.beq f 266) [true] ([])))))))), lent := (fun f => cond (Nat.beq f 215) [true] (cond (Nat.beq f 68) [true] (cond (Nat.beq f 20) [true] (cond (Nat.beq f 19) [true] ([]))))), pins := pins, ty := asc tyT, fld := Lb Z7, pw := fun _ => none, cw := fun _ => [], hint := hint, eqt := B5 eqT, rm := rm, fuel := k, itr := [(164, 229, (.int .u8))] }
theorem tyOk : AllT (TyOk Tryz.prog) tyT :=
 ⟨.ofInt (b := 8) (by kernel_rfl) (by kernel_rfl), .ofBool (b := 1) (by kernel_rfl) (by kernel_rfl), .ofInt (b := 1) (by kernel_rfl) (by kernel_rfl), .ofStr (b := 16) (by kernel_rfl) (by kernel_rfl), .ofSl (te := 5) (b := 24) (by kernel_rfl) (by kernel_rfl) (by kernel_rfl) (fun _ h => by cases h; kernel_rfl), .ofSl (te := 52) (b := 24) (by kernel_rfl) (by kernel_rfl) (by kernel_rfl) nofun, .ofSl (te := 114) (b := 24) (by kernel_rfl) (by kernel_rfl) (by kernel_rfl) nofun, .ofAgg (b := 32) (by kernel_rfl) (by kernel_rfl), .ofAgg (b := 80) (by kernel_rfl) (by kernel_rfl), .ofSl (te := 56) (b := 24) (by kernel_rfl) (by kernel_rfl) (by kernel_rfl) nofun, .ofAgg (b := 56) (by kernel_rfl) (by kernel_rfl), .ofSl (te := 196) (b := 24) (by kernel_rfl) (by kernel_rfl) (by kernel_rfl) nofun, .ofAgg (b := 32) (by kernel_rfl) (by kernel_rfl), .ofSl (te := 23) (b := 24) (by kernel_rfl) (by kernel_rfl) (by kernel_rfl) nofun, .ofSl (te := 3) (b := 24) (by kernel_rfl) (by kernel_rfl) (by kernel_rfl) (fun _ h => by cases h; kernel_rfl), .ofAgg (b := 40) (by kernel_rfl) (by kernel_rfl), .ofAgg (b := 32) (by kernel_rfl) (by kernel_rfl), .ofAgg (b := 32) (by kernel_rfl) (by kernel_rfl), .ofAgg (b := 88) (by kernel_rfl) (by kernel_rfl), .ofSl (te := 268) (b := 24) (by kernel_rfl) (by kernel_rfl) (by kernel_rfl) nofun, .ofAgg (b := 40) (by kernel_rfl) (by kernel_rfl), trivial⟩
theorem fldOk : AllF Tryz.prog Z7 :=
 ⟨⟨⟨by kernel_rfl, by kernel_rfl⟩, ⟨by kernel_rfl, by kernel_rfl⟩, trivial⟩, ⟨⟨by kernel_rfl, by kernel_rfl⟩, ⟨by kernel_rfl, by kernel_rfl⟩, ⟨by kernel_rfl, by kernel_rfl⟩, ⟨by kernel_rfl, by kernel_rfl⟩, ⟨by kernel_rfl, by kernel_rfl⟩, ⟨by kernel_rfl, by kernel_rfl⟩, ⟨by kernel_rfl, by kernel_rfl⟩, ⟨by kernel_rfl, by kernel_rfl⟩, ⟨by kernel_rfl, by kernel_rfl⟩, trivial⟩, ⟨⟨by kernel_rfl, by kernel_rfl⟩, ⟨by kernel_rfl, by kernel_rfl⟩, ⟨by kernel_rfl, by kernel_rfl⟩, trivial⟩, ⟨⟨by kernel_rfl, by kernel_rfl⟩, ⟨by kernel_rfl, by kernel_rfl⟩, ⟨by kernel_rfl, by kernel_rfl⟩, ⟨by kernel_rfl, by kernel_rfl⟩, trivial⟩, ⟨⟨by kernel_rfl, by kernel_rfl⟩, ⟨by kernel_rfl, by kernel_rfl⟩, ⟨by kernel_rfl, by kernel_rfl⟩, trivial⟩, ⟨⟨by kernel_rfl, by kernel_rfl⟩, ⟨by kernel_rfl, by kernel_rfl⟩, trivial⟩, ⟨⟨by kernel_rfl, by kernel_rfl⟩, ⟨by kernel_rfl, by kernel_rfl⟩, trivial⟩, ⟨⟨by kernel_rfl, by kernel_rfl⟩, ⟨by kernel_rfl, by kernel_rfl⟩, trivial⟩, ⟨⟨by kernel_rfl, by kernel_rfl⟩, ⟨by kernel_rfl, by kernel_rfl⟩, ⟨by kernel_rfl, by kernel_rfl⟩, trivial⟩, trivial⟩
theorem Ah : Tryz.prog.follows .mixedOrders = true := by kernel_rfl
theorem bldOk : AllT (fun t i => i.agg = true → BldOk Tryz.prog t (Lb Z7 t)) tyT :=
 ⟨nofun, nofun, nofun, nofun, nofun, nofun, nofun, fun _ => Fz (row := [(0, 1, false), (1, 1, false)]) rfl (by kernel_rfl) (by kernel_rfl), fun _ => Fz (row := [(0, 1, false), (1, 1, false), (2, 1, false), (3, 1, false), (4, 1, false), (5, 1, false), (6, 1, false), (7, 1, false), (8, 1, false)]) rfl (by kernel_rfl) (by kernel_rfl), nofun, fun _ => Fz (row := [(0, 1, false), (1, 1, false), (2, 1, false)]) rfl (by kernel_rfl) (by kernel_rfl), nofun, fun _ => Fz (row := [(0, 1, false), (1, 1, false), (2, 1, false), (3, 1, false)]) rfl (by kernel_rfl) (by kernel_rfl), nofun, nofun, fun _ => Fz (row := [(0, 1, false), (1, 1, false), (2, 1, false)]) rfl (by kernel_rfl) (by kernel_rfl), fun _ => Fz (row := [(0, 1, false), (1, 1, false)]) rfl (by kernel_rfl) (by kernel_rfl), fun _ => Fz (row := [(0, 1, false), (1, 1, false)]) rfl (by kernel_rfl) (by kernel_rfl), fun _ => Fz (row := [(0, 1, false), (1, 9, true)]) rfl (by kernel_rfl) (by kernel_rfl), nofun, fun _ => Fz (row := [(0, 1, false), (1, 1, false), (2, 1, false)]) rfl (by kernel_rfl) (by kernel_rfl), trivial⟩
theorem eqOkT : AllT (fun t i => B5 eqT t = true → EqOk Tryz.prog t i.ty) tyT :=
 ⟨fun h => absurd h (by decide), fun h => absurd h (by decide), fun h => absurd h (by decide), fun h => absurd h (by decide), fun h => absurd h (by decide), fun h => absurd h (by decide), fun h => absurd h (by decide), fun h => absurd h (by decide), fun h => absurd h (by decide), fun h => absurd h (by decide), fun h => absurd h (by decide), fun h => absurd h (by decide), fun h => absurd h (by decide), fun h => absurd h (by decide), fun h => absurd h (by decide), fun h => absurd h (by decide), fun h => absurd h (by decide), fun h => absurd h (by decide), fun h => absurd h (by decide), fun h => absurd h (by decide), fun h => absurd h (by decide), trivial⟩
theorem Xjb (tab : Tab) (hint : Nat → Hint) (rm : Rf.Mode) (pins : List (Bool × Nat)) (k : Nat) : TysOk Tryz.prog (Bc tab hint rm pins k) :=
 ⟨fun t i h => tyOk.get h, fun s f z h => fldOk.get h, fun t i h => bldOk.get h, fun t i h h2 => eqOkT.get h2 h, fun z hz => by obtain rfl := List.mem_singleton.1 hz; exact ⟨It.mkOk, It.itOk⟩⟩
theorem Am {tab : Tab} (h : TabFn Tryz.prog tab) (hint : Nat → Hint) (rm : Rf.Mode) (pins : List (Bool × Nat)) (k : Nat) : EnvOk Tryz.prog (Bc tab hint rm pins k) := EnvOk.of (Xjb tab hint rm pins k) h
theorem W5 (frz : List Nat) {tab : Tab} (h : TabFn Tryz.prog tab) (hint : Nat → Hint) (rm : Rf.Mode) (pins : List (Bool × Nat)) (k : Nat) : EnvOk Tryz.prog { Bc tab hint rm pins k with frz := frz } :=
 have e := Am h hint rm pins k; ⟨e.ty, e.fld, e.bld, e.eq, e.tab, e.fn, e.itr⟩
def Bv : Tab := fun _ _ => none
def An : Nat → Hint := fun _ => ⟨[], []⟩
end
end Go.Proofs.YtdmepjjepogddaaGreat.Gn
end

section
set_option linter.unusedVariables false
set_option linter.unusedSimpArgs false
namespace Go.Proofs.YtdmepjjepogddaaGreat.Gn
open Go.Rf IntKind
noncomputable section
abbrev X35 (k : Nat) : Env := Bc Bv An .own [] k
abbrev Xu8 : List PA := [.one (.sl .ro (.int .u8))]
abbrev F69_O : RO := ⟨[.ptr 2], [Yl]⟩
def Xea {β : Type} (RET : (Aa × Int) → Option β) (k : Nat) (v : Aa) : Option β := cond (decide ((v.length : Int) > 2000)) (cond (decide (0 ≤ 2000) && decide (2000 ≤ (v.length : Int))) (RET (v.take 2000, 0)) none) (RET (v, 0))
def F69 := Xea (β := (Aa × Int)) some
theorem Xzu {β : Type} (k : Nat) (v : Aa) (K : KT β) : Ag (X35 k) Tryz.f69 (PsT.put Xu8 (v, ())) K = (F69 k v).bind fun r => K (F69_O.put r) :=
 Eq.trans (b := Xea (fun r => K (F69_O.put r)) k v) (by kernel_rfl) (by simp only [F69, Xea, z1, z2, z3, z4, z5, z6, z7, z8])
def Xuq (k : Nat) : FD := ⟨69, Xu8, F69_O, F69 k⟩
theorem X2n (k : Nat) : (Xuq k).Ok Tryz.prog := ⟨fun x => Ab (Am .none _ _ _ _) Ah Tryz.func69 rfl rfl (Xzu k _ some), .of (by kernel_rfl)⟩
abbrev X31 (k : Nat) : Env := Bc Bv An .own [(false, 0), (false, 1)] k
abbrev Xut : List PA := [.p Yl, .one mI]
abbrev F71_O : RO := ⟨[.v], [mI, Yl]⟩
def Xed {β : Type} (RET : (Int × (Aa × Int)) → Option β) (k : Nat) (v : (Aa × Int)) (w : Int) : Option β := u_0 v fun v0 v1 => cond (decide (w < 1)) (RET (0, (v0, i64.wrap (v1 + 1)))) (cond ((v0.length : Int) == 0) (RET (0, (v0, i64.wrap (v1 + 1)))) (cond (decide ((i64.wrap ((i64.wrap (v1 + 1)) - 1)) < (v0.length : Int))) (A1 (i64.wrap ((i64.wrap (v1 + 1)) - 1)) v0 (cond (decide (w = 0)) none (RET (((i64.wrap (Ap v0 (i64.wrap ((i64.wrap (v1 + 1)) - 1)))).tmod w), (v0, i64.wrap (v1 + 1)))))) (cond (decide ((v0.length : Int) = 0)) none (A1 ((i64.wrap ((i64.wrap (v1 + 1)) - 1)).tmod (v0.length : Int)) v0 (cond (decide ((v0.length : Int) = 0)) none (A1 ((i64.wrap ((i64.wrap ((i64.wrap ((i64.wrap (v1 + 1)) - 1)) * 7)) + 3)).tmod (v0.length : Int)) v0 (cond (decide ((v0.length : Int) = 0)) none (cond (decide (w = 0)) none (RET (((Ca .xor .i64 (i64.wrap ((i64.wrap ((i64.wrap ((i64.wrap ((i64.wrap (Ap v0 ((i64.wrap ((i64.wrap (v1 + 1)) - 1)).tmod (v0.length : Int)))) * 131)) + (i64.wrap ((i64.wrap (Ap v0 ((i64.wrap ((i64.wrap ((i64.wrap ((i64.wrap (v1 + 1)) - 1)) * 7)) + 3)).tmod (v0.length : Int)))) * 1117)))) + (i64.wrap ((i64.wrap ((i64.wrap (v1 + 1)) - 1)) * 29)))) + (i64.wrap ((i64.wrap ((i64.wrap ((i64.wrap (v1 + 1)) - 1)).tdiv (v0.length : Int))) * 53)))) (i64.wrap ((i64.wrap ((i64.wrap ((i64.wrap ((i64.wrap ((i64.wrap (Ap v0 ((i64.wrap ((i64.wrap (v1 + 1)) - 1)).tmod (v0.length : Int)))) * 131)) + (i64.wrap ((i64.wrap (Ap v0 ((i64.wrap ((i64.wrap ((i64.wrap ((i64.wrap (v1 + 1)) - 1)) * 7)) + 3)).tmod (v0.length : Int)))) * 1117)))) + (i64.wrap ((i64.wrap ((i64.wrap (v1 + 1)) - 1)) * 29)))) + (i64.wrap ((i64.wrap ((i64.wrap ((i64.wrap (v1 + 1)) - 1)).tdiv (v0.length : Int))) * 53)))).tdiv 64))).tmod w), (v0, i64.wrap (v1 + 1))))))))))))
def K6 := Xed (β := Int × (Aa × Int)) some
theorem Xvw {β : Type} (k : Nat) (v : (Aa × Int)) (w : Int) (K : KT β) : Ag (X31 k) Tryz.f71 (PsT.put Xut (v, w, ())) K = (K6 k v w).bind fun r => K (F71_O.put r) :=
 Eq.trans (b := Xed (fun r => K (F71_O.put r)) k v w) (by kernel_rfl) (by simp only [K6, Xed, z1, z2, z3, z4, z5, z6, z7, z8, u_0])
def Ya (k : Nat) : FD := ⟨71, Xut, F71_O, K6 k⟩
theorem Xdz (k : Nat) : (Ya k).Ok Tryz.prog := ⟨fun x => Ab (Am .none _ _ _ _) Ah Tryz.func71 rfl rfl (Xvw k _ _ some), .of (by kernel_rfl)⟩
abbrev X24 (k : Nat) : Env := Bc Bv An .own [] k
abbrev Xud : List PA := [.one mI, .one mI, .one mI]
abbrev F60_O : RO := ⟨[.v], [mB]⟩
def K8 (k : Nat) (v w p : Int) : Option (Bool) := cond (decide (v ≥ w)) (some (decide (v ≤ p))) (some false)
theorem Xw2 {β : Type} (k : Nat) (v w p : Int) (K : KT β) : Ag (X24 k) Tryz.f60 (PsT.put Xud (v, w, p, ())) K = (K8 k v w p).bind fun r => K (F60_O.put r) :=
 Eq.trans (b := cond (decide (v ≥ w)) (K (F60_O.put (decide (v ≤ p)))) (K (F60_O.put false))) (by kernel_rfl) (by simp only [K8, z1, z2, z3, z4, z5, z6, z7, z8])
def Fu (k : Nat) : FD := ⟨60, Xud, F60_O, K8 k⟩
theorem Gd (k : Nat) : (Fu k).Ok Tryz.prog := ⟨fun x => Ab (Am .none _ _ _ _) Ah Tryz.func60 rfl rfl (Xw2 k _ _ _ some), .of (by kernel_rfl)⟩
abbrev Xwg (k : Nat) : Env := Bc Bv An .own [] k
abbrev Xij : List PA := [.one mI]
abbrev F278_O : RO := ⟨[.v], [mI]⟩
def Vh {β : Type} (RET : Int → Option β) (k : Nat) (v : Int) : Option β := cond (decide ((i64.wrap (16 - v)) < 0)) none (RET (i64.wrap (1 * 2 ^ (min (i64.wrap (16 - v)).toNat 64))))
def Yb := Vh (β := Int) some
theorem Xrt {β : Type} (k : Nat) (v : Int) (K : KT β) : Ag (Xwg k) Tryz.f278 (PsT.put Xij (v, ())) K = (Yb k v).bind fun r => K (F278_O.put r) :=
 Eq.trans (b := Vh (fun r => K (F278_O.put r)) k v) (by kernel_rfl) (by simp only [Yb, Vh, z1, z2, z3, z4, z5, z6, z7, z8])
def Xdr (k : Nat) : FD := ⟨278, Xij, F278_O, Yb k⟩
theorem Xnw (k : Nat) : (Xdr k).Ok Tryz.prog := ⟨fun x => Ab (Am .none _ _ _ _) Ah Tryz.func278 rfl rfl (Xrt k _ some), .of (by kernel_rfl)⟩
abbrev Xv0 (k : Nat) : Env := Bc (Az [Fu k, Xdr k]) An .own [] k
abbrev Xnh : List PA := [.agg m_2]
abbrev F222_O : RO := ⟨[.v], [mB]⟩
def Wt {β : Type} (RET : Bool → Option β) (k : Nat) (v : (den B6)) : Option β := Cv v fun v0 v1 v2 v3 => (K8 k v1 0 16).bind fun b1 => cond b1 ((K8 k v0 0 65535).bind fun b2 => cond b2 ((Yb k v1).bind fun b3 => cond (decide (b3 = 0)) none (cond ((v0.tmod b3) == 0) ((K8 k v2 0 65535).bind fun b4 => cond b4 ((K8 k v3 1 48).bind fun b5 => RET b5) (RET false)) (RET false))) (RET false)) (RET false)
def U2 := Wt (β := Bool) some
theorem Xp8 {β : Type} (k : Nat) (v : (den B6)) (K : KT β) : Ag (Xv0 k) Tryz.f222 (PsT.put Xnh (v, ())) K = (U2 k v).bind fun r => K (F222_O.put r) :=
 Eq.trans (b := Wt (fun r => K (F222_O.put r)) k v) (by kernel_rfl) (by simp only [U2, Wt, z1, z2, z3, z4, z5, z6, z7, z8, Cv])
def Wi (k : Nat) : FD := ⟨222, Xnh, F222_O, U2 k⟩
theorem Xaz (k : Nat) : (Wi k).Ok Tryz.prog := ⟨fun x => Ab (Am (Aj (.c (Gd k) (.c (Xnw k) .n))) _ _ _ _) Ah Tryz.func222 rfl rfl (Xp8 k _ some), .of (by kernel_rfl)⟩
def Xv3 : Nat → Hint
 | 0 => ⟨pl 0 1 (pl 3 1 []), []⟩
 | _ => ⟨[], []⟩
abbrev V5 (k : Nat) : Env := Bc (Az [Wi k]) Xv3 .own [] k
abbrev Xbn : List PA := [.one (.sl .ro B6)]
abbrev F202_O : RO := ⟨[.v], [mB]⟩
noncomputable def Xvv {β : Type} (k : Nat) (v : Ay) (K : KT β) : Ex → St → Option β := Br (V5 k) Tryz.f202 (PsT.put Xbn (v, ())) K
def Xqn (v : Ay) (x3_0 : Int) : St := ⟨(.one (.s .ro B6 v)) :: (.one .d) :: (.one .d) :: (.one (vI x3_0)) :: dz 59 [], []⟩
noncomputable def Oh {β : Type} (k : Nat) (v : Ay) (K : KT β) (n : Nat) (x3_0 : Int) : Option β := A3 (V5 k) Tryz.f202 [1, 0, 1, 0] 0 (Ai (V5 k) [1, 0, 1, 0] (Al Tryz.f202) 0 (Xvv k v K)) n (Xqn v x3_0)
def I9 {β : Type} (NX : Int → Option β) (RET : Bool → Option β) (k : Nat) (v : Ay) (x3_0 : Int) : Option β := cond (decide (x3_0 < (v.length : Int))) (A1 x3_0 v ((U2 k (Ap v x3_0)).bind fun b1 => cond (!b1) (RET false) (cond (decide (x3_0 > 0)) (A1 (i64.wrap (x3_0 - 1)) v (A1 x3_0 v (cond (decide ((Ap v (i64.wrap (x3_0 - 1))).2.1 > (Ap v x3_0).2.1)) (RET false) (A1 (i64.wrap (x3_0 - 1)) v (A1 x3_0 v (cond ((Ap v (i64.wrap (x3_0 - 1))).2.1 == (Ap v x3_0).2.1) (A1 (i64.wrap (x3_0 - 1)) v (A1 x3_0 v (cond (decide ((Ap v (i64.wrap (x3_0 - 1))).1 ≥ (Ap v x3_0).1)) (RET false) (NX (i64.wrap (x3_0 + 1)))))) (NX (i64.wrap (x3_0 + 1))))))))) (NX (i64.wrap (x3_0 + 1)))))) (RET (decide ((v.length : Int) ≤ 8)))
def I7 (k : Nat) (v : Ay) : Nat → Int → Option (Bool)
 | 0, _ => none
 | n + 1, x3_0 => I9 (I7 k v n) some k v x3_0
theorem Xa5 {β : Type} (k : Nat) (v : Ay) (K : KT β) (n : Nat) : ∀ (x3_0 : Int), Oh k v K n x3_0 =
  (I7 k v n x3_0).bind fun r => K (F202_O.put r) := by
 induction n with
 | zero => intros; rfl
 | succ n ih =>
  intro x3_0
  refine Eq.trans (b := I9 (Oh k v K n) (fun r => K (F202_O.put r)) k v x3_0) (by kernel_rfl) ?_
  rw [I7]
  simp only [I9, z1, z2, z3, z4, z5, z6, z7, z8, ih]
def Xac {β : Type} (LP0 : Int → Option β) (k : Nat) (v : Ay) : Option β := LP0 0
def F202 (k : Nat) (v : Ay) : Option (Bool) := Xac (I7 k v k) k v
theorem Xpp {β : Type} (k : Nat) (v : Ay) (K : KT β) : Ag (V5 k) Tryz.f202 (PsT.put Xbn (v, ())) K = (F202 k v).bind fun r => K (F202_O.put r) :=
 Eq.trans (b := Xac (Oh k v K k) k v) (by kernel_rfl) (by simp only [F202, Xac, z1, z2, z3, z4, z5, z6, z7, z8, Xa5])
def T8 (k : Nat) : FD := ⟨202, Xbn, F202_O, F202 k⟩
theorem Xa8 (k : Nat) : (T8 k).Ok Tryz.prog := ⟨fun x => Ab (Am (Aj (.c (Xaz k) .n)) _ _ _ _) Ah Tryz.func202 rfl rfl (Xpp k _ some), .of (by kernel_rfl)⟩
def X0o : Nat → Hint
 | 0 => ⟨pl 0 1 (pl 3 1 ((6, .own .own B6 []) :: (pl 7 2 []))), pl 3000 4 []⟩
 | _ => ⟨[], []⟩
abbrev Vq (k : Nat) : Env := Bc (Az [T8 k, Wi k]) X0o .own [] k
abbrev Xbg : List PA := [.one (.sl .ro B6), .agg m_2]
abbrev F143_O : RO := ⟨[.v, .v], [.sl .own B6, mB]⟩
noncomputable def Xz9 {β : Type} (k : Nat) (v : Ay) (w : (den B6)) (K : KT β) : Ex → St → Option β := Br (Vq k) Tryz.f143 (PsT.put Xbg (v, w, ())) K
def Xt7 (v : Ay) (w : (den B6)) (x7_0 : Bool) (x8_0 : Int) (m6900_0 : Ay) : St := ⟨(.one (.s .ro B6 v)) :: (.one .d) :: (.one .d) :: (.one (.ptr (.cell 3000) 4 0)) :: (.one .d) :: (.one .d) :: (.one (.a (.cell 6900) 0 0 none)) :: (.one (vB x7_0)) :: (.one (vI x8_0)) :: dz 76 [], A7 3000 (Ce m_2 w) [eM 6900 (.s .own B6 m6900_0)]⟩
noncomputable def Nr {β : Type} (k : Nat) (v : Ay) (w : (den B6)) (K : KT β) (n : Nat) (x7_0 : Bool) (x8_0 : Int) (m6900_0 : Ay) : Option β := A3 (Vq k) Tryz.f143 [1, 1, 1, 0, 1, 0] 0 (Ai (Vq k) [1, 1, 1, 0, 1, 0] (Al Tryz.f143) 0 (Xz9 k v w K)) n (Xt7 v w x7_0 x8_0 m6900_0)
def E2 {β : Type} (k : Nat) (v : Ay) (w : (den B6)) (NX : Bool → Int → Ay → Option β) (RET : (Ay × Bool) → Option β) (m6900_0 : Ay) (x8_0 : Int) : Option β := Cv w fun w0 w1 w2 w3 => Bh ((m6900_0 ++ [(w0, w1, w2, w3)]).length) ([(Ap v x8_0)].length) 32 (NX true (i64.wrap (x8_0 + 1)) ((m6900_0 ++ [(w0, w1, w2, w3)]) ++ [(Ap v x8_0)]))
def Ew {β : Type} (k : Nat) (v : Ay) (w : (den B6)) (NX : Bool → Int → Ay → Option β) (RET : (Ay × Bool) → Option β) (m6900_0 : Ay) (x8_0 : Int) : Option β := Cv w fun w0 w1 w2 w3 => Bh (m6900_0.length) ([(w0, w1, w2, w3)].length) 32 (cond ((Ap v x8_0).2.1 != w1) (E2 k v w NX RET m6900_0 x8_0) (cond ((Ap v x8_0).1 != w0) (E2 k v w NX RET m6900_0 x8_0) (NX true (i64.wrap (x8_0 + 1)) (m6900_0 ++ [(w0, w1, w2, w3)]))))
def Dh {β : Type} (k : Nat) (v : Ay) (w : (den B6)) (NX : Bool → Int → Ay → Option β) (RET : (Ay × Bool) → Option β) (x8_0 : Int) (m6900_0 : Ay) (x7_0 : Bool) : Option β := cond ((Ap v x8_0).2.1 != w.2.1) (Bh (m6900_0.length) ([(Ap v x8_0)].length) 32 (NX x7_0 (i64.wrap (x8_0 + 1)) (m6900_0 ++ [(Ap v x8_0)]))) (cond ((Ap v x8_0).1 != w.1) (Bh (m6900_0.length) ([(Ap v x8_0)].length) 32 (NX x7_0 (i64.wrap (x8_0 + 1)) (m6900_0 ++ [(Ap v x8_0)]))) (NX x7_0 (i64.wrap (x8_0 + 1)) m6900_0))
def Jg {β : Type} (NX : Bool → Int → Ay → Option β) (RET : (Ay × Bool) → Option β) (k : Nat) (v : Ay) (w : (den B6)) (x7_0 : Bool) (x8_0 : Int) (m6900_0 : Ay) : Option β := Cv w fun w0 w1 w2 w3 => cond (decide (x8_0 < (v.length : Int))) (A1 x8_0 v (cond (!x7_0) (cond (decide (w1 < (Ap v x8_0).2.1)) (Ew k v w NX RET m6900_0 x8_0) (cond (w1 == (Ap v x8_0).2.1) (cond (decide (w0 ≤ (Ap v x8_0).1)) (Ew k v w NX RET m6900_0 x8_0) (Dh k v w NX RET x8_0 m6900_0 x7_0)) (Dh k v w NX RET x8_0 m6900_0 x7_0))) (Dh k v w NX RET x8_0 m6900_0 x7_0))) (cond (!x7_0) (Bh (m6900_0.length) ([(w0, w1, w2, w3)].length) 32 ((F202 k v).bind fun b1 => cond (!b1) (RET ([], false)) ((U2 k w).bind fun b2 => cond (!b2) (RET ([], false)) (cond (decide (((m6900_0 ++ [(w0, w1, w2, w3)]).length : Int) > 8)) (RET ([], false)) (RET (m6900_0 ++ [(w0, w1, w2, w3)], true)))))) ((F202 k v).bind fun b3 => cond (!b3) (RET ([], false)) ((U2 k w).bind fun b4 => cond (!b4) (RET ([], false)) (cond (decide ((m6900_0.length : Int) > 8)) (RET ([], false)) (RET (m6900_0, true))))))
def D5 (k : Nat) (v : Ay) (w : (den B6)) : Nat → Bool → Int → Ay → Option (Ay × Bool)
 | 0, _, _, _ => none
 | n + 1, x7_0, x8_0, m6900_0 => Jg (D5 k v w n) some k v w x7_0 x8_0 m6900_0
theorem Xa9 {β : Type} (k : Nat) (v : Ay) (w : (den B6)) (K : KT β) (n : Nat) : ∀ (x7_0 : Bool) (x8_0 : Int) (m6900_0 : Ay), Nr k v w K n x7_0 x8_0 m6900_0 =
  (D5 k v w n x7_0 x8_0 m6900_0).bind fun r => K (F143_O.put r) := by
 induction n with
 | zero => intros; rfl
 | succ n ih =>
  intro x7_0 x8_0 m6900_0
  refine Eq.trans (b := Jg (Nr k v w K n) (fun r => K (F143_O.put r)) k v w x7_0 x8_0 m6900_0) (by kernel_rfl) ?_
  rw [D5]
  simp only [Jg, E2, Ew, Dh, z1, z2, z3, z4, z5, z6, z7, z8, Cv, ih]
def Xbw {β : Type} (LP0 : Bool → Int → Ay → Option β) (k : Nat) (v : Ay) (w : (den B6)) : Option β := LP0 false 0 []
def Vk (k : Nat) (v : Ay) (w : (den B6)) : Option (Ay × Bool) := Xbw (D5 k v w k) k v w
theorem Xr8 {β : Type} (k : Nat) (v : Ay) (w : (den B6)) (K : KT β) : Ag (Vq k) Tryz.f143 (PsT.put Xbg (v, w, ())) K = (Vk k v w).bind fun r => K (F143_O.put r) :=
 Eq.trans (b := Xbw (Nr k v w K k) k v w) (by kernel_rfl) (by simp only [Vk, Xbw, z1, z2, z3, z4, z5, z6, z7, z8, Cv, Xa9])
def Xnv (k : Nat) : FD := ⟨143, Xbg, F143_O, Vk k⟩
theorem Xy6 (k : Nat) : (Xnv k).Ok Tryz.prog := ⟨fun x => Ab (Am (Aj (.c (Xa8 k) (.c (Xaz k) .n))) _ _ _ _) Ah Tryz.func143 rfl rfl (Xr8 k _ _ some), .of (by kernel_rfl)⟩
abbrev X0c (k : Nat) : Env := Bc (Az [Ya k]) An .own [(false, 0), (false, 1)] k
abbrev Xl0 : List PA := [.p Yl, .one mI]
abbrev F144_O : RO := ⟨[.v], [mB, Yl]⟩
def U5 {β : Type} (RET : (Bool × (Aa × Int)) → Option β) (k : Nat) (v : (Aa × Int)) (w : Int) : Option β := cond (decide (w > 0)) ((K6 k v w).bind fun b1 => RET ((b1.1 == (i64.wrap (w - 1))), b1.2)) (RET (false, v))
def Xau := U5 (β := Bool × (Aa × Int)) some
theorem Xty {β : Type} (k : Nat) (v : (Aa × Int)) (w : Int) (K : KT β) : Ag (X0c k) Tryz.f144 (PsT.put Xl0 (v, w, ())) K = (Xau k v w).bind fun r => K (F144_O.put r) :=
 Eq.trans (b := U5 (fun r => K (F144_O.put r)) k v w) (by kernel_rfl) (by simp only [Xau, U5, z1, z2, z3, z4, z5, z6, z7, z8, u_0])
def Xmd (k : Nat) : FD := ⟨144, Xl0, F144_O, Xau k⟩
theorem Xxh (k : Nat) : (Xmd k).Ok Tryz.prog := ⟨fun x => Ab (Am (Aj (.c (Xdz k) .n)) _ _ _ _) Ah Tryz.func144 rfl rfl (Xty k _ _ some), .of (by kernel_rfl)⟩
def X3c : Nat → Hint
 | 0 => ⟨pl 0 2 (pl 5 1 ((6, .own .own sta []) :: (pl 7 1 []))), pl 0 2 []⟩
 | 2 => ⟨pl 0 2 (pl 5 5 []), pl 0 2 (pl 6900 1 (pl 8000 1 ((8001, .own .own B6 []) :: [])))⟩
 | _ => ⟨[], []⟩
abbrev Iw (k : Nat) : Env := Bc (Az [Ya k, Xnv k, Xmd k]) X3c .ro [(false, 0), (false, 1)] k
abbrev Xmc : List PA := [.p Yl, .one mI]
abbrev F70_O : RO := ⟨[.v], [.sl .ro sta, Yl]⟩
noncomputable def Xnd {β : Type} (k : Nat) (v : (Aa × Int)) (w : Int) (K : KT β) : Ex → St → Option β := Br (Iw k) Tryz.f70 (PsT.put Xmc (v, w, ())) K
def Xv7 (v : (Aa × Int)) (w : Int) (x5_2 x7_2 x9_2 : Int) (m0_2 : (Aa × Int)) (m6900_2 : Af) (m8000_2 : (den sta)) : St := ⟨(.one (.ptr (.cell 0) 2 0)) :: (.one (vI w)) :: dz 3 ((.one (vI x5_2)) :: (.one (.a (.cell 6900) 0 0 none)) :: (.one (vI x7_2)) :: (.one (.ptr (.cell 8000) 2 0)) :: (.one (vI x9_2)) :: dz 87 []), A7 0 (Ce Yl m0_2) ((eM 6900 (.s .own sta m6900_2)) :: A7 8000 (Ce (.pair mI (.sl .own B6)) m8000_2) [])⟩
noncomputable def Rg {β : Type} (k : Nat) (v : (Aa × Int)) (w : Int) (KK : Ex → St → Option β) (n : Nat) (x5_2 x7_2 x9_2 : Int) (m0_2 : (Aa × Int)) (m6900_2 : Af) (m8000_2 : (den sta)) : Option β := A3 (Iw k) Tryz.f70 [1, 1, 1, 0, 1, 0, 0, 1, 0, 0, 1, 0, 1, 0] 2 KK n (Xv7 v w x5_2 x7_2 x9_2 m0_2 m6900_2 m8000_2)
def F8 {β : Type} (k : Nat) (v : (Aa × Int)) (w : Int) (NX : Int → Int → Int → (Aa × Int) → Af → (den sta) → Option β) (EX0 : (Int × Int × Int × (Aa × Int) × Af × (den sta)) → Option β) (b3 : Int × (Aa × Int)) (x5_2 : Int) (m8000_2 : (den sta)) (x9_2 x7_2 : Int) (m6900_2 : Af) : Option β := (K6 k b3.2 (i64.wrap (x5_2 + 1))).bind fun b4 => (K6 k b4.2 4).bind fun b5 => (Vk k m8000_2.2 (i64.wrap (10 + x9_2), 16, i64.wrap (10 + b4.1), i64.wrap (3 + (i64.wrap (b5.1 * 4))))).bind fun b6 => NX x5_2 x7_2 (i64.wrap (x9_2 + 1)) b5.2 m6900_2 (m8000_2.1, b6.1)
def Lk {β : Type} (NX : Int → Int → Int → (Aa × Int) → Af → (den sta) → Option β) (EX0 : (Int × Int × Int × (Aa × Int) × Af × (den sta)) → Option β) (k : Nat) (v : (Aa × Int)) (w : Int) (x5_2 x7_2 x9_2 : Int) (m0_2 : (Aa × Int)) (m6900_2 : Af) (m8000_2 : (den sta)) : Option β := cond (decide (x9_2 < x5_2)) (cond (x9_2 != x7_2) ((K6 k m0_2 12).bind fun b2 => cond (decide (b2.1 > 0)) (cond (decide (x9_2 < x7_2)) ((K6 k b2.2 20).bind fun b3 => cond (b3.1 == 0) (F8 k v w NX EX0 b3 x5_2 m8000_2 x9_2 x7_2 m6900_2) ((K6 k b3.2 4).bind fun b7 => (Vk k m8000_2.2 (i64.wrap (10 + x9_2), 16, i64.wrap ((i64.wrap (10 + x7_2)) - 1), i64.wrap (3 + (i64.wrap (b7.1 * 4))))).bind fun b8 => NX x5_2 x7_2 (i64.wrap (x9_2 + 1)) b7.2 m6900_2 (m8000_2.1, b8.1))) ((K6 k b2.2 20).bind fun b9 => cond (b9.1 == 0) (F8 k v w NX EX0 b9 x5_2 m8000_2 x9_2 x7_2 m6900_2) ((K6 k b9.2 4).bind fun b13 => (Vk k m8000_2.2 (i64.wrap (10 + x9_2), 16, i64.wrap ((i64.wrap (10 + x7_2)) + 1), i64.wrap (3 + (i64.wrap (b13.1 * 4))))).bind fun b14 => NX x5_2 x7_2 (i64.wrap (x9_2 + 1)) b13.2 m6900_2 (m8000_2.1, b14.1)))) (NX x5_2 x7_2 (i64.wrap (x9_2 + 1)) b2.2 m6900_2 m8000_2)) (NX x5_2 x7_2 (i64.wrap (x9_2 + 1)) m0_2 m6900_2 m8000_2)) (EX0 (x5_2, x7_2, x9_2, m0_2, m6900_2, m8000_2))
def Ip (k : Nat) (v : (Aa × Int)) (w : Int) : Nat → Int → Int → Int → (Aa × Int) → Af → (den sta) → Option ((Int × Int × Int × (Aa × Int) × Af × (den sta)))
 | 0, _, _, _, _, _, _ => none
 | n + 1, x5_2, x7_2, x9_2, m0_2, m6900_2, m8000_2 => Lk (Ip k v w n) (fun y2 => some y2) k v w x5_2 x7_2 x9_2 m0_2 m6900_2 m8000_2
theorem Xhs {β : Type} (k : Nat) (v : (Aa × Int)) (w : Int) (KK : Ex → St → Option β) (n : Nat) : ∀ (x5_2 x7_2 x9_2 : Int) (m0_2 : (Aa × Int)) (m6900_2 : Af) (m8000_2 : (den sta)), Rg k v w KK n x5_2 x7_2 x9_2 m0_2 m6900_2 m8000_2 =
  (Ip k v w n x5_2 x7_2 x9_2 m0_2 m6900_2 m8000_2).bind fun y2 => KK (.exit 2) ⟨(.one (.ptr (.cell 0) 2 0)) :: (.one (vI w)) :: dz 3 ((.one (vI y2.1)) :: (.one (.a (.cell 6900) 0 0 none)) :: (.one (vI y2.2.1)) :: (.one (.ptr (.cell 8000) 2 0)) :: (.one (vI y2.2.2.1)) :: dz 13 ((.one (vI y2.2.2.1)) :: (.one (vI y2.1)) :: (.one (vB false)) :: dz 71 [])), A7 0 (Ce Yl y2.2.2.2.1) ((eM 6900 (.s .own sta y2.2.2.2.2.1)) :: A7 8000 (Ce (.pair mI (.sl .own B6)) y2.2.2.2.2.2) [])⟩ := by
 induction n with
 | zero => intros; rfl
 | succ n ih =>
  intro x5_2 x7_2 x9_2 m0_2 m6900_2 m8000_2
  refine Eq.trans (b := Lk (Rg k v w KK n) (fun y2 => KK (.exit 2) ⟨(.one (.ptr (.cell 0) 2 0)) :: (.one (vI w)) :: dz 3 ((.one (vI y2.1)) :: (.one (.a (.cell 6900) 0 0 none)) :: (.one (vI y2.2.1)) :: (.one (.ptr (.cell 8000) 2 0)) :: (.one (vI y2.2.2.1)) :: dz 13 ((.one (vI y2.2.2.1)) :: (.one (vI y2.1)) :: (.one (vB false)) :: dz 71 [])), A7 0 (Ce Yl y2.2.2.2.1) ((eM 6900 (.s .own sta y2.2.2.2.2.1)) :: A7 8000 (Ce (.pair mI (.sl .own B6)) y2.2.2.2.2.2) [])⟩) k v w x5_2 x7_2 x9_2 m0_2 m6900_2 m8000_2) (by kernel_rfl) ?_
  rw [Ip]
  simp only [Lk, F8, z1, z2, z3, z4, z5, z6, z7, z8, u_0, ih]
def Xx6 (v : (Aa × Int)) (w : Int) (x5_0 x7_0 : Int) (m0_0 : (Aa × Int)) (m6900_0 : Af) : St := ⟨(.one (.ptr (.cell 0) 2 0)) :: (.one (vI w)) :: dz 3 ((.one (vI x5_0)) :: (.one (.a (.cell 6900) 0 0 none)) :: (.one (vI x7_0)) :: dz 89 []), A7 0 (Ce Yl m0_0) [eM 6900 (.s .own sta m6900_0)]⟩
noncomputable def Mf {β : Type} (k : Nat) (v : (Aa × Int)) (w : Int) (K : KT β) (n : Nat) (x5_0 x7_0 : Int) (m0_0 : (Aa × Int)) (m6900_0 : Af) : Option β := A3 (Iw k) Tryz.f70 [1, 1, 1, 0, 1, 0] 0 (Ai (Iw k) [1, 1, 1, 0, 1, 0] (Al Tryz.f70) 0 (Xnd k v w K)) n (Xx6 v w x5_0 x7_0 m0_0 m6900_0)
def I0 (k : Nat) (v : (Aa × Int)) (w : Int) : Nat → Int → Int → (Aa × Int) → Af → Option (Af × (Aa × Int))
 | 0, _, _, _, _ => none
 | n + 1, x5_0, x7_0, m0_0, m6900_0 => cond (decide (x7_0 < x5_0)) ((Ip k v w k x5_0 x7_0 0 m0_0 m6900_0 (i64.wrap (10 + x7_0), [])).bind fun y2 => (K6 k y2.2.2.2.1 4).bind fun b15 => cond (b15.1 == 0) ((K6 k b15.2 y2.1).bind fun b16 => (Vk k y2.2.2.2.2.2.2 (0, 0, i64.wrap (10 + b16.1), 8)).bind fun b17 => Bh (y2.2.2.2.2.1.length) ([(y2.2.2.2.2.2.1, b17.1)].length) 32 (I0 k v w n y2.1 (i64.wrap (y2.2.1 + 1)) b16.2 (y2.2.2.2.2.1 ++ [(y2.2.2.2.2.2.1, b17.1)]))) (Bh (y2.2.2.2.2.1.length) ([y2.2.2.2.2.2].length) 32 (I0 k v w n y2.1 (i64.wrap (y2.2.1 + 1)) b15.2 (y2.2.2.2.2.1 ++ [y2.2.2.2.2.2])))) ((Xau k m0_0 w).bind fun b18 => cond b18.1 (cond (decide (0 < (m6900_0.length : Int))) (Bh (m6900_0.length) ([(Ap m6900_0 0)].length) 32 (some (m6900_0 ++ [(Ap m6900_0 0)], b18.2))) none) (some (m6900_0, b18.2)))
theorem Yq {β : Type} (k n : Nat) (v : (Aa × Int)) (w : Int) (y2 : Int × Int × Int × (Aa × Int) × Af × (den sta)) (K : KT β) :
  (Ai (Iw k) [1, 0, 0, 1, 0, 1, 0] (Bo [1, 1, 1, 0, 1, 0, 0] (Al Tryz.f70)) 0 (Dx (Iw k) Tryz.f70 [1, 1, 1, 0, 1, 0] 0 (Ai (Iw k) [1, 1, 1, 0, 1, 0] (Al Tryz.f70) 0 (Xnd k v w K)) n)) (.exit 2) ⟨(.one (.ptr (.cell 0) 2 0)) :: (.one (vI w)) :: dz 3 ((.one (vI y2.1)) :: (.one (.a (.cell 6900) 0 0 none)) :: (.one (vI y2.2.1)) :: (.one (.ptr (.cell 8000) 2 0)) :: (.one (vI y2.2.2.1)) :: dz 13 ((.one (vI y2.2.2.1)) :: (.one (vI y2.1)) :: (.one (vB false)) :: dz 71 [])), A7 0 (Ce Yl y2.2.2.2.1) ((eM 6900 (.s .own sta y2.2.2.2.2.1)) :: A7 8000 (Ce (.pair mI (.sl .own B6)) y2.2.2.2.2.2) [])⟩ =
  (K6 k y2.2.2.2.1 4).bind fun b15 => cond (b15.1 == 0) ((K6 k b15.2 y2.1).bind fun b16 => (Vk k y2.2.2.2.2.2.2 (0, 0, i64.wrap (10 + b16.1), 8)).bind fun b17 => Bh (y2.2.2.2.2.1.length) ([(y2.2.2.2.2.2.1, b17.1)].length) 32 (Mf k v w K n y2.1 (i64.wrap (y2.2.1 + 1)) b16.2 (y2.2.2.2.2.1 ++ [(y2.2.2.2.2.2.1, b17.1)]))) (Bh (y2.2.2.2.2.1.length) ([y2.2.2.2.2.2].length) 32 (Mf k v w K n y2.1 (i64.wrap (y2.2.1 + 1)) b15.2 (y2.2.2.2.2.1 ++ [y2.2.2.2.2.2]))) := by kernel_rfl
theorem Xib {β : Type} (k : Nat) (v : (Aa × Int)) (w : Int) (K : KT β) (n : Nat) : ∀ (x5_0 x7_0 : Int) (m0_0 : (Aa × Int)) (m6900_0 : Af), Mf k v w K n x5_0 x7_0 m0_0 m6900_0 =
  (I0 k v w n x5_0 x7_0 m0_0 m6900_0).bind fun r => K (F70_O.put r) := by
 induction n with
 | zero => intros; rfl
 | succ n ih =>
  intro x5_0 x7_0 m0_0 m6900_0
  refine Eq.trans (b := cond (decide (x7_0 < x5_0)) (Rg k v w (Ai (Iw k) [1, 0, 0, 1, 0, 1, 0] (Bo [1, 1, 1, 0, 1, 0, 0] (Al Tryz.f70)) 0 (Dx (Iw k) Tryz.f70 [1, 1, 1, 0, 1, 0] 0 (Ai (Iw k) [1, 1, 1, 0, 1, 0] (Al Tryz.f70) 0 (Xnd k v w K)) n)) k x5_0 x7_0 0 m0_0 m6900_0 (i64.wrap (10 + x7_0), [])) ((Xau k m0_0 w).bind fun b18 => cond b18.1 (cond (decide (0 < (m6900_0.length : Int))) (Bh (m6900_0.length) ([(Ap m6900_0 0)].length) 32 (K (F70_O.put (m6900_0 ++ [(Ap m6900_0 0)], b18.2)))) none) (K (F70_O.put (m6900_0, b18.2))))) (by kernel_rfl) ?_
  rw [I0]
  simp only [z1, z2, z3, z4, z5, z6, z7, z8, u_0, Xhs, Yq k n v w _ K, ih, A1, Bh]
def Xfh {β : Type} (LP0 : Int → Int → (Aa × Int) → Af → Option β) (k : Nat) (v : (Aa × Int)) (w : Int) : Option β := (K6 k v 5).bind fun b1 => LP0 (i64.wrap (1 + b1.1)) 0 b1.2 []
def F70 (k : Nat) (v : (Aa × Int)) (w : Int) : Option (Af × (Aa × Int)) := Xfh (I0 k v w k) k v w
theorem Xxz {β : Type} (k : Nat) (v : (Aa × Int)) (w : Int) (K : KT β) : Ag (Iw k) Tryz.f70 (PsT.put Xmc (v, w, ())) K = (F70 k v w).bind fun r => K (F70_O.put r) :=
 Eq.trans (b := Xfh (Mf k v w K k) k v w) (by kernel_rfl) (by simp only [F70, Xfh, z1, z2, z3, z4, z5, z6, z7, z8, u_0, Xib])
def Xur (k : Nat) : FD := ⟨70, Xmc, F70_O, F70 k⟩
theorem X29 (k : Nat) : (Xur k).Ok Tryz.prog := ⟨fun x => Ab (Am (Aj (.c (Xdz k) (.c (Xy6 k) (.c (Xxh k) .n)))) _ _ _ _) Ah Tryz.func70 rfl rfl (Xxz k _ _ some), .of (by kernel_rfl)⟩
def X3i : Nat → Hint
 | 0 => ⟨pl 0 2 ((5, .own .own (.int .u8) []) :: []), pl 0 2 []⟩
 | _ => ⟨[], []⟩
abbrev Xe7 (k : Nat) : Env := Bc (Az [Ya k]) X3i .own [(false, 0), (false, 1)] k
abbrev Xo9 : List PA := [.p Yl, .one mI]
abbrev F72_O : RO := ⟨[.v], [.sl .own (.int .u8), Yl]⟩
noncomputable def X3m {β : Type} (k : Nat) (v : (Aa × Int)) (w : Int) (K : KT β) : Ex → St → Option β := Br (Xe7 k) Tryz.f72 (PsT.put Xo9 (v, w, ())) K
def Xyi (v : (Aa × Int)) (w : Int) (x1_0 : Int) (m0_0 : (Aa × Int)) (m5900_0 : Aa) : St := ⟨(.one (.ptr (.cell 0) 2 0)) :: (.one (vI x1_0)) :: dz 3 ((.one (.a (.cell 5900) 0 0 none)) :: dz 22 []), A7 0 (Ce Yl m0_0) [eM 5900 (.s .own (.int .u8) m5900_0)]⟩
noncomputable def Rc {β : Type} (k : Nat) (v : (Aa × Int)) (w : Int) (K : KT β) (n : Nat) (x1_0 : Int) (m0_0 : (Aa × Int)) (m5900_0 : Aa) : Option β := A3 (Xe7 k) Tryz.f72 [1, 1, 0, 0] 0 (Ai (Xe7 k) [1, 1, 0, 0] (Al Tryz.f72) 0 (X3m k v w K)) n (Xyi v w x1_0 m0_0 m5900_0)
def Gi {β : Type} (NX : Int → (Aa × Int) → Aa → Option β) (RET : (Aa × (Aa × Int)) → Option β) (k : Nat) (v : (Aa × Int)) (w : Int) (x1_0 : Int) (m0_0 : (Aa × Int)) (m5900_0 : Aa) : Option β := cond (decide (x1_0 > 0)) ((K6 k m0_0 3).bind fun b1 => cond (b1.1 == 0) ((K6 k b1.2 256).bind fun b2 => Bh (m5900_0.length) ([u8.wrap b2.1].length) 1 (NX (i64.wrap (x1_0 - 1)) b2.2 (m5900_0 ++ [u8.wrap b2.1]))) ((K6 k b1.2 3).bind fun b3 => Bh (m5900_0.length) ([u8.wrap (i64.wrap (b3.1 + 97))].length) 1 (NX (i64.wrap (x1_0 - 1)) b3.2 (m5900_0 ++ [u8.wrap (i64.wrap (b3.1 + 97))])))) (RET (m5900_0, m0_0))
def E5 (k : Nat) (v : (Aa × Int)) (w : Int) : Nat → Int → (Aa × Int) → Aa → Option (Aa × (Aa × Int))
 | 0, _, _, _ => none
 | n + 1, x1_0, m0_0, m5900_0 => Gi (E5 k v w n) some k v w x1_0 m0_0 m5900_0
theorem Xg9 {β : Type} (k : Nat) (v : (Aa × Int)) (w : Int) (K : KT β) (n : Nat) : ∀ (x1_0 : Int) (m0_0 : (Aa × Int)) (m5900_0 : Aa), Rc k v w K n x1_0 m0_0 m5900_0 =
  (E5 k v w n x1_0 m0_0 m5900_0).bind fun r => K (F72_O.put r) := by
 induction n with
 | zero => intros; rfl
 | succ n ih =>
  intro x1_0 m0_0 m5900_0
  refine Eq.trans (b := Gi (Rc k v w K n) (fun r => K (F72_O.put r)) k v w x1_0 m0_0 m5900_0) (by kernel_rfl) ?_
  rw [E5]
  simp only [Gi, z1, z2, z3, z4, z5, z6, z7, z8, u_0, ih]
def Xny {β : Type} (LP0 : Int → (Aa × Int) → Aa → Option β) (k : Nat) (v : (Aa × Int)) (w : Int) : Option β := LP0 w v []
def F72 (k : Nat) (v : (Aa × Int)) (w : Int) : Option (Aa × (Aa × Int)) := Xny (E5 k v w k) k v w
theorem X1r {β : Type} (k : Nat) (v : (Aa × Int)) (w : Int) (K : KT β) : Ag (Xe7 k) Tryz.f72 (PsT.put Xo9 (v, w, ())) K = (F72 k v w).bind fun r => K (F72_O.put r) :=
 Eq.trans (b := Xny (Rc k v w K k) k v w) (by kernel_rfl) (by simp only [F72, Xny, z1, z2, z3, z4, z5, z6, z7, z8, u_0, Xg9])
def Xuz (k : Nat) : FD := ⟨72, Xo9, F72_O, F72 k⟩
theorem X3p (k : Nat) : (Xuz k).Ok Tryz.prog := ⟨fun x => Ab (Am (Aj (.c (Xdz k) .n)) _ _ _ _) Ah Tryz.func72 rfl rfl (X1r k _ _ some), .of (by kernel_rfl)⟩
abbrev X28 (k : Nat) : Env := Bc (Az [Xuq k, Xur k, Ya k, Xuz k]) An .own [] k
abbrev Xvj : Type := Af × Int × Int × Int × Int × Aa
abbrev Xu1 : List PA := [.one (.sl .ro (.int .u8))]
abbrev F22_O : RO := ⟨[.v, .v, .v, .v, .v, .v], [.sl .ro sta, mI, mI, mI, mI, .sl .own (.int .u8)]⟩
def Xet {β : Type} (RET : Xvj → Option β) (k : Nat) (v : Aa) : Option β := (F69 k v).bind fun b1 => (F70 k b1 20).bind fun b2 => (K6 k b2.2 (i64.wrap ((b2.1.length : Int) + 1))).bind fun b3 => (K6 k b3.2 20).bind fun b4 => (K6 k b4.2 6).bind fun b5 => (K6 k b5.2 4).bind fun b6 => (K6 k b6.2 9).bind fun b7 => (K6 k b7.2 50).bind fun b8 => (F72 k b8.2 b8.1).bind fun b9 => RET (b2.1, i64.wrap (b3.1 - (i64.wrap (b4.1.tdiv 19))), i64.wrap (10 + b5.1), b6.1, b7.1, b9.1)
def F22 := Xet (β := Xvj) some
theorem X0m {β : Type} (k : Nat) (v : Aa) (K : KT β) : Ag (X28 k) Tryz.f22 (PsT.put Xu1 (v, ())) K = (F22 k v).bind fun r => K (F22_O.put r) :=
 Eq.trans (b := Xet (fun r => K (F22_O.put r)) k v) (by kernel_rfl) (by simp only [F22, Xet, z1, z2, z3, z4, z5, z6, z7, z8])
def Xug (k : Nat) : FD := ⟨22, Xu1, F22_O, F22 k⟩
theorem X3v (k : Nat) : (Xug k).Ok Tryz.prog := ⟨fun x => Ab (Am (Aj (.c (X2n k) (.c (X29 k) (.c (Xdz k) (.c (X3p k) .n))))) _ _ _ _) Ah Tryz.func22 rfl rfl (X0m k _ some), .of (by kernel_rfl)⟩
abbrev Xz0 (k : Nat) : Env := Bc (Az [Fu k, T8 k]) An .own [] k
abbrev Xnu : List PA := [.agg (.pair mI (.sl .ro B6))]
abbrev F129_O : RO := ⟨[.v], [mB]⟩
def F129 (k : Nat) (v : (den sta)) : Option (Bool) := (K8 k v.1 0 65535).bind fun b1 => cond b1 ((F202 k v.2).bind fun b2 => some b2) (some false)
theorem Xqa {β : Type} (k : Nat) (v : (den sta)) (K : KT β) : Ag (Xz0 k) Tryz.f129 (PsT.put Xnu (v, ())) K = (F129 k v).bind fun r => K (F129_O.put r) :=
 Eq.trans (b := (K8 k v.1 0 65535).bind fun b1 => cond b1 ((F202 k v.2).bind fun b2 => K (F129_O.put b2)) (K (F129_O.put false))) (by kernel_rfl) (by simp only [F129, z1, z2, z3, z4, z5, z6, z7, z8])
def Xb1 (k : Nat) : FD := ⟨129, Xnu, F129_O, F129 k⟩
theorem Xkx (k : Nat) : (Xb1 k).Ok Tryz.prog := ⟨fun x => Ab (Am (Aj (.c (Gd k) (.c (Xa8 k) .n))) _ _ _ _) Ah Tryz.func129 rfl rfl (Xqa k _ some), .of (by kernel_rfl)⟩
end
end Go.Proofs.YtdmepjjepogddaaGreat.Gn
end

section
set_option linter.unusedVariables false
set_option linter.unusedSimpArgs false
namespace Go.Proofs.YtdmepjjepogddaaGreat.Gn
open Go.Rf IntKind
noncomputable section
def X3n : Nat → Hint
 | 0 => ⟨pl 0 1 (pl 3 1 []), []⟩
 | 2 => ⟨pl 0 1 (pl 3 2 []), []⟩
 | _ => ⟨[], []⟩
abbrev Fd (k : Nat) : Env := Bc (Az [Xb1 k]) X3n .own [] k
abbrev Xk2 : List PA := [.one (.sl .ro sta)]
abbrev F59_O : RO := ⟨[.v], [mB]⟩
noncomputable def Xe5 {β : Type} (k : Nat) (v : Af) (K : KT β) : Ex → St → Option β := Br (Fd k) Tryz.f59 (PsT.put Xk2 (v, ())) K
def Xy5 (v : Af) (x3_2 x4_2 : Int) : St := ⟨(.one (.s .ro sta v)) :: (.one .d) :: (.one .d) :: (.one (vI x3_2)) :: (.one (vI x4_2)) :: dz 31 [], []⟩
noncomputable def Ru {β : Type} (k : Nat) (v : Af) (KK : Ex → St → Option β) (n : Nat) (x3_2 x4_2 : Int) : Option β := A3 (Fd k) Tryz.f59 [1, 0, 1, 0, 0, 1, 0, 0, 1, 1, 0] 2 KK n (Xy5 v x3_2 x4_2)
def Lt {β : Type} (NX : Int → Int → Option β) (EX0 : (Int × Int) → Option β) (EX1 : (Int × Int) → Option β) (k : Nat) (v : Af) (x3_2 x4_2 : Int) : Option β := cond (decide (x4_2 < x3_2)) (A1 x4_2 v (A1 x3_2 v (cond ((Ap v x4_2).1 == (Ap v x3_2).1) (EX0 (x3_2, x4_2)) (NX x3_2 (i64.wrap (x4_2 + 1)))))) (EX1 (x3_2, x4_2))
def Ko (k : Nat) (v : Af) : Nat → Int → Int → Option ((Sum (Int × Int) (Int × Int)))
 | 0, _, _ => none
 | n + 1, x3_2, x4_2 => Lt (Ko k v n) (fun y2 => some (.inl y2)) (fun y2 => some (.inr y2)) k v x3_2 x4_2
theorem Xhk {β : Type} (k : Nat) (v : Af) (KK : Ex → St → Option β) (n : Nat) : ∀ (x3_2 x4_2 : Int), Ru k v KK n x3_2 x4_2 =
  (Ko k v n x3_2 x4_2).bind fun z => Y2 (fun y2 => KK .ret ⟨(.one (.s .ro sta v)) :: (.one .d) :: (.one (vB false)) :: (.one (vI y2.1)) :: (.one (vI y2.2)) :: dz 12 ((.one (vI y2.2)) :: (.one (vI y2.1)) :: (.one (vB true)) :: (.one .d) :: (.one .d) :: (.one (.s .ro sta v)) :: (.one (vI y2.2)) :: (.one (.ptr (.elem 24000 y2.2.toNat 0) 2 0)) :: (.one (.ptr (.elem 24000 y2.2.toNat 0) 2 0)) :: (.one (vI (Ap v y2.2).1)) :: (.one (.s .ro sta v)) :: (.one (vI y2.1)) :: (.one (.ptr (.elem 29000 y2.1.toNat 0) 2 0)) :: (.one (.ptr (.elem 29000 y2.1.toNat 0) 2 0)) :: (.one (vI (Ap v y2.1).1)) :: (.one (vB true)) :: dz 3 []), [eM 24000 (.s .ro sta v), eM 29000 (.s .ro sta v)]⟩) (fun y2 => KK (.exit 2) ⟨(.one (.s .ro sta v)) :: (.one .d) :: (.one .d) :: (.one (vI y2.1)) :: (.one (vI y2.2)) :: dz 12 ((.one (vI y2.2)) :: (.one (vI y2.1)) :: (.one (vB false)) :: dz 16 []), []⟩) z := by
 induction n with
 | zero => intros; rfl
 | succ n ih =>
  intro x3_2 x4_2
  refine Eq.trans (b := Lt (Ru k v KK n) (fun y2 => KK .ret ⟨(.one (.s .ro sta v)) :: (.one .d) :: (.one (vB false)) :: (.one (vI y2.1)) :: (.one (vI y2.2)) :: dz 12 ((.one (vI y2.2)) :: (.one (vI y2.1)) :: (.one (vB true)) :: (.one .d) :: (.one .d) :: (.one (.s .ro sta v)) :: (.one (vI y2.2)) :: (.one (.ptr (.elem 24000 y2.2.toNat 0) 2 0)) :: (.one (.ptr (.elem 24000 y2.2.toNat 0) 2 0)) :: (.one (vI (Ap v y2.2).1)) :: (.one (.s .ro sta v)) :: (.one (vI y2.1)) :: (.one (.ptr (.elem 29000 y2.1.toNat 0) 2 0)) :: (.one (.ptr (.elem 29000 y2.1.toNat 0) 2 0)) :: (.one (vI (Ap v y2.1).1)) :: (.one (vB true)) :: dz 3 []), [eM 24000 (.s .ro sta v), eM 29000 (.s .ro sta v)]⟩) (fun y2 => KK (.exit 2) ⟨(.one (.s .ro sta v)) :: (.one .d) :: (.one .d) :: (.one (vI y2.1)) :: (.one (vI y2.2)) :: dz 12 ((.one (vI y2.2)) :: (.one (vI y2.1)) :: (.one (vB false)) :: dz 16 []), []⟩) k v x3_2 x4_2) (by kernel_rfl) ?_
  rw [Ko]
  simp only [Lt, z1, z2, z3, z4, z5, z6, z7, z8, ih]
def X0y (v : Af) (x3_0 : Int) : St := ⟨(.one (.s .ro sta v)) :: (.one .d) :: (.one .d) :: (.one (vI x3_0)) :: dz 32 [], []⟩
noncomputable def P9 {β : Type} (k : Nat) (v : Af) (K : KT β) (n : Nat) (x3_0 : Int) : Option β := A3 (Fd k) Tryz.f59 [1, 0, 1, 0] 0 (Ai (Fd k) [1, 0, 1, 0] (Al Tryz.f59) 0 (Xe5 k v K)) n (X0y v x3_0)
def Kv (k : Nat) (v : Af) : Nat → Int → Option (Bool)
 | 0, _ => none
 | n + 1, x3_0 => cond (decide (x3_0 < (v.length : Int))) (A1 x3_0 v ((F129 k (Ap v x3_0)).bind fun b1 => cond (!b1) (some false) ((Ko k v k x3_0 0).bind fun z2 => Y2 (fun y2 => some false) (fun y2 => Kv k v n (i64.wrap (y2.1 + 1))) z2))) (some (decide ((v.length : Int) ≤ 5)))
theorem Zq {β : Type} (k n : Nat) (v : Af) (y2 : Int × Int) (K : KT β) :
  (Ai (Fd k) [1, 0, 0, 1, 1, 0] (Bo [1, 0, 1, 0, 0] (Al Tryz.f59)) 0 (Dx (Fd k) Tryz.f59 [1, 0, 1, 0] 0 (Ai (Fd k) [1, 0, 1, 0] (Al Tryz.f59) 0 (Xe5 k v K)) n)) .ret ⟨(.one (.s .ro sta v)) :: (.one .d) :: (.one (vB false)) :: (.one (vI y2.1)) :: (.one (vI y2.2)) :: dz 12 ((.one (vI y2.2)) :: (.one (vI y2.1)) :: (.one (vB true)) :: (.one .d) :: (.one .d) :: (.one (.s .ro sta v)) :: (.one (vI y2.2)) :: (.one (.ptr (.elem 24000 y2.2.toNat 0) 2 0)) :: (.one (.ptr (.elem 24000 y2.2.toNat 0) 2 0)) :: (.one (vI (Ap v y2.2).1)) :: (.one (.s .ro sta v)) :: (.one (vI y2.1)) :: (.one (.ptr (.elem 29000 y2.1.toNat 0) 2 0)) :: (.one (.ptr (.elem 29000 y2.1.toNat 0) 2 0)) :: (.one (vI (Ap v y2.1).1)) :: (.one (vB true)) :: dz 3 []), [eM 24000 (.s .ro sta v), eM 29000 (.s .ro sta v)]⟩ =
  K (F59_O.put false) := by kernel_rfl
theorem Ze {β : Type} (k n : Nat) (v : Af) (y2 : Int × Int) (K : KT β) :
  (Ai (Fd k) [1, 0, 0, 1, 1, 0] (Bo [1, 0, 1, 0, 0] (Al Tryz.f59)) 0 (Dx (Fd k) Tryz.f59 [1, 0, 1, 0] 0 (Ai (Fd k) [1, 0, 1, 0] (Al Tryz.f59) 0 (Xe5 k v K)) n)) (.exit 2) ⟨(.one (.s .ro sta v)) :: (.one .d) :: (.one .d) :: (.one (vI y2.1)) :: (.one (vI y2.2)) :: dz 12 ((.one (vI y2.2)) :: (.one (vI y2.1)) :: (.one (vB false)) :: dz 16 []), []⟩ =
  P9 k v K n (i64.wrap (y2.1 + 1)) := by kernel_rfl
theorem Xf4 {β : Type} (k : Nat) (v : Af) (K : KT β) (n : Nat) : ∀ (x3_0 : Int), P9 k v K n x3_0 =
  (Kv k v n x3_0).bind fun r => K (F59_O.put r) := by
 induction n with
 | zero => intros; rfl
 | succ n ih =>
  intro x3_0
  refine Eq.trans (b := cond (decide (x3_0 < (v.length : Int))) (A1 x3_0 v ((F129 k (Ap v x3_0)).bind fun b1 => cond (!b1) (K (F59_O.put false)) (Ru k v (Ai (Fd k) [1, 0, 0, 1, 1, 0] (Bo [1, 0, 1, 0, 0] (Al Tryz.f59)) 0 (Dx (Fd k) Tryz.f59 [1, 0, 1, 0] 0 (Ai (Fd k) [1, 0, 1, 0] (Al Tryz.f59) 0 (Xe5 k v K)) n)) k x3_0 0))) (K (F59_O.put (decide ((v.length : Int) ≤ 5))))) (by kernel_rfl) ?_
  rw [Kv]
  simp only [z1, z2, z3, z4, z5, z6, z7, z8, Xhk, Zq k n v _ K, Ze k n v _ K, ih, A1, Bh]
def Xod {β : Type} (LP0 : Int → Option β) (k : Nat) (v : Af) : Option β := LP0 0
def F59 (k : Nat) (v : Af) : Option (Bool) := Xod (Kv k v k) k v
theorem Xxy {β : Type} (k : Nat) (v : Af) (K : KT β) : Ag (Fd k) Tryz.f59 (PsT.put Xk2 (v, ())) K = (F59 k v).bind fun r => K (F59_O.put r) :=
 Eq.trans (b := Xod (P9 k v K k) k v) (by kernel_rfl) (by simp only [F59, Xod, z1, z2, z3, z4, z5, z6, z7, z8, Xf4])
def Xmk (k : Nat) : FD := ⟨59, Xk2, F59_O, F59 k⟩
theorem Xun (k : Nat) : (Xmk k).Ok Tryz.prog := ⟨fun x => Ab (Am (Aj (.c (Xkx k) .n)) _ _ _ _) Ah Tryz.func59 rfl rfl (Xxy k _ some), .of (by kernel_rfl)⟩
abbrev X09 (k : Nat) : Env := Bc (Az [Fu k]) An .own [] k
abbrev Xmw : List PA := [.agg (.pair mI C1)]
abbrev F130_O : RO := ⟨[.v], [mB]⟩
def Vx {β : Type} (RET : Bool → Option β) (k : Nat) (v : (den Ac)) : Option β := Aw v fun v0 v1 v2 v3 v4 v5 v6 v7 v8 => (K8 k v0 0 65535).bind fun b1 => cond (!b1) (RET false) ((K8 k v1 0 65535).bind fun b2 => cond (!b2) (RET false) ((K8 k v2 0 255).bind fun b3 => cond (!b3) (RET false) ((K8 k v3 0 255).bind fun b4 => cond (!b4) (RET false) ((K8 k v4 0 255).bind fun b5 => cond (!b5) (RET false) ((K8 k v5 0 255).bind fun b6 => cond (!b6) (RET false) (cond (decide ((v8.length : Int) ≤ 48)) (cond (!v6) (cond (!v7) (RET true) (cond (v5 == 0) (RET (!v6)) (RET false))) (cond (decide ((v8.length : Int) > 0)) (cond (!v7) (RET true) (cond (v5 == 0) (RET (!v6)) (RET false))) (RET false))) (RET false)))))))
def G2 := Vx (β := Bool) some
theorem Xsd {β : Type} (k : Nat) (v : (den Ac)) (K : KT β) : Ag (X09 k) Tryz.f130 (PsT.put Xmw (v, ())) K = (G2 k v).bind fun r => K (F130_O.put r) :=
 Eq.trans (b := Vx (fun r => K (F130_O.put r)) k v) (by kernel_rfl) (by simp only [G2, Vx, z1, z2, z3, z4, z5, z6, z7, z8, Aw])
def Gx (k : Nat) : FD := ⟨130, Xmw, F130_O, G2 k⟩
theorem Hx (k : Nat) : (Gx k).Ok Tryz.prog := ⟨fun x => Ab (Am (Aj (.c (Gd k) .n)) _ _ _ _) Ah Tryz.func130 rfl rfl (Xsd k _ some), .of (by kernel_rfl)⟩
abbrev Xzj (k : Nat) : Env := Bc Bv An .own [] k
abbrev Xis : List PA := [.agg (.pair mI C1)]
abbrev F138_O : RO := ⟨[.a], [.pair mI m_8]⟩
def Lq (k : Nat) (v : (den Ac)) : Option ((den Ac)) := Aw v fun v0 v1 v2 v3 v4 v5 v6 v7 v8 => Bh (([] : Aa).length) (v8.length) 1 (some (v0, v1, v2, v3, v4, v5, v6, v7, [] ++ v8))
theorem Xp0 {β : Type} (k : Nat) (v : (den Ac)) (K : KT β) : Ag (Xzj k) Tryz.f138 (PsT.put Xis (v, ())) K = (Lq k v).bind fun r => K (F138_O.put r) :=
 Eq.trans (b := Bh (([] : Aa).length) (v.2.2.2.2.2.2.2.2.length) 1 (K (F138_O.put (v.1, v.2.1, v.2.2.1, v.2.2.2.1, v.2.2.2.2.1, v.2.2.2.2.2.1, v.2.2.2.2.2.2.1, v.2.2.2.2.2.2.2.1, [] ++ v.2.2.2.2.2.2.2.2)))) (by kernel_rfl) (by simp only [Lq, z1, z2, z3, z4, z5, z6, z7, z8, Aw])
def Rz (k : Nat) : FD := ⟨138, Xis, F138_O, Lq k⟩
theorem Xh (k : Nat) : (Rz k).Ok Tryz.prog := ⟨fun x => Ab (Am .none _ _ _ _) Ah Tryz.func138 rfl rfl (Xp0 k _ some), .of (by kernel_rfl)⟩
def Xxl : Nat → Hint
 | 0 => ⟨pl 0 1 ((5, .own .own (.int .u8) []) :: (pl 6 1 [])), []⟩
 | _ => ⟨[], []⟩
abbrev T0 (k : Nat) : Env := Bc (Az [Fu k]) Xxl .own [] k
abbrev Xbh : List PA := [.one mI, .one mI]
abbrev F153_O : RO := ⟨[.v], [.sl .own (.int .u8)]⟩
noncomputable def Xwf {β : Type} (k : Nat) (v w : Int) (K : KT β) : Ex → St → Option β := Br (T0 k) Tryz.f153 (PsT.put Xbh (v, w, ())) K
def Xql (v w : Int) (x6_0 : Int) (m5900_0 : Aa) : St := ⟨(.one (vI v)) :: dz 4 ((.one (.a (.cell 5900) 0 0 none)) :: (.one (vI x6_0)) :: dz 30 []), [eM 5900 (.s .own (.int .u8) m5900_0)]⟩
noncomputable def Mr {β : Type} (k : Nat) (v w : Int) (K : KT β) (n : Nat) (x6_0 : Int) (m5900_0 : Aa) : Option β := A3 (T0 k) Tryz.f153 [1, 1, 1, 0, 1, 0] 0 (Ai (T0 k) [1, 1, 1, 0, 1, 0] (Al Tryz.f153) 0 (Xwf k v w K)) n (Xql v w x6_0 m5900_0)
def Ek {β : Type} (NX : Int → Aa → Option β) (RET : Aa → Option β) (k : Nat) (v w : Int) (x6_0 : Int) (m5900_0 : Aa) : Option β := cond (decide (x6_0 ≥ 0)) (cond (decide ((i64.wrap (8 * x6_0)) < 0)) none (Bh (m5900_0.length) ([u8.wrap ((v.fdiv (2 ^ (min (i64.wrap (8 * x6_0)).toNat 64))).tmod 256)].length) 1 (NX (i64.wrap (x6_0 - 1)) (m5900_0 ++ [u8.wrap ((v.fdiv (2 ^ (min (i64.wrap (8 * x6_0)).toNat 64))).tmod 256)])))) (RET m5900_0)
def Ff (k : Nat) (v w : Int) : Nat → Int → Aa → Option (Aa)
 | 0, _, _ => none
 | n + 1, x6_0, m5900_0 => Ek (Ff k v w n) some k v w x6_0 m5900_0
theorem Xb9 {β : Type} (k : Nat) (v w : Int) (K : KT β) (n : Nat) : ∀ (x6_0 : Int) (m5900_0 : Aa), Mr k v w K n x6_0 m5900_0 =
  (Ff k v w n x6_0 m5900_0).bind fun r => K (F153_O.put r) := by
 induction n with
 | zero => intros; rfl
 | succ n ih =>
  intro x6_0 m5900_0
  refine Eq.trans (b := Ek (Mr k v w K n) (fun r => K (F153_O.put r)) k v w x6_0 m5900_0) (by kernel_rfl) ?_
  rw [Ff]
  simp only [Ek, z1, z2, z3, z4, z5, z6, z7, z8, ih]
def Uu {β : Type} (LP0 : Int → Aa → Option β) (RET : Aa → Option β) (k : Nat) (v w : Int) : Option β := (K8 k w 1 4).bind fun b1 => cond (!b1) (RET []) (cond (decide ((i64.wrap (8 * w)) < 0)) none ((K8 k v 0 (i64.wrap ((i64.wrap (1 * 2 ^ (min (i64.wrap (8 * w)).toNat 64))) - 1))).bind fun b2 => cond (!b2) (RET []) (LP0 (i64.wrap (w - 1)) [])))
def Xr (k : Nat) (v w : Int) : Option (Aa) := Uu (Ff k v w k) some k v w
theorem Xsf {β : Type} (k : Nat) (v w : Int) (K : KT β) : Ag (T0 k) Tryz.f153 (PsT.put Xbh (v, w, ())) K = (Xr k v w).bind fun r => K (F153_O.put r) :=
 Eq.trans (b := Uu (Mr k v w K k) (fun r => K (F153_O.put r)) k v w) (by kernel_rfl) (by simp only [Xr, Uu, z1, z2, z3, z4, z5, z6, z7, z8, Xb9])
def Vp (k : Nat) : FD := ⟨153, Xbh, F153_O, Xr k⟩
theorem Xdq (k : Nat) : (Vp k).Ok Tryz.prog := ⟨fun x => Ab (Am (Aj (.c (Gd k) .n)) _ _ _ _) Ah Tryz.func153 rfl rfl (Xsf k _ _ some), .of (by kernel_rfl)⟩
abbrev Xw8 (k : Nat) : Env := Bc Bv An .own [] k
abbrev Xn2 : List PA := [.agg (.pair mI C1)]
abbrev F364_O : RO := ⟨[.v], [mI]⟩
def Xgl (k : Nat) (v : (den Ac)) : Option (Int) := cond v.2.2.2.2.2.2.1 (cond v.2.2.2.2.2.2.2.1 (some 3) (some 1)) (cond v.2.2.2.2.2.2.2.1 (some 2) (some 0))
theorem Xtg {β : Type} (k : Nat) (v : (den Ac)) (K : KT β) : Ag (Xw8 k) Tryz.f364 (PsT.put Xn2 (v, ())) K = (Xgl k v).bind fun r => K (F364_O.put r) :=
 Eq.trans (b := cond v.2.2.2.2.2.2.1 (cond v.2.2.2.2.2.2.2.1 (K (F364_O.put 3)) (K (F364_O.put 1))) (cond v.2.2.2.2.2.2.2.1 (K (F364_O.put 2)) (K (F364_O.put 0)))) (by kernel_rfl) (by simp only [Xgl, z1, z2, z3, z4, z5, z6, z7, z8, Aw])
def Xk9 (k : Nat) : FD := ⟨364, Xn2, F364_O, Xgl k⟩
theorem Xvu (k : Nat) : (Xk9 k).Ok Tryz.prog := ⟨fun x => Ab (Am .none _ _ _ _) Ah Tryz.func364 rfl rfl (Xtg k _ some), .of (by kernel_rfl)⟩
abbrev Xwm (k : Nat) : Env := Bc (Az [Vp k, Xk9 k]) An .own [] k
abbrev Xi3 : List PA := [.agg (.pair mI C1)]
abbrev F347_O : RO := ⟨[.v], [.sl .own (.int .u8)]⟩
def Uv {β : Type} (RET : Aa → Option β) (k : Nat) (v : (den Ac)) : Option β := Aw v fun v0 v1 v2 v3 v4 v5 _ _ v8 => (Xr k v0 2).bind fun b1 => (Xr k v1 2).bind fun b2 => Bh (b1.length) (b2.length) 1 ((Xgl k v).bind fun b3 => Bh ((b1 ++ b2).length) ([u8.wrap v2, u8.wrap v3, u8.wrap v4, u8.wrap v5, u8.wrap b3, u8.wrap (v8.length : Int)].length) 1 (RET ((b1 ++ b2) ++ [u8.wrap v2, u8.wrap v3, u8.wrap v4, u8.wrap v5, u8.wrap b3, u8.wrap (v8.length : Int)])))
def Xg0 := Uv (β := Aa) some
theorem Xtj {β : Type} (k : Nat) (v : (den Ac)) (K : KT β) : Ag (Xwm k) Tryz.f347 (PsT.put Xi3 (v, ())) K = (Xg0 k v).bind fun r => K (F347_O.put r) :=
 Eq.trans (b := Uv (fun r => K (F347_O.put r)) k v) (by kernel_rfl) (by simp only [Xg0, Uv, z1, z2, z3, z4, z5, z6, z7, z8, Aw])
def Xir (k : Nat) : FD := ⟨347, Xi3, F347_O, Xg0 k⟩
theorem X0g (k : Nat) : (Xir k).Ok Tryz.prog := ⟨fun x => Ab (Am (Aj (.c (Xdq k) (.c (Xvu k) .n))) _ _ _ _) Ah Tryz.func347 rfl rfl (Xtj k _ some), .of (by kernel_rfl)⟩
def Xy7 : Nat → Hint
 | 0 => ⟨pl 0 1 (pl 3 2 []), []⟩
 | _ => ⟨[], []⟩
abbrev Xi (k : Nat) : Env := Bc Bv Xy7 .own [] k
abbrev Xcw : List PA := [.one (.sl .ro (.int .u8))]
abbrev F279_O : RO := ⟨[.v], [mI]⟩
noncomputable def Xv5 {β : Type} (k : Nat) (v : Aa) (K : KT β) : Ex → St → Option β := Br (Xi k) Tryz.f279 (PsT.put Xcw (v, ())) K
def Xpk (v : Aa) (x3_0 x4_0 : Int) : St := ⟨(.one (.s .ro (.int .u8) v)) :: (.one .d) :: (.one .d) :: (.one (vI x3_0)) :: (.one (vI x4_0)) :: dz 29 [], []⟩
noncomputable def N6 {β : Type} (k : Nat) (v : Aa) (K : KT β) (n : Nat) (x3_0 x4_0 : Int) : Option β := A3 (Xi k) Tryz.f279 [1, 1, 0, 1, 0] 0 (Ai (Xi k) [1, 1, 0, 1, 0] (Al Tryz.f279) 0 (Xv5 k v K)) n (Xpk v x3_0 x4_0)
def Ej {β : Type} (NX : Int → Int → Option β) (RET : Int → Option β) (k : Nat) (v : Aa) (x3_0 x4_0 : Int) : Option β := cond (decide (x4_0 < (v.length : Int))) (cond ((x4_0.tmod 2) == 0) (A1 x4_0 v (cond (decide ((i64.wrap (x3_0 + (i64.wrap ((i64.wrap (Ap v x4_0)) * 256)))) > 65535)) (NX (i64.wrap ((i64.wrap (x3_0 + (i64.wrap ((i64.wrap (Ap v x4_0)) * 256)))) - 65535)) (i64.wrap (x4_0 + 1))) (NX (i64.wrap (x3_0 + (i64.wrap ((i64.wrap (Ap v x4_0)) * 256)))) (i64.wrap (x4_0 + 1))))) (A1 x4_0 v (cond (decide ((i64.wrap (x3_0 + (i64.wrap (Ap v x4_0)))) > 65535)) (NX (i64.wrap ((i64.wrap (x3_0 + (i64.wrap (Ap v x4_0)))) - 65535)) (i64.wrap (x4_0 + 1))) (NX (i64.wrap (x3_0 + (i64.wrap (Ap v x4_0)))) (i64.wrap (x4_0 + 1)))))) (RET x3_0)
def D8 (k : Nat) (v : Aa) : Nat → Int → Int → Option (Int)
 | 0, _, _ => none
 | n + 1, x3_0, x4_0 => Ej (D8 k v n) some k v x3_0 x4_0
theorem Xat {β : Type} (k : Nat) (v : Aa) (K : KT β) (n : Nat) : ∀ (x3_0 x4_0 : Int), N6 k v K n x3_0 x4_0 =
  (D8 k v n x3_0 x4_0).bind fun r => K (F279_O.put r) := by
 induction n with
 | zero => intros; rfl
 | succ n ih =>
  intro x3_0 x4_0
  refine Eq.trans (b := Ej (N6 k v K n) (fun r => K (F279_O.put r)) k v x3_0 x4_0) (by kernel_rfl) ?_
  rw [D8]
  simp only [Ej, z1, z2, z3, z4, z5, z6, z7, z8, ih]
def Ur {β : Type} (LP0 : Int → Int → Option β) (k : Nat) (v : Aa) : Option β := LP0 0 0
def Xgz (k : Nat) (v : Aa) : Option (Int) := Ur (D8 k v k) k v
theorem Xpt {β : Type} (k : Nat) (v : Aa) (K : KT β) : Ag (Xi k) Tryz.f279 (PsT.put Xcw (v, ())) K = (Xgz k v).bind fun r => K (F279_O.put r) :=
 Eq.trans (b := Ur (N6 k v K k) k v) (by kernel_rfl) (by simp only [Xgz, Ur, z1, z2, z3, z4, z5, z6, z7, z8, Xat])
def Xkj (k : Nat) : FD := ⟨279, Xcw, F279_O, Xgz k⟩
theorem Xz3 (k : Nat) : (Xkj k).Ok Tryz.prog := ⟨fun x => Ab (Am .none _ _ _ _) Ah Tryz.func279 rfl rfl (Xpt k _ some), .of (by kernel_rfl)⟩
abbrev X05 (k : Nat) : Env := Bc (Az [Xkj k]) An .own [] k
abbrev Xnx : List PA := [.one (.sl .ro (.int .u8))]
abbrev F224_O : RO := ⟨[.v], [mI]⟩
def Xh1 (k : Nat) (v : Aa) : Option (Int) := (Xgz k v).bind fun b1 => some (i64.wrap (65535 - b1))
theorem Xqg {β : Type} (k : Nat) (v : Aa) (K : KT β) : Ag (X05 k) Tryz.f224 (PsT.put Xnx (v, ())) K = (Xh1 k v).bind fun r => K (F224_O.put r) :=
 Eq.trans (b := (Xgz k v).bind fun b1 => K (F224_O.put (i64.wrap (65535 - b1)))) (by kernel_rfl) (by simp only [Xh1, z1, z2, z3, z4, z5, z6, z7, z8])
def Xio (k : Nat) : FD := ⟨224, Xnx, F224_O, Xh1 k⟩
theorem Xxg (k : Nat) : (Xio k).Ok Tryz.prog := ⟨fun x => Ab (Am (Aj (.c (Xz3 k) .n)) _ _ _ _) Ah Tryz.func224 rfl rfl (Xqg k _ some), .of (by kernel_rfl)⟩
abbrev Xwc (k : Nat) : Env := Bc (Az [Gx k, Xir k, Xio k, Vp k]) An .own [] k
abbrev Xiv : List PA := [.agg (.pair mI C1)]
abbrev F323_O : RO := ⟨[.v], [.sl .own (.int .u8)]⟩
def V9 {β : Type} (RET : Aa → Option β) (k : Nat) (v : (den Ac)) : Option β := (G2 k v).bind fun b1 => cond (!b1) (RET []) ((Xg0 k v).bind fun b2 => (Xh1 k b2).bind fun b3 => (Xr k b3 2).bind fun b4 => Bh (b2.length) (b4.length) 1 (Bh ((b2 ++ b4).length) (v.2.2.2.2.2.2.2.2.length) 1 (RET ((b2 ++ b4) ++ v.2.2.2.2.2.2.2.2))))
def Xh7 := V9 (β := Aa) some
theorem Xtu {β : Type} (k : Nat) (v : (den Ac)) (K : KT β) : Ag (Xwc k) Tryz.f323 (PsT.put Xiv (v, ())) K = (Xh7 k v).bind fun r => K (F323_O.put r) :=
 Eq.trans (b := V9 (fun r => K (F323_O.put r)) k v) (by kernel_rfl) (by simp only [Xh7, V9, z1, z2, z3, z4, z5, z6, z7, z8, Aw])
def Xna (k : Nat) : FD := ⟨323, Xiv, F323_O, Xh7 k⟩
theorem X1d (k : Nat) : (Xna k).Ok Tryz.prog := ⟨fun x => Ab (Am (Aj (.c (Hx k) (.c (X0g k) (.c (Xxg k) (.c (Xdq k) .n))))) _ _ _ _) Ah Tryz.func323 rfl rfl (Xtu k _ some), .of (by kernel_rfl)⟩
abbrev X2e (k : Nat) : Env := Bc (Az [Fu k]) An .own [] k
abbrev Xnf : List PA := [.agg (.pair mI m_9)]
abbrev F348_O : RO := ⟨[.v], [mB]⟩
def Vl {β : Type} (RET : Bool → Option β) (k : Nat) (v : (Int × (Int × Aa))) : Option β := (K8 k v.1 1 6).bind fun b1 => cond b1 ((K8 k v.2.1 0 65535).bind fun b2 => cond b2 (RET (decide ((v.2.2.length : Int) ≤ 20))) (RET false)) (RET false)
def Xae := Vl (β := Bool) some
theorem Xqk {β : Type} (k : Nat) (v : (Int × (Int × Aa))) (K : KT β) : Ag (X2e k) Tryz.f348 (PsT.put Xnf (v, ())) K = (Xae k v).bind fun r => K (F348_O.put r) :=
 Eq.trans (b := Vl (fun r => K (F348_O.put r)) k v) (by kernel_rfl) (by simp only [Xae, Vl, z1, z2, z3, z4, z5, z6, z7, z8, u_3])
def Xco (k : Nat) : FD := ⟨348, Xnf, F348_O, Xae k⟩
theorem Xk1 (k : Nat) : (Xco k).Ok Tryz.prog := ⟨fun x => Ab (Am (Aj (.c (Gd k) .n)) _ _ _ _) Ah Tryz.func348 rfl rfl (Xqk k _ some), .of (by kernel_rfl)⟩
abbrev Xwx (k : Nat) : Env := Bc (Az [Xco k, Vp k]) An .own [] k
abbrev Xj6 : List PA := [.agg (.pair mI m_9)]
abbrev F324_O : RO := ⟨[.v], [.sl .own (.int .u8)]⟩
def Uy {β : Type} (RET : Aa → Option β) (k : Nat) (v : (Int × (Int × Aa))) : Option β := u_3 v fun v0 v1 v2 => (Xae k v).bind fun b1 => cond (!b1) (RET []) ((Xr k v1 2).bind fun b2 => Bh ([u8.wrap v0].length) (b2.length) 1 (Bh (([u8.wrap v0] ++ b2).length) ([u8.wrap (v2.length : Int)].length) 1 (Bh ((([u8.wrap v0] ++ b2) ++ [u8.wrap (v2.length : Int)]).length) (v2.length) 1 (RET ((([u8.wrap v0] ++ b2) ++ [u8.wrap (v2.length : Int)]) ++ v2)))))
def Xfw := Uy (β := Aa) some
theorem Xri {β : Type} (k : Nat) (v : (Int × (Int × Aa))) (K : KT β) : Ag (Xwx k) Tryz.f324 (PsT.put Xj6 (v, ())) K = (Xfw k v).bind fun r => K (F324_O.put r) :=
 Eq.trans (b := Uy (fun r => K (F324_O.put r)) k v) (by kernel_rfl) (by simp only [Xfw, Uy, z1, z2, z3, z4, z5, z6, z7, z8, u_3])
def Xkl (k : Nat) : FD := ⟨324, Xj6, F324_O, Xfw k⟩
theorem X1e (k : Nat) : (Xkl k).Ok Tryz.prog := ⟨fun x => Ab (Am (Aj (.c (Xk1 k) (.c (Xdq k) .n))) _ _ _ _) Ah Tryz.func324 rfl rfl (Xri k _ some), .of (by kernel_rfl)⟩
def X1z : Nat → Hint
 | 0 => ⟨pl 0 3 (pl 7 2 []), []⟩
 | _ => ⟨[], []⟩
abbrev Xe (k : Nat) : Env := Bc (Az [Fu k]) X1z .own [] k
abbrev Xax : List PA := [.one (.sl .ro (.int .u8)), .one mI, .one mI]
abbrev F225_O : RO := ⟨[.v], [mI]⟩
noncomputable def X06 {β : Type} (k : Nat) (v : Aa) (w p : Int) (K : KT β) : Ex → St → Option β := Br (Xe k) Tryz.f225 (PsT.put Xax (v, w, p, ())) K
def Xsg (v : Aa) (w p : Int) (x7_0 x8_0 : Int) : St := ⟨(.one (.s .ro (.int .u8) v)) :: (.one (vI w)) :: (.one (vI p)) :: dz 4 ((.one (vI x7_0)) :: (.one (vI x8_0)) :: dz 28 []), []⟩
noncomputable def Nh {β : Type} (k : Nat) (v : Aa) (w p : Int) (K : KT β) (n : Nat) (x7_0 x8_0 : Int) : Option β := A3 (Xe k) Tryz.f225 [1, 1, 1, 0, 1, 0] 0 (Ai (Xe k) [1, 1, 1, 0, 1, 0] (Al Tryz.f225) 0 (X06 k v w p K)) n (Xsg v w p x7_0 x8_0)
def Ec {β : Type} (NX : Int → Int → Option β) (RET : Int → Option β) (k : Nat) (v : Aa) (w p : Int) (x7_0 x8_0 : Int) : Option β := cond (decide (x8_0 < p)) (A1 (i64.wrap (w + x8_0)) v (NX (i64.wrap ((i64.wrap (x7_0 * 256)) + (i64.wrap (Ap v (i64.wrap (w + x8_0)))))) (i64.wrap (x8_0 + 1)))) (RET x7_0)
def Fa (k : Nat) (v : Aa) (w p : Int) : Nat → Int → Int → Option (Int)
 | 0, _, _ => none
 | n + 1, x7_0, x8_0 => Ec (Fa k v w p n) some k v w p x7_0 x8_0
theorem Z9 {β : Type} (k : Nat) (v : Aa) (w p : Int) (K : KT β) (n : Nat) : ∀ (x7_0 x8_0 : Int), Nh k v w p K n x7_0 x8_0 =
  (Fa k v w p n x7_0 x8_0).bind fun r => K (F225_O.put r) := by
 induction n with
 | zero => intros; rfl
 | succ n ih =>
  intro x7_0 x8_0
  refine Eq.trans (b := Ec (Nh k v w p K n) (fun r => K (F225_O.put r)) k v w p x7_0 x8_0) (by kernel_rfl) ?_
  rw [Fa]
  simp only [Ec, z1, z2, z3, z4, z5, z6, z7, z8, ih]
def Uf {β : Type} (LP0 : Int → Int → Option β) (RET : Int → Option β) (k : Nat) (v : Aa) (w p : Int) : Option β := (K8 k p 1 4).bind fun b1 => cond (!b1) (RET (-1)) ((K8 k w 0 (i64.wrap ((v.length : Int) - p))).bind fun b2 => cond (!b2) (RET (-1)) (LP0 0 0))
def Xhn (k : Nat) (v : Aa) (w p : Int) : Option (Int) := Uf (Fa k v w p k) some k v w p
theorem Xp3 {β : Type} (k : Nat) (v : Aa) (w p : Int) (K : KT β) : Ag (Xe k) Tryz.f225 (PsT.put Xax (v, w, p, ())) K = (Xhn k v w p).bind fun r => K (F225_O.put r) :=
 Eq.trans (b := Uf (Nh k v w p K k) (fun r => K (F225_O.put r)) k v w p) (by kernel_rfl) (by simp only [Xhn, Uf, z1, z2, z3, z4, z5, z6, z7, z8, Z9])
def Xja (k : Nat) : FD := ⟨225, Xax, F225_O, Xhn k⟩
theorem X0w (k : Nat) : (Xja k).Ok Tryz.prog := ⟨fun x => Ab (Am (Aj (.c (Gd k) .n)) _ _ _ _) Ah Tryz.func225 rfl rfl (Xp3 k _ _ _ some), .of (by kernel_rfl)⟩
abbrev Xyn (k : Nat) : Env := Bc (Az [Xja k, Xco k]) An .own [] k
abbrev Xi6 : Type := (Int × (Int × Aa)) × Bool
abbrev Xol : List PA := [.one (.sl .ro (.int .u8))]
abbrev F349_O : RO := ⟨[.a, .v], [.pair mI m_10, mB]⟩
def Ug {β : Type} (RET : Xi6 → Option β) (k : Nat) (v : Aa) : Option β := cond (decide ((v.length : Int) < 4)) (RET ((0, 0, []), false)) (cond (decide (0 < (v.length : Int))) ((Xhn k v 1 2).bind fun b1 => cond (decide (0 ≤ 4) && decide (4 ≤ (v.length : Int))) (Bh (([] : Aa).length) ((v.drop 4).length) 1 ((Xae k (i64.wrap (Ap v 0), b1, [] ++ (v.drop 4))).bind fun b2 => cond (!b2) (RET ((0, 0, []), false)) (cond (decide (3 < (v.length : Int))) (cond ((i64.wrap (Ap v 3)) != (([] ++ (v.drop 4)).length : Int)) (RET ((0, 0, []), false)) (RET ((i64.wrap (Ap v 0), b1, [] ++ (v.drop 4)), true))) none))) none) none)
def Xf9 := Ug (β := Xi6) some
theorem Xsu {β : Type} (k : Nat) (v : Aa) (K : KT β) : Ag (Xyn k) Tryz.f349 (PsT.put Xol (v, ())) K = (Xf9 k v).bind fun r => K (F349_O.put r) :=
 Eq.trans (b := Ug (fun r => K (F349_O.put r)) k v) (by kernel_rfl) (by simp only [Xf9, Ug, z1, z2, z3, z4, z5, z6, z7, z8])
def Xpb (k : Nat) : FD := ⟨349, Xol, F349_O, Xf9 k⟩
theorem Xzw (k : Nat) : (Xpb k).Ok Tryz.prog := ⟨fun x => Ab (Am (Aj (.c (X0w k) (.c (Xk1 k) .n))) _ _ _ _) Ah Tryz.func349 rfl rfl (Xsu k _ some), .of (by kernel_rfl)⟩
abbrev Xvq (k : Nat) : Env := Bc (Az [Xpb k]) An .own [] k
abbrev Xkc : List PA := [.agg (.pair mI C1)]
abbrev F325_O : RO := ⟨[.v], [mB]⟩
def T1 {β : Type} (RET : Bool → Option β) (k : Nat) (v : (den Ac)) : Option β := (Xf9 k v.2.2.2.2.2.2.2.2).bind fun b1 => cond b1.2 (cond (v.2.2.1 == 1) (RET (decide (b1.1.1 ≥ 3))) (RET false)) (RET false)
def Xgr := T1 (β := Bool) some
theorem Xrd {β : Type} (k : Nat) (v : (den Ac)) (K : KT β) : Ag (Xvq k) Tryz.f325 (PsT.put Xkc (v, ())) K = (Xgr k v).bind fun r => K (F325_O.put r) :=
 Eq.trans (b := T1 (fun r => K (F325_O.put r)) k v) (by kernel_rfl) (by simp only [Xgr, T1, z1, z2, z3, z4, z5, z6, z7, z8, Aw])
def Xmq (k : Nat) : FD := ⟨325, Xkc, F325_O, Xgr k⟩
theorem X1j (k : Nat) : (Xmq k).Ok Tryz.prog := ⟨fun x => Ab (Am (Aj (.c (Xzw k) .n)) _ _ _ _) Ah Tryz.func325 rfl rfl (Xrd k _ some), .of (by kernel_rfl)⟩
abbrev Xxo (k : Nat) : Env := Bc (Az [Xna k, Xkl k, Gx k, Fu k, Xmq k]) An .own [] k
abbrev Xm7 : List PA := [.agg (.pair mI C1), .one mI, .one mI, .one mI]
abbrev F262_O : RO := ⟨[.a, .v], [.pair mI m_8, mB]⟩
def Xb {β : Type} (RET : (den Ac) × Bool → Option β) (k : Nat) (v : (den Ac)) (w p q : Int) : Option β := (Xh7 k v).bind fun b1 => cond (decide (0 ≤ (if 20 < (b1.length : Int) then 20 else (b1.length : Int))) && decide ((if 20 < (b1.length : Int) then 20 else (b1.length : Int)) ≤ (b1.length : Int))) ((Xfw k (p, q, (b1.take ((if 20 < (b1.length : Int) then 20 else (b1.length : Int)).toNat)).drop 0)).bind fun b2 => (G2 k v).bind fun b3 => cond (!b3) (RET ((0, 0, 0, 0, 0, 0, false, false, []), false)) ((K8 k w 0 65535).bind fun b4 => cond (!b4) (RET ((0, 0, 0, 0, 0, 0, false, false, []), false)) ((K8 k p 3 6).bind fun b5 => cond (!b5) (RET ((0, 0, 0, 0, 0, 0, false, false, []), false)) (cond ((b2.length : Int) == 0) (RET ((0, 0, 0, 0, 0, 0, false, false, []), false)) ((Xgr k v).bind fun b6 => cond b6 (RET ((0, 0, 0, 0, 0, 0, false, false, []), false)) (cond (decide (v.2.2.2.2.2.1 > 0)) (RET ((0, 0, 0, 0, 0, 0, false, false, []), false)) (RET ((w, v.1, 1, 64, v.2.2.2.2.1, 0, false, false, b2), true)))))))) none
def Y3 := Xb (β := (den Ac) × Bool) some
theorem Xpx {β : Type} (k : Nat) (v : (den Ac)) (w p q : Int) (K : KT β) : Ag (Xxo k) Tryz.f262 (PsT.put Xm7 (v, w, p, q, ())) K = (Y3 k v w p q).bind fun r => K (F262_O.put r) :=
 Eq.trans (b := Xb (fun r => K (F262_O.put r)) k v w p q) (by kernel_rfl) (by simp only [Y3, Xb, z1, z2, z3, z4, z5, z6, z7, z8, Aw])
def Xjc (k : Nat) : FD := ⟨262, Xm7, F262_O, Y3 k⟩
theorem Xxf (k : Nat) : (Xjc k).Ok Tryz.prog := ⟨fun x => Ab (Am (Aj (.c (X1d k) (.c (X1e k) (.c (Hx k) (.c (Gd k) (.c (X1j k) .n)))))) _ _ _ _) Ah Tryz.func262 rfl rfl (Xpx k _ _ _ _ some), .of (by kernel_rfl)⟩
abbrev Xyz (k : Nat) : Env := Bc (Az [Xjc k]) An .own [] k
abbrev Xiy : List PA := [.agg (.pair mI (.sl .ro B6)), .agg (.pair mI C1), .one mI, .one mI]
abbrev F203_O : RO := ⟨[.a], [Xor]⟩
def Y5 (k : Nat) (v : (den sta)) (w : (den Ac)) (p q : Int) : Option ((den Pa)) := (Y3 k w v.1 p q).bind fun b1 => cond (!b1.2) (some (0, 0, [])) (some (3, 0, [b1.1]))
theorem Xtt {β : Type} (k : Nat) (v : (den sta)) (w : (den Ac)) (p q : Int) (K : KT β) : Ag (Xyz k) Tryz.f203 (PsT.put Xiy (v, w, p, q, ())) K = (Y5 k v w p q).bind fun r => K (F203_O.put r) :=
 Eq.trans (b := (Y3 k w v.1 p q).bind fun b1 => cond (!b1.2) (K (F203_O.put (0, 0, []))) (K (F203_O.put (3, 0, [b1.1])))) (by kernel_rfl) (by simp only [Y5, z1, z2, z3, z4, z5, z6, z7, z8, Aw])
def Xm2 (k : Nat) : FD := ⟨203, Xiy, F203_O, Y5 k⟩
theorem X1s (k : Nat) : (Xm2 k).Ok Tryz.prog := ⟨fun x => Ab (Am (Aj (.c (Xxf k) .n)) _ _ _ _) Ah Tryz.func203 rfl rfl (Xtt k _ _ _ _ some), .of (by kernel_rfl)⟩
abbrev Xvy (k : Nat) : Env := Bc (Az [Wi k, Fu k, Xdr k]) An .own [] k
abbrev Xlc : List PA := [.agg m_2, .one mI]
abbrev F263_O : RO := ⟨[.v], [mB]⟩
def W0 {β : Type} (RET : Bool → Option β) (k : Nat) (v : (den B6)) (w : Int) : Option β := (U2 k v).bind fun b1 => cond b1 ((K8 k w 0 65535).bind fun b2 => cond b2 ((Yb k v.2.1).bind fun b3 => cond (decide (b3 = 0)) none ((Yb k v.2.1).bind fun b4 => cond (decide (b4 = 0)) none (RET ((i64.wrap (w.tdiv b3)) == (i64.wrap (v.1.tdiv b4)))))) (RET false)) (RET false)
def Xf5 := W0 (β := Bool) some
theorem Xp6 {β : Type} (k : Nat) (v : (den B6)) (w : Int) (K : KT β) : Ag (Xvy k) Tryz.f263 (PsT.put Xlc (v, w, ())) K = (Xf5 k v w).bind fun r => K (F263_O.put r) :=
 Eq.trans (b := W0 (fun r => K (F263_O.put r)) k v w) (by kernel_rfl) (by simp only [Xf5, W0, z1, z2, z3, z4, z5, z6, z7, z8, Cv])
def Xob (k : Nat) : FD := ⟨263, Xlc, F263_O, Xf5 k⟩
theorem Xw0 (k : Nat) : (Xob k).Ok Tryz.prog := ⟨fun x => Ab (Am (Aj (.c (Xaz k) (.c (Gd k) (.c (Xnw k) .n)))) _ _ _ _) Ah Tryz.func263 rfl rfl (Xp6 k _ _ some), .of (by kernel_rfl)⟩
end
end Go.Proofs.YtdmepjjepogddaaGreat.Gn
end

section
set_option linter.unusedVariables false
set_option linter.unusedSimpArgs false
namespace Go.Proofs.YtdmepjjepogddaaGreat.Gn
open Go.Rf IntKind
noncomputable section
def Xy1 : Nat → Hint
 | 0 => ⟨pl 0 2 (pl 4 1 (pl 6 1 [])), pl 4000 4 []⟩
 | _ => ⟨[], []⟩
abbrev Ua (k : Nat) : Env := Bc (Az [T8 k, Xob k]) Xy1 .own [] k
abbrev Xct : List PA := [.one (.sl .ro B6), .one mI]
abbrev F204_O : RO := ⟨[.a, .v], [m_2, mB]⟩
noncomputable def Xw1 {β : Type} (k : Nat) (v : Ay) (w : Int) (K : KT β) : Ex → St → Option β := Br (Ua k) Tryz.f204 (PsT.put Xct (v, w, ())) K
def Xs2 (v : Ay) (w : Int) (x6_0 : Int) : St := ⟨(.one (.s .ro B6 v)) :: (.one (vI w)) :: (.one .d) :: (.one .d) :: (.one (.ptr (.cell 4000) 4 0)) :: (.one .d) :: (.one (vI x6_0)) :: dz 22 [], A7 4000 (Ce m_2 (0, 0, 0, 0)) []⟩
noncomputable def Nd {β : Type} (k : Nat) (v : Ay) (w : Int) (K : KT β) (n : Nat) (x6_0 : Int) : Option β := A3 (Ua k) Tryz.f204 [1, 0, 1, 0] 0 (Ai (Ua k) [1, 0, 1, 0] (Al Tryz.f204) 0 (Xw1 k v w K)) n (Xs2 v w x6_0)
def F6 {β : Type} (NX : Int → Option β) (RET : (den B6) × Bool → Option β) (k : Nat) (v : Ay) (w : Int) (x6_0 : Int) : Option β := cond (decide (x6_0 ≥ 0)) ((F202 k v).bind fun b1 => cond b1 (A1 x6_0 v ((Xf5 k (Ap v x6_0) w).bind fun b2 => cond b2 (A1 x6_0 v (RET ((Ap v x6_0), true))) (NX (i64.wrap (x6_0 - 1))))) (RET ((0, 0, 0, 0), false))) (RET ((0, 0, 0, 0), false))
def Gz (k : Nat) (v : Ay) (w : Int) : Nat → Int → Option ((den B6) × Bool)
 | 0, _ => none
 | n + 1, x6_0 => F6 (Gz k v w n) some k v w x6_0
theorem Xbs {β : Type} (k : Nat) (v : Ay) (w : Int) (K : KT β) (n : Nat) : ∀ (x6_0 : Int), Nd k v w K n x6_0 =
  (Gz k v w n x6_0).bind fun r => K (F204_O.put r) := by
 induction n with
 | zero => intros; rfl
 | succ n ih =>
  intro x6_0
  refine Eq.trans (b := F6 (Nd k v w K n) (fun r => K (F204_O.put r)) k v w x6_0) (by kernel_rfl) ?_
  rw [Gz]
  simp only [F6, z1, z2, z3, z4, z5, z6, z7, z8, ih]
def Xl {β : Type} (LP0 : Int → Option β) (k : Nat) (v : Ay) (w : Int) : Option β := LP0 (i64.wrap ((v.length : Int) - 1))
def Xf1 (k : Nat) (v : Ay) (w : Int) : Option ((den B6) × Bool) := Xl (Gz k v w k) k v w
theorem Xs9 {β : Type} (k : Nat) (v : Ay) (w : Int) (K : KT β) : Ag (Ua k) Tryz.f204 (PsT.put Xct (v, w, ())) K = (Xf1 k v w).bind fun r => K (F204_O.put r) :=
 Eq.trans (b := Xl (Nd k v w K k) k v w) (by kernel_rfl) (by simp only [Xf1, Xl, z1, z2, z3, z4, z5, z6, z7, z8, Xbs])
def Xj4 (k : Nat) : FD := ⟨204, Xct, F204_O, Xf1 k⟩
theorem X2d (k : Nat) : (Xj4 k).Ok Tryz.prog := ⟨fun x => Ab (Am (Aj (.c (Xa8 k) (.c (Xw0 k) .n))) _ _ _ _) Ah Tryz.func204 rfl rfl (Xs9 k _ _ some), .of (by kernel_rfl)⟩
def X0p : Nat → Hint
 | 0 => ⟨pl 1 2 ((6, .own .own Ac []) :: (pl 7 1 [])), pl 2000 9 []⟩
 | _ => ⟨[], []⟩
abbrev Vd (k : Nat) : Env := Bc (Az [Gx k, Fu k]) X0p .own [] k
abbrev Xck : List PA := [.agg (.pair mI C1), .one mI]
abbrev F205_O : RO := ⟨[.v, .v], [.sl .own Ac, mB]⟩
noncomputable def X0u {β : Type} (k : Nat) (v : (den Ac)) (w : Int) (K : KT β) : Ex → St → Option β := Br (Vd k) Tryz.f205 (PsT.put Xck (v, w, ())) K
def Xq6 (v : (den Ac)) (w : Int) (x7_0 : Int) (m6900_0 : Ak) : St := ⟨(.one .d) :: (.one (vI w)) :: (.one (.ptr (.cell 2000) 9 0)) :: dz 3 ((.one (.a (.cell 6900) 0 0 none)) :: (.one (vI x7_0)) :: dz 75 []), A7 2000 (Ce (.pair mI C1) v) [eM 6900 (.s .own Ac m6900_0)]⟩
noncomputable def Oa {β : Type} (k : Nat) (v : (den Ac)) (w : Int) (K : KT β) (n : Nat) (x7_0 : Int) (m6900_0 : Ak) : Option β := A3 (Vd k) Tryz.f205 [1, 1, 1, 0, 1, 0] 0 (Ai (Vd k) [1, 1, 1, 0, 1, 0] (Al Tryz.f205) 0 (X0u k v w K)) n (Xq6 v w x7_0 m6900_0)
def E4 {β : Type} (k : Nat) (v : (den Ac)) (w : Int) (NX : Int → Ak → Option β) (RET : (Ak × Bool) → Option β) (x7_0 : Int) (m6900_0 : Ak) : Option β := Aw v fun v0 v1 v2 v3 v4 v5 v6 v7 v8 => cond v6 (cond (decide (0 ≤ (if (v8.length : Int) < (i64.wrap (x7_0 + w)) then (v8.length : Int) else i64.wrap (x7_0 + w))) && decide ((if (v8.length : Int) < (i64.wrap (x7_0 + w)) then (v8.length : Int) else i64.wrap (x7_0 + w)) ≤ (v8.length : Int))) (cond (decide (0 ≤ x7_0) && decide (x7_0 ≤ (if (v8.length : Int) < (i64.wrap (x7_0 + w)) then (v8.length : Int) else i64.wrap (x7_0 + w)))) (Bh (([] : Aa).length) (((v8.take ((if (v8.length : Int) < (i64.wrap (x7_0 + w)) then (v8.length : Int) else i64.wrap (x7_0 + w)).toNat)).drop x7_0.toNat).length) 1 (cond (decide ((i64.wrap (v5 + x7_0)) > 255)) (RET ([], false)) (Bh (m6900_0.length) ([(v0, v1, v2, v3, v4, i64.wrap (v5 + x7_0), true, v7, [] ++ ((v8.take ((if (v8.length : Int) < (i64.wrap (x7_0 + w)) then (v8.length : Int) else i64.wrap (x7_0 + w)).toNat)).drop x7_0.toNat))].length) 80 (NX (i64.wrap (x7_0 + w)) (m6900_0 ++ [(v0, v1, v2, v3, v4, i64.wrap (v5 + x7_0), true, v7, [] ++ ((v8.take ((if (v8.length : Int) < (i64.wrap (x7_0 + w)) then (v8.length : Int) else i64.wrap (x7_0 + w)).toNat)).drop x7_0.toNat))]))))) none) none) (cond (decide (0 ≤ (if (v8.length : Int) < (i64.wrap (x7_0 + w)) then (v8.length : Int) else i64.wrap (x7_0 + w))) && decide ((if (v8.length : Int) < (i64.wrap (x7_0 + w)) then (v8.length : Int) else i64.wrap (x7_0 + w)) ≤ (v8.length : Int))) (cond (decide (0 ≤ x7_0) && decide (x7_0 ≤ (if (v8.length : Int) < (i64.wrap (x7_0 + w)) then (v8.length : Int) else i64.wrap (x7_0 + w)))) (Bh (([] : Aa).length) (((v8.take ((if (v8.length : Int) < (i64.wrap (x7_0 + w)) then (v8.length : Int) else i64.wrap (x7_0 + w)).toNat)).drop x7_0.toNat).length) 1 (cond (decide ((i64.wrap (v5 + x7_0)) > 255)) (RET ([], false)) (Bh (m6900_0.length) ([(v0, v1, v2, v3, v4, i64.wrap (v5 + x7_0), decide ((if (v8.length : Int) < (i64.wrap (x7_0 + w)) then (v8.length : Int) else i64.wrap (x7_0 + w)) < (v8.length : Int)), v7, [] ++ ((v8.take ((if (v8.length : Int) < (i64.wrap (x7_0 + w)) then (v8.length : Int) else i64.wrap (x7_0 + w)).toNat)).drop x7_0.toNat))].length) 80 (NX (i64.wrap (x7_0 + w)) (m6900_0 ++ [(v0, v1, v2, v3, v4, i64.wrap (v5 + x7_0), decide ((if (v8.length : Int) < (i64.wrap (x7_0 + w)) then (v8.length : Int) else i64.wrap (x7_0 + w)) < (v8.length : Int)), v7, [] ++ ((v8.take ((if (v8.length : Int) < (i64.wrap (x7_0 + w)) then (v8.length : Int) else i64.wrap (x7_0 + w)).toNat)).drop x7_0.toNat))]))))) none) none)
def F5 {β : Type} (NX : Int → Ak → Option β) (RET : (Ak × Bool) → Option β) (k : Nat) (v : (den Ac)) (w : Int) (x7_0 : Int) (m6900_0 : Ak) : Option β := cond (x7_0 == 0) (E4 k v w NX RET x7_0 m6900_0) (cond (decide (x7_0 < (v.2.2.2.2.2.2.2.2.length : Int))) (E4 k v w NX RET x7_0 m6900_0) (RET (m6900_0, true)))
def D4 (k : Nat) (v : (den Ac)) (w : Int) : Nat → Int → Ak → Option (Ak × Bool)
 | 0, _, _ => none
 | n + 1, x7_0, m6900_0 => F5 (D4 k v w n) some k v w x7_0 m6900_0
theorem Xbd {β : Type} (k : Nat) (v : (den Ac)) (w : Int) (K : KT β) (n : Nat) : ∀ (x7_0 : Int) (m6900_0 : Ak), Oa k v w K n x7_0 m6900_0 =
  (D4 k v w n x7_0 m6900_0).bind fun r => K (F205_O.put r) := by
 induction n with
 | zero => intros; rfl
 | succ n ih =>
  intro x7_0 m6900_0
  refine Eq.trans (b := F5 (Oa k v w K n) (fun r => K (F205_O.put r)) k v w x7_0 m6900_0) (by kernel_rfl) ?_
  rw [D4]
  simp only [F5, E4, z1, z2, z3, z4, z5, z6, z7, z8, Aw, ih]
def V0 {β : Type} (LP0 : Int → Ak → Option β) (RET : (Ak × Bool) → Option β) (k : Nat) (v : (den Ac)) (w : Int) : Option β := (G2 k v).bind fun b1 => cond (!b1) (RET ([], false)) ((K8 k w 1 48).bind fun b2 => cond (!b2) (RET ([], false)) (cond (decide ((v.2.2.2.2.2.2.2.2.length : Int) > w)) (cond v.2.2.2.2.2.2.2.1 (RET ([], false)) (LP0 0 [])) (LP0 0 [])))
def Za (k : Nat) (v : (den Ac)) (w : Int) : Option (Ak × Bool) := V0 (D4 k v w k) some k v w
theorem Xt1 {β : Type} (k : Nat) (v : (den Ac)) (w : Int) (K : KT β) : Ag (Vd k) Tryz.f205 (PsT.put Xck (v, w, ())) K = (Za k v w).bind fun r => K (F205_O.put r) :=
 Eq.trans (b := V0 (Oa k v w K k) (fun r => K (F205_O.put r)) k v w) (by kernel_rfl) (by simp only [Za, V0, z1, z2, z3, z4, z5, z6, z7, z8, Aw, Xbd])
def Xo4 (k : Nat) : FD := ⟨205, Xck, F205_O, Za k⟩
theorem X10 (k : Nat) : (Xo4 k).Ok Tryz.prog := ⟨fun x => Ab (Am (Aj (.c (Hx k) (.c (Gd k) .n))) _ _ _ _) Ah Tryz.func205 rfl rfl (Xt1 k _ _ some), .of (by kernel_rfl)⟩
abbrev X0f (k : Nat) : Env := Bc (Az [Xb1 k, Gx k, Rz k, Xm2 k, Xj4 k, Xo4 k]) An .own [] k
abbrev Xk6 : List PA := [.agg (.pair mI (.sl .ro B6)), .agg (.pair mI C1)]
abbrev F131_O : RO := ⟨[.a], [Xor]⟩
def Lz {β : Type} (k : Nat) (v : (den sta)) (w : (den Ac)) (RET : (den Pa) → Option β) (b5 : (den B6) × Bool) : Option β := (Lq k w).bind fun b8 => (Za k (b8.1, b8.2.1, b8.2.2.1, i64.wrap (w.2.2.2.1 - 1), b8.2.2.2.2) b5.1.2.2.2).bind fun b9 => cond (!b9.2) (RET (0, 0, [])) (RET (2, b5.1.2.2.1, b9.1))
def Wu {β : Type} (RET : (den Pa) → Option β) (k : Nat) (v : (den sta)) (w : (den Ac)) : Option β := (F129 k v).bind fun b1 => cond (!b1) (RET (0, 0, [])) ((G2 k w).bind fun b2 => cond (!b2) (RET (0, 0, [])) (cond (w.2.1 == v.1) ((Lq k w).bind fun b3 => RET (1, 0, [b3])) (cond (decide (w.2.2.2.1 < 2)) ((Y5 k v w 4 0).bind fun b4 => RET b4) ((Xf1 k v.2 w.2.1).bind fun b5 => cond (!b5.2) ((Y5 k v w 3 0).bind fun b6 => RET b6) (cond (decide ((w.2.2.2.2.2.2.2.2.length : Int) > b5.1.2.2.2)) (cond w.2.2.2.2.2.2.2.1 ((Y5 k v w 6 b5.1.2.2.2).bind fun b7 => RET b7) (Lz k v w RET b5)) (Lz k v w RET b5))))))
def Xbm := Wu (β := (den Pa)) some
theorem Xr7 {β : Type} (k : Nat) (v : (den sta)) (w : (den Ac)) (K : KT β) : Ag (X0f k) Tryz.f131 (PsT.put Xk6 (v, w, ())) K = (Xbm k v w).bind fun r => K (F131_O.put r) :=
 Eq.trans (b := Wu (fun r => K (F131_O.put r)) k v w) (by kernel_rfl) (by simp only [Xbm, Wu, Lz, z1, z2, z3, z4, z5, z6, z7, z8, Aw])
def Xon (k : Nat) : FD := ⟨131, Xk6, F131_O, Xbm k⟩
theorem X2a (k : Nat) : (Xon k).Ok Tryz.prog := ⟨fun x => Ab (Am (Aj (.c (Xkx k) (.c (Hx k) (.c (Xh k) (.c (X1s k) (.c (X2d k) (.c (X10 k) .n))))))) _ _ _ _) Ah Tryz.func131 rfl rfl (Xr7 k _ _ some), .of (by kernel_rfl)⟩
def Xxq : Nat → Hint
 | 0 => ⟨pl 0 2 (pl 5 1 []), []⟩
 | _ => ⟨[], []⟩
abbrev Xq (k : Nat) : Env := Bc Bv Xxq .own [] k
abbrev Xdf : List PA := [.one (.sl .ro sta), .one mI]
abbrev F132_O : RO := ⟨[.v], [mI]⟩
noncomputable def Xyw {β : Type} (k : Nat) (v : Af) (w : Int) (K : KT β) : Ex → St → Option β := Br (Xq k) Tryz.f132 (PsT.put Xdf (v, w, ())) K
def Xsh (v : Af) (w : Int) (x5_0 : Int) : St := ⟨(.one (.s .ro sta v)) :: (.one (vI w)) :: dz 3 ((.one (vI x5_0)) :: dz 14 []), []⟩
noncomputable def Od {β : Type} (k : Nat) (v : Af) (w : Int) (K : KT β) (n : Nat) (x5_0 : Int) : Option β := A3 (Xq k) Tryz.f132 [1, 0, 1, 0] 0 (Ai (Xq k) [1, 0, 1, 0] (Al Tryz.f132) 0 (Xyw k v w K)) n (Xsh v w x5_0)
def Js {β : Type} (NX : Int → Option β) (RET : Int → Option β) (k : Nat) (v : Af) (w : Int) (x5_0 : Int) : Option β := cond (decide (x5_0 < (v.length : Int))) (A1 x5_0 v (cond ((Ap v x5_0).1 == w) (RET x5_0) (NX (i64.wrap (x5_0 + 1))))) (RET (-1))
def J5 (k : Nat) (v : Af) (w : Int) : Nat → Int → Option (Int)
 | 0, _ => none
 | n + 1, x5_0 => Js (J5 k v w n) some k v w x5_0
theorem Z5 {β : Type} (k : Nat) (v : Af) (w : Int) (K : KT β) (n : Nat) : ∀ (x5_0 : Int), Od k v w K n x5_0 =
  (J5 k v w n x5_0).bind fun r => K (F132_O.put r) := by
 induction n with
 | zero => intros; rfl
 | succ n ih =>
  intro x5_0
  refine Eq.trans (b := Js (Od k v w K n) (fun r => K (F132_O.put r)) k v w x5_0) (by kernel_rfl) ?_
  rw [J5]
  simp only [Js, z1, z2, z3, z4, z5, z6, z7, z8, ih]
def Xcp {β : Type} (LP0 : Int → Option β) (k : Nat) (v : Af) (w : Int) : Option β := LP0 0
def Xg8 (k : Nat) (v : Af) (w : Int) : Option (Int) := Xcp (J5 k v w k) k v w
theorem Xrb {β : Type} (k : Nat) (v : Af) (w : Int) (K : KT β) : Ag (Xq k) Tryz.f132 (PsT.put Xdf (v, w, ())) K = (Xg8 k v w).bind fun r => K (F132_O.put r) :=
 Eq.trans (b := Xcp (Od k v w K k) k v w) (by kernel_rfl) (by simp only [Xg8, Xcp, z1, z2, z3, z4, z5, z6, z7, z8, Z5])
def Xm1 (k : Nat) : FD := ⟨132, Xdf, F132_O, Xg8 k⟩
theorem Xz6 (k : Nat) : (Xm1 k).Ok Tryz.prog := ⟨fun x => Ab (Am .none _ _ _ _) Ah Tryz.func132 rfl rfl (Xrb k _ _ some), .of (by kernel_rfl)⟩
def X30 : Nat → Hint
 | 0 => ⟨pl 0 1 (pl 6 2 ((8, .own .own (.int .i64) []) :: (9, .own .sown Ac []) :: (pl 10 1 []))), pl 6000 3 ((7000, .own .sown Ac []) :: (7001, .own .sown Ac []) :: (pl 7002 1 []))⟩
 | 2 => ⟨pl 0 1 (pl 6 2 ((8, .own .own (.int .i64) []) :: (9, .own .sown Ac []) :: (pl 10 4 []))), pl 6000 3 ((7000, .own .sown Ac []) :: (7001, .own .sown Ac []) :: (pl 7002 1 (pl 11000 2 ((11002, .own .sown Ac []) :: (pl 53002 1 [])))))⟩
 | _ => ⟨[], []⟩
abbrev Ir (k : Nat) : Env := Bc (Az [Xmk k, Gx k, Fu k, Xon k, Xm1 k]) X30 .ro [] k
abbrev Xig : List PA := [.one (.sl .ro sta), .one mI, .agg (.pair mI C1)]
abbrev F61_O : RO := ⟨[.a], [m_13]⟩
noncomputable def Xnt {β : Type} (k : Nat) (v : Af) (w : Int) (p : (den Ac)) (K : KT β) : Ex → St → Option β := Br (Ir k) Tryz.f61 (PsT.put Xig (v, w, p, ())) K
def Xx1 (v : Af) (w : Int) (p : (den Ac)) (x10_2 x12_2 x13_2 : Int) (m7000_2 : (den Cy)) (m11000_2 : (den Pa)) (m8900_2 : Bd) (m9900_2 : Ak) : St := ⟨(.one (.s .ro sta v)) :: dz 5 ((.one (.ptr (.cell 6000) 3 0)) :: (.one (.ptr (.cell 7000) 3 0)) :: (.one (.a (.cell 8900) 0 0 none)) :: (.one (.a (.cell 9900) 0 0 none)) :: (.one (vI x10_2)) :: (.one (.ptr (.cell 11000) 3 0)) :: (.one (vI x12_2)) :: (.one (vI x13_2)) :: dz 99 []), A7 6000 (Ce J7 ([], [], 0)) (A7 7000 (Ce Xoh m7000_2) (A7 11000 (Ce Xrv m11000_2) [eM 53002 .d, eM 8900 (.s .own (.int .i64) m8900_2), eM 9900 (.s .sown Ac m9900_2)]))⟩
noncomputable def Q4 {β : Type} (k : Nat) (v : Af) (w : Int) (p : (den Ac)) (KK : Ex → St → Option β) (n : Nat) (x10_2 x12_2 x13_2 : Int) (m7000_2 : (den Cy)) (m11000_2 : (den Pa)) (m8900_2 : Bd) (m9900_2 : Ak) : Option β := A3 (Ir k) Tryz.f61 [1, 1, 1, 1, 1, 0, 1, 0, 0, 1, 0, 0, 1, 1, 1, 1, 0] 2 KK n (Xx1 v w p x10_2 x12_2 x13_2 m7000_2 m11000_2 m8900_2 m9900_2)
def L5 {β : Type} (NX : Int → Int → Int → (den Cy) → (den Pa) → Bd → Ak → Option β) (EX0 : (Int × Int × Int × (den Pa) × (den Cy) × Bd × Ak) → Option β) (k : Nat) (v : Af) (w : Int) (p : (den Ac)) (x10_2 x12_2 x13_2 : Int) (m7000_2 : (den Cy)) (m11000_2 : (den Pa)) (m8900_2 : Bd) (m9900_2 : Ak) : Option β := cond (decide (x13_2 < (m11000_2.2.2.length : Int))) (cond (m11000_2.1 == 1) (A1 x13_2 m11000_2.2.2 (Bh (m7000_2.1.length) ([(Ap m11000_2.2.2 x13_2)].length) 80 (NX x10_2 x12_2 (i64.wrap (x13_2 + 1)) (m7000_2.1 ++ [(Ap m11000_2.2.2 x13_2)], m7000_2.2) m11000_2 m8900_2 m9900_2))) (cond (m11000_2.1 == 3) (A1 x13_2 m11000_2.2.2 (Bh (m7000_2.2.1.length) ([(Ap m11000_2.2.2 x13_2)].length) 80 (NX x10_2 x12_2 (i64.wrap (x13_2 + 1)) (m7000_2.1, m7000_2.2.1 ++ [(Ap m11000_2.2.2 x13_2)], m7000_2.2.2) m11000_2 m8900_2 m9900_2))) (cond (decide (x12_2 ≥ 0)) (Bh (m8900_2.length) ([x12_2].length) 8 (A1 x13_2 m11000_2.2.2 (Bh (m9900_2.length) ([(Ap m11000_2.2.2 x13_2)].length) 80 (NX x10_2 x12_2 (i64.wrap (x13_2 + 1)) m7000_2 m11000_2 (m8900_2 ++ [x12_2]) (m9900_2 ++ [(Ap m11000_2.2.2 x13_2)]))))) (NX x10_2 x12_2 (i64.wrap (x13_2 + 1)) m7000_2 m11000_2 m8900_2 m9900_2)))) (EX0 (x10_2, x12_2, x13_2, m11000_2, m7000_2, m8900_2, m9900_2))
def M7 (k : Nat) (v : Af) (w : Int) (p : (den Ac)) : Nat → Int → Int → Int → (den Cy) → (den Pa) → Bd → Ak → Option ((Int × Int × Int × (den Pa) × (den Cy) × Bd × Ak))
 | 0, _, _, _, _, _, _, _ => none
 | n + 1, x10_2, x12_2, x13_2, m7000_2, m11000_2, m8900_2, m9900_2 => L5 (M7 k v w p n) (fun y2 => some y2) k v w p x10_2 x12_2 x13_2 m7000_2 m11000_2 m8900_2 m9900_2
theorem Xhm {β : Type} (k : Nat) (v : Af) (w : Int) (p : (den Ac)) (KK : Ex → St → Option β) (n : Nat) : ∀ (x10_2 x12_2 x13_2 : Int) (m7000_2 : (den Cy)) (m11000_2 : (den Pa)) (m8900_2 : Bd) (m9900_2 : Ak), Q4 k v w p KK n x10_2 x12_2 x13_2 m7000_2 m11000_2 m8900_2 m9900_2 =
  (M7 k v w p n x10_2 x12_2 x13_2 m7000_2 m11000_2 m8900_2 m9900_2).bind fun y2 => KK (.exit 2) ⟨(.one (.s .ro sta v)) :: dz 5 ((.one (.ptr (.cell 6000) 3 0)) :: (.one (.ptr (.cell 7000) 3 0)) :: (.one (.a (.cell 8900) 0 0 none)) :: (.one (.a (.cell 9900) 0 0 none)) :: (.one (vI y2.1)) :: (.one (.ptr (.cell 11000) 3 0)) :: (.one (vI y2.2.1)) :: (.one (vI y2.2.2.1)) :: dz 48 ((.one (vI y2.2.2.1)) :: (.one (.ptr (.cell 11002) 1 0)) :: (.one (.a (.cell 11002) 0 0 none)) :: (.one (vI (y2.2.2.2.1.2.2.length : Int))) :: (.one (vB false)) :: dz 46 [])), A7 6000 (Ce J7 ([], [], 0)) (A7 7000 (Ce Xoh y2.2.2.2.2.1) (A7 11000 (Ce Xrv y2.2.2.2.1) [eM 53002 .d, eM 8900 (.s .own (.int .i64) y2.2.2.2.2.2.1), eM 9900 (.s .sown Ac y2.2.2.2.2.2.2)]))⟩ := by
 induction n with
 | zero => intros; rfl
 | succ n ih =>
  intro x10_2 x12_2 x13_2 m7000_2 m11000_2 m8900_2 m9900_2
  refine Eq.trans (b := L5 (Q4 k v w p KK n) (fun y2 => KK (.exit 2) ⟨(.one (.s .ro sta v)) :: dz 5 ((.one (.ptr (.cell 6000) 3 0)) :: (.one (.ptr (.cell 7000) 3 0)) :: (.one (.a (.cell 8900) 0 0 none)) :: (.one (.a (.cell 9900) 0 0 none)) :: (.one (vI y2.1)) :: (.one (.ptr (.cell 11000) 3 0)) :: (.one (vI y2.2.1)) :: (.one (vI y2.2.2.1)) :: dz 48 ((.one (vI y2.2.2.1)) :: (.one (.ptr (.cell 11002) 1 0)) :: (.one (.a (.cell 11002) 0 0 none)) :: (.one (vI (y2.2.2.2.1.2.2.length : Int))) :: (.one (vB false)) :: dz 46 [])), A7 6000 (Ce J7 ([], [], 0)) (A7 7000 (Ce Xoh y2.2.2.2.2.1) (A7 11000 (Ce Xrv y2.2.2.2.1) [eM 53002 .d, eM 8900 (.s .own (.int .i64) y2.2.2.2.2.2.1), eM 9900 (.s .sown Ac y2.2.2.2.2.2.2)]))⟩) k v w p x10_2 x12_2 x13_2 m7000_2 m11000_2 m8900_2 m9900_2) (by kernel_rfl) ?_
  rw [M7]
  simp only [L5, z1, z2, z3, z4, z5, z6, z7, z8, Aw, ih]
def Xxu (v : Af) (w : Int) (p : (den Ac)) (x10_0 : Int) (m7000_0 : (den Cy)) (m8900_0 : Bd) (m9900_0 : Ak) : St := ⟨(.one (.s .ro sta v)) :: dz 5 ((.one (.ptr (.cell 6000) 3 0)) :: (.one (.ptr (.cell 7000) 3 0)) :: (.one (.a (.cell 8900) 0 0 none)) :: (.one (.a (.cell 9900) 0 0 none)) :: (.one (vI x10_0)) :: dz 102 []), A7 6000 (Ce J7 ([], [], 0)) (A7 7000 (Ce Xoh m7000_0) [eM 8900 (.s .own (.int .i64) m8900_0), eM 9900 (.s .sown Ac m9900_0)])⟩
noncomputable def Qc {β : Type} (k : Nat) (v : Af) (w : Int) (p : (den Ac)) (K : KT β) (n : Nat) (x10_0 : Int) (m7000_0 : (den Cy)) (m8900_0 : Bd) (m9900_0 : Ak) : Option β := A3 (Ir k) Tryz.f61 [1, 1, 1, 1, 1, 0, 1, 0] 0 (Ai (Ir k) [1, 1, 1, 1, 1, 0, 1, 0] (Al Tryz.f61) 0 (Xnt k v w p K)) n (Xxu v w p x10_0 m7000_0 m8900_0 m9900_0)
def Du (k : Nat) (v : Af) (w : Int) (p : (den Ac)) : Nat → Int → (den Cy) → Bd → Ak → Option ((den Cy))
 | 0, _, _, _, _ => none
 | n + 1, x10_0, m7000_0, m8900_0, m9900_0 => cond (decide (x10_0 < (m9900_0.length : Int))) (A1 x10_0 m8900_0 (A1 (Ap m8900_0 x10_0) v (A1 x10_0 m9900_0 ((Xbm k (Ap v (Ap m8900_0 x10_0)) (Ap m9900_0 x10_0)).bind fun b4 => (Xg8 k v b4.2.1).bind fun b5 => (M7 k v w p k x10_0 b5 0 (m7000_0.1, m7000_0.2.1, i64.wrap (m7000_0.2.2 + 1)) b4 m8900_0 m9900_0).bind fun y2 => Du k v w p n (i64.wrap (y2.1 + 1)) y2.2.2.2.2.1 y2.2.2.2.2.2.1 y2.2.2.2.2.2.2)))) (some m7000_0)
theorem Zp {β : Type} (k n : Nat) (v : Af) (w : Int) (p : (den Ac)) (y2 : Int × Int × Int × (den Pa) × (den Cy) × Bd × Ak) (K : KT β) :
  (Ai (Ir k) [1, 0, 0, 1, 1, 1, 1, 0] (Bo [1, 1, 1, 1, 1, 0, 1, 0, 0] (Al Tryz.f61)) 0 (Dx (Ir k) Tryz.f61 [1, 1, 1, 1, 1, 0, 1, 0] 0 (Ai (Ir k) [1, 1, 1, 1, 1, 0, 1, 0] (Al Tryz.f61) 0 (Xnt k v w p K)) n)) (.exit 2) ⟨(.one (.s .ro sta v)) :: dz 5 ((.one (.ptr (.cell 6000) 3 0)) :: (.one (.ptr (.cell 7000) 3 0)) :: (.one (.a (.cell 8900) 0 0 none)) :: (.one (.a (.cell 9900) 0 0 none)) :: (.one (vI y2.1)) :: (.one (.ptr (.cell 11000) 3 0)) :: (.one (vI y2.2.1)) :: (.one (vI y2.2.2.1)) :: dz 48 ((.one (vI y2.2.2.1)) :: (.one (.ptr (.cell 11002) 1 0)) :: (.one (.a (.cell 11002) 0 0 none)) :: (.one (vI (y2.2.2.2.1.2.2.length : Int))) :: (.one (vB false)) :: dz 46 [])), A7 6000 (Ce J7 ([], [], 0)) (A7 7000 (Ce Xoh y2.2.2.2.2.1) (A7 11000 (Ce Xrv y2.2.2.2.1) [eM 53002 .d, eM 8900 (.s .own (.int .i64) y2.2.2.2.2.2.1), eM 9900 (.s .sown Ac y2.2.2.2.2.2.2)]))⟩ =
  Qc k v w p K n (i64.wrap (y2.1 + 1)) y2.2.2.2.2.1 y2.2.2.2.2.2.1 y2.2.2.2.2.2.2 := by kernel_rfl
theorem Xhw {β : Type} (k : Nat) (v : Af) (w : Int) (p : (den Ac)) (K : KT β) (n : Nat) : ∀ (x10_0 : Int) (m7000_0 : (den Cy)) (m8900_0 : Bd) (m9900_0 : Ak), Qc k v w p K n x10_0 m7000_0 m8900_0 m9900_0 =
  (Du k v w p n x10_0 m7000_0 m8900_0 m9900_0).bind fun r => K (F61_O.put r) := by
 induction n with
 | zero => intros; rfl
 | succ n ih =>
  intro x10_0 m7000_0 m8900_0 m9900_0
  refine Eq.trans (b := cond (decide (x10_0 < (m9900_0.length : Int))) (A1 x10_0 m8900_0 (A1 (Ap m8900_0 x10_0) v (A1 x10_0 m9900_0 ((Xbm k (Ap v (Ap m8900_0 x10_0)) (Ap m9900_0 x10_0)).bind fun b4 => (Xg8 k v b4.2.1).bind fun b5 => Q4 k v w p (Ai (Ir k) [1, 0, 0, 1, 1, 1, 1, 0] (Bo [1, 1, 1, 1, 1, 0, 1, 0, 0] (Al Tryz.f61)) 0 (Dx (Ir k) Tryz.f61 [1, 1, 1, 1, 1, 0, 1, 0] 0 (Ai (Ir k) [1, 1, 1, 1, 1, 0, 1, 0] (Al Tryz.f61) 0 (Xnt k v w p K)) n)) k x10_0 b5 0 (m7000_0.1, m7000_0.2.1, i64.wrap (m7000_0.2.2 + 1)) b4 m8900_0 m9900_0)))) (K (F61_O.put m7000_0))) (by kernel_rfl) ?_
  rw [Du]
  simp only [z1, z2, z3, z4, z5, z6, z7, z8, Aw, Xhm, Zp k n v w p _ K, ih, A1, Bh]
def Xz {β : Type} (LP0 : Int → (den Cy) → Bd → Ak → Option β) (RET : (den Cy) → Option β) (k : Nat) (v : Af) (w : Int) (p : (den Ac)) : Option β := Aw p fun p0 p1 p2 p3 p4 p5 p6 p7 p8 => (F59 k v).bind fun b1 => cond (!b1) (RET ([], [], 0)) ((G2 k p).bind fun b2 => cond (!b2) (RET ([], [], 0)) ((K8 k w 0 (i64.wrap ((v.length : Int) - 1))).bind fun b3 => cond (!b3) (RET ([], [], 0)) (LP0 0 ([], [], 0) [w] [(p0, p1, p2, p3, p4, p5, p6, p7, p8)])))
def F61 (k : Nat) (v : Af) (w : Int) (p : (den Ac)) : Option ((den Cy)) := Xz (Du k v w p k) some k v w p
theorem Xyj {β : Type} (k : Nat) (v : Af) (w : Int) (p : (den Ac)) (K : KT β) : Ag (Ir k) Tryz.f61 (PsT.put Xig (v, w, p, ())) K = (F61 k v w p).bind fun r => K (F61_O.put r) :=
 Eq.trans (b := Xz (Qc k v w p K k) (fun r => K (F61_O.put r)) k v w p) (by kernel_rfl) (by simp only [F61, Xz, z1, z2, z3, z4, z5, z6, z7, z8, Aw, Xhw])
def Xux (k : Nat) : FD := ⟨61, Xig, F61_O, F61 k⟩
theorem X3r (k : Nat) : (Xux k).Ok Tryz.prog := ⟨fun x => Ab (Am (Aj (.c (Xun k) (.c (Hx k) (.c (Gd k) (.c (X2a k) (.c (Xz6 k) .n)))))) _ _ _ _) Ah Tryz.func61 rfl rfl (Xyj k _ _ _ some), .of (by kernel_rfl)⟩
abbrev Xwz (k : Nat) : Env := Bc Bv An .own [] k
abbrev Xox : List PA := [.agg (.pair mI C1), .agg (.pair mI C1)]
abbrev F134_O : RO := ⟨[.v], [mB]⟩
def Vz {β : Type} (RET : Bool → Option β) (k : Nat) (v w : (den Ac)) : Option β := cond (v.1 == w.1) (cond (v.2.1 == w.2.1) (cond (v.2.2.1 == w.2.2.1) (RET (v.2.2.2.2.1 == w.2.2.2.2.1)) (RET false)) (RET false)) (RET false)
def W9 := Vz (β := Bool) some
theorem Xqx {β : Type} (k : Nat) (v w : (den Ac)) (K : KT β) : Ag (Xwz k) Tryz.f134 (PsT.put Xox (v, w, ())) K = (W9 k v w).bind fun r => K (F134_O.put r) :=
 Eq.trans (b := Vz (fun r => K (F134_O.put r)) k v w) (by kernel_rfl) (by simp only [W9, Vz, z1, z2, z3, z4, z5, z6, z7, z8, Aw])
def R0 (k : Nat) : FD := ⟨134, Xox, F134_O, W9 k⟩
theorem Xd (k : Nat) : (R0 k).Ok Tryz.prog := ⟨fun x => Ab (Am .none _ _ _ _) Ah Tryz.func134 rfl rfl (Xqx k _ _ some), .of (by kernel_rfl)⟩
def X1o : Nat → Hint
 | 0 => ⟨pl 1 1 (pl 3 2 []), pl 1000 2 []⟩
 | _ => ⟨[], []⟩
abbrev Xc (k : Nat) : Env := Bc (Az [Gx k, R0 k, Fu k]) X1o .own [] k
abbrev Xcq : List PA := [.agg (.pair (.sl .ro Ac) mI)]
abbrev F206_O : RO := ⟨[.v], [mB]⟩
noncomputable def Xzo {β : Type} (k : Nat) (v : (den Ax)) (K : KT β) : Ex → St → Option β := Br (Xc k) Tryz.f206 (PsT.put Xcq (v, ())) K
def Xq8 (v : (den Ax)) (x3_0 x4_0 : Int) : St := ⟨(.one .d) :: (.one (.ptr (.cell 1000) 2 0)) :: (.one .d) :: (.one (vI x3_0)) :: (.one (vI x4_0)) :: dz 78 [], A7 1000 (Ce (.pair (.sl .ro Ac) mI) v) []⟩
noncomputable def N0 {β : Type} (k : Nat) (v : (den Ax)) (K : KT β) (n : Nat) (x3_0 x4_0 : Int) : Option β := A3 (Xc k) Tryz.f206 [1, 1, 0, 1, 0] 0 (Ai (Xc k) [1, 1, 0, 1, 0] (Al Tryz.f206) 0 (Xzo k v K)) n (Xq8 v x3_0 x4_0)
def F1 {β : Type} (NX : Int → Int → Option β) (RET : Bool → Option β) (k : Nat) (v : (den Ax)) (x3_0 x4_0 : Int) : Option β := Bb v fun v0 v1 => cond (decide (x4_0 < (v0.length : Int))) (A1 x4_0 v0 ((G2 k (Ap v0 x4_0)).bind fun b1 => cond (!b1) (RET false) (cond (decide (0 < (v0.length : Int))) ((W9 k (Ap v0 x4_0) (Ap v0 0)).bind fun b2 => cond (!b2) (RET false) (cond (decide (x4_0 > 0)) (A1 (i64.wrap (x4_0 - 1)) v0 (A1 (i64.wrap (x4_0 - 1)) v0 (cond (decide ((Ap v0 x4_0).2.2.2.2.2.1 < (i64.wrap ((Ap v0 (i64.wrap (x4_0 - 1))).2.2.2.2.2.1 + ((Ap v0 (i64.wrap (x4_0 - 1))).2.2.2.2.2.2.2.2.length : Int))))) (RET false) (A1 (i64.wrap (x4_0 - 1)) v0 (cond (!(Ap v0 (i64.wrap (x4_0 - 1))).2.2.2.2.2.2.1) (RET false) (NX (i64.wrap (x3_0 + ((Ap v0 x4_0).2.2.2.2.2.2.2.2.length : Int))) (i64.wrap (x4_0 + 1)))))))) (NX (i64.wrap (x3_0 + ((Ap v0 x4_0).2.2.2.2.2.2.2.2.length : Int))) (i64.wrap (x4_0 + 1))))) none))) (cond (decide ((v0.length : Int) > 0)) (cond (decide (x3_0 ≤ 48)) ((K8 k v1 0 1000000).bind fun b3 => RET b3) (RET false)) (RET false))
def D9 (k : Nat) (v : (den Ax)) : Nat → Int → Int → Option (Bool)
 | 0, _, _ => none
 | n + 1, x3_0, x4_0 => F1 (D9 k v n) some k v x3_0 x4_0
theorem Xa3 {β : Type} (k : Nat) (v : (den Ax)) (K : KT β) (n : Nat) : ∀ (x3_0 x4_0 : Int), N0 k v K n x3_0 x4_0 =
  (D9 k v n x3_0 x4_0).bind fun r => K (F206_O.put r) := by
 induction n with
 | zero => intros; rfl
 | succ n ih =>
  intro x3_0 x4_0
  refine Eq.trans (b := F1 (N0 k v K n) (fun r => K (F206_O.put r)) k v x3_0 x4_0) (by kernel_rfl) ?_
  rw [D9]
  simp only [F1, z1, z2, z3, z4, z5, z6, z7, z8, Bb, ih]
def Xai {β : Type} (LP0 : Int → Int → Option β) (k : Nat) (v : (den Ax)) : Option β := LP0 0 0
def P5 (k : Nat) (v : (den Ax)) : Option (Bool) := Xai (D9 k v k) k v
theorem Xpq {β : Type} (k : Nat) (v : (den Ax)) (K : KT β) : Ag (Xc k) Tryz.f206 (PsT.put Xcq (v, ())) K = (P5 k v).bind fun r => K (F206_O.put r) :=
 Eq.trans (b := Xai (N0 k v K k) k v) (by kernel_rfl) (by simp only [P5, Xai, z1, z2, z3, z4, z5, z6, z7, z8, Bb, Xa3])
def Xa (k : Nat) : FD := ⟨206, Xcq, F206_O, P5 k⟩
theorem Xda (k : Nat) : (Xa k).Ok Tryz.prog := ⟨fun x => Ab (Am (Aj (.c (Hx k) (.c (Xd k) (.c (Gd k) .n)))) _ _ _ _) Ah Tryz.func206 rfl rfl (Xpq k _ some), .of (by kernel_rfl)⟩
end
end Go.Proofs.YtdmepjjepogddaaGreat.Gn
end

section
set_option linter.unusedVariables false
set_option linter.unusedSimpArgs false
namespace Go.Proofs.YtdmepjjepogddaaGreat.Gn
open Go.Rf IntKind
noncomputable section
def X1f : Nat → Hint
 | 0 => ⟨pl 0 1 (pl 3 1 []), []⟩
 | 2 => ⟨pl 0 1 (pl 3 2 []), []⟩
 | _ => ⟨[], []⟩
abbrev Cz (k : Nat) : Env := Bc (Az [Xa k, R0 k]) X1f .own [] k
abbrev Xap : List PA := [.one (.sl .ro Ax)]
abbrev F133_O : RO := ⟨[.v], [mB]⟩
noncomputable def Vs {β : Type} (k : Nat) (v : Ad) (K : KT β) : Ex → St → Option β := Br (Cz k) Tryz.f133 (PsT.put Xap (v, ())) K
def Xqb (v : Ad) (x3_2 x4_2 : Int) : St := ⟨(.one (.s .ro Ax v)) :: (.one .d) :: (.one .d) :: (.one (vI x3_2)) :: (.one (vI x4_2)) :: dz 35 [], []⟩
noncomputable def Mx {β : Type} (k : Nat) (v : Ad) (KK : Ex → St → Option β) (n : Nat) (x3_2 x4_2 : Int) : Option β := A3 (Cz k) Tryz.f133 [1, 0, 1, 0, 0, 1, 0, 0, 1, 1, 0] 2 KK n (Xqb v x3_2 x4_2)
def Ja {β : Type} (NX : Int → Int → Option β) (EX0 : (Int × Int) → Option β) (EX1 : (Int × Int) → Option β) (k : Nat) (v : Ad) (x3_2 x4_2 : Int) : Option β := cond (decide (x4_2 < x3_2)) (A1 x4_2 v (cond (decide (0 < ((Ap v x4_2).1.length : Int))) (A1 x3_2 v (cond (decide (0 < ((Ap v x3_2).1.length : Int))) ((W9 k (Ap (Ap v x4_2).1 0) (Ap (Ap v x3_2).1 0)).bind fun b2 => cond b2 (EX0 (x3_2, x4_2)) (NX x3_2 (i64.wrap (x4_2 + 1)))) none)) none)) (EX1 (x3_2, x4_2))
def Jh (k : Nat) (v : Ad) : Nat → Int → Int → Option ((Sum (Int × Int) (Int × Int)))
 | 0, _, _ => none
 | n + 1, x3_2, x4_2 => Ja (Jh k v n) (fun y2 => some (.inl y2)) (fun y2 => some (.inr y2)) k v x3_2 x4_2
theorem Xdm {β : Type} (k : Nat) (v : Ad) (KK : Ex → St → Option β) (n : Nat) : ∀ (x3_2 x4_2 : Int), Mx k v KK n x3_2 x4_2 =
  (Jh k v n x3_2 x4_2).bind fun z => Y2 (fun y2 => KK .ret ⟨(.one (.s .ro Ax v)) :: (.one .d) :: (.one (vB false)) :: (.one (vI y2.1)) :: (.one (vI y2.2)) :: dz 12 ((.one (vI y2.2)) :: (.one (vI y2.1)) :: (.one (vB true)) :: (.one .d) :: (.one .d) :: (.one (.s .ro Ax v)) :: (.one (vI y2.2)) :: (.one (.ptr (.elem 24000 y2.2.toNat 0) 2 0)) :: (.one (.ptr (.elem 24000 y2.2.toNat 0) 2 0)) :: (.one (.s .ro Ac (Ap v y2.2).1)) :: (.one (.ptr (.elem 27000 0 0) 9 0)) :: (.agg (Ce (.pair mI C1) (Ap (Ap v y2.2).1 0))) :: (.one (.s .ro Ax v)) :: (.one (vI y2.1)) :: (.one (.ptr (.elem 31000 y2.1.toNat 0) 2 0)) :: (.one (.ptr (.elem 31000 y2.1.toNat 0) 2 0)) :: (.one (.s .ro Ac (Ap v y2.1).1)) :: (.one (.ptr (.elem 34000 0 0) 9 0)) :: (.agg (Ce (.pair mI C1) (Ap (Ap v y2.1).1 0))) :: (.one (vB true)) :: dz 3 []), [eM 24000 (.s .ro Ax v), eM 27000 (.s .ro Ac (Ap v y2.2).1), eM 31000 (.s .ro Ax v), eM 34000 (.s .ro Ac (Ap v y2.1).1)]⟩) (fun y2 => KK (.exit 2) ⟨(.one (.s .ro Ax v)) :: (.one .d) :: (.one .d) :: (.one (vI y2.1)) :: (.one (vI y2.2)) :: dz 12 ((.one (vI y2.2)) :: (.one (vI y2.1)) :: (.one (vB false)) :: dz 20 []), []⟩) z := by
 induction n with
 | zero => intros; rfl
 | succ n ih =>
  intro x3_2 x4_2
  refine Eq.trans (b := Ja (Mx k v KK n) (fun y2 => KK .ret ⟨(.one (.s .ro Ax v)) :: (.one .d) :: (.one (vB false)) :: (.one (vI y2.1)) :: (.one (vI y2.2)) :: dz 12 ((.one (vI y2.2)) :: (.one (vI y2.1)) :: (.one (vB true)) :: (.one .d) :: (.one .d) :: (.one (.s .ro Ax v)) :: (.one (vI y2.2)) :: (.one (.ptr (.elem 24000 y2.2.toNat 0) 2 0)) :: (.one (.ptr (.elem 24000 y2.2.toNat 0) 2 0)) :: (.one (.s .ro Ac (Ap v y2.2).1)) :: (.one (.ptr (.elem 27000 0 0) 9 0)) :: (.agg (Ce (.pair mI C1) (Ap (Ap v y2.2).1 0))) :: (.one (.s .ro Ax v)) :: (.one (vI y2.1)) :: (.one (.ptr (.elem 31000 y2.1.toNat 0) 2 0)) :: (.one (.ptr (.elem 31000 y2.1.toNat 0) 2 0)) :: (.one (.s .ro Ac (Ap v y2.1).1)) :: (.one (.ptr (.elem 34000 0 0) 9 0)) :: (.agg (Ce (.pair mI C1) (Ap (Ap v y2.1).1 0))) :: (.one (vB true)) :: dz 3 []), [eM 24000 (.s .ro Ax v), eM 27000 (.s .ro Ac (Ap v y2.2).1), eM 31000 (.s .ro Ax v), eM 34000 (.s .ro Ac (Ap v y2.1).1)]⟩) (fun y2 => KK (.exit 2) ⟨(.one (.s .ro Ax v)) :: (.one .d) :: (.one .d) :: (.one (vI y2.1)) :: (.one (vI y2.2)) :: dz 12 ((.one (vI y2.2)) :: (.one (vI y2.1)) :: (.one (vB false)) :: dz 20 []), []⟩) k v x3_2 x4_2) (by kernel_rfl) ?_
  rw [Jh]
  simp only [Ja, z1, z2, z3, z4, z5, z6, z7, z8, ih]
def Xtk (v : Ad) (x3_0 : Int) : St := ⟨(.one (.s .ro Ax v)) :: (.one .d) :: (.one .d) :: (.one (vI x3_0)) :: dz 36 [], []⟩
noncomputable def N3 {β : Type} (k : Nat) (v : Ad) (K : KT β) (n : Nat) (x3_0 : Int) : Option β := A3 (Cz k) Tryz.f133 [1, 0, 1, 0] 0 (Ai (Cz k) [1, 0, 1, 0] (Al Tryz.f133) 0 (Vs k v K)) n (Xtk v x3_0)
def E9 (k : Nat) (v : Ad) : Nat → Int → Option (Bool)
 | 0, _ => none
 | n + 1, x3_0 => cond (decide (x3_0 < (v.length : Int))) (A1 x3_0 v ((P5 k (Ap v x3_0)).bind fun b1 => cond (!b1) (some false) ((Jh k v k x3_0 0).bind fun z2 => Y2 (fun y2 => some false) (fun y2 => E9 k v n (i64.wrap (y2.1 + 1))) z2))) (some (decide ((v.length : Int) ≤ 3)))
theorem T5 {β : Type} (k n : Nat) (v : Ad) (y2 : Int × Int) (K : KT β) :
  (Ai (Cz k) [1, 0, 0, 1, 1, 0] (Bo [1, 0, 1, 0, 0] (Al Tryz.f133)) 0 (Dx (Cz k) Tryz.f133 [1, 0, 1, 0] 0 (Ai (Cz k) [1, 0, 1, 0] (Al Tryz.f133) 0 (Vs k v K)) n)) .ret ⟨(.one (.s .ro Ax v)) :: (.one .d) :: (.one (vB false)) :: (.one (vI y2.1)) :: (.one (vI y2.2)) :: dz 12 ((.one (vI y2.2)) :: (.one (vI y2.1)) :: (.one (vB true)) :: (.one .d) :: (.one .d) :: (.one (.s .ro Ax v)) :: (.one (vI y2.2)) :: (.one (.ptr (.elem 24000 y2.2.toNat 0) 2 0)) :: (.one (.ptr (.elem 24000 y2.2.toNat 0) 2 0)) :: (.one (.s .ro Ac (Ap v y2.2).1)) :: (.one (.ptr (.elem 27000 0 0) 9 0)) :: (.agg (Ce (.pair mI C1) (Ap (Ap v y2.2).1 0))) :: (.one (.s .ro Ax v)) :: (.one (vI y2.1)) :: (.one (.ptr (.elem 31000 y2.1.toNat 0) 2 0)) :: (.one (.ptr (.elem 31000 y2.1.toNat 0) 2 0)) :: (.one (.s .ro Ac (Ap v y2.1).1)) :: (.one (.ptr (.elem 34000 0 0) 9 0)) :: (.agg (Ce (.pair mI C1) (Ap (Ap v y2.1).1 0))) :: (.one (vB true)) :: dz 3 []), [eM 24000 (.s .ro Ax v), eM 27000 (.s .ro Ac (Ap v y2.2).1), eM 31000 (.s .ro Ax v), eM 34000 (.s .ro Ac (Ap v y2.1).1)]⟩ =
  K (F133_O.put false) := by kernel_rfl
theorem U9 {β : Type} (k n : Nat) (v : Ad) (y2 : Int × Int) (K : KT β) :
  (Ai (Cz k) [1, 0, 0, 1, 1, 0] (Bo [1, 0, 1, 0, 0] (Al Tryz.f133)) 0 (Dx (Cz k) Tryz.f133 [1, 0, 1, 0] 0 (Ai (Cz k) [1, 0, 1, 0] (Al Tryz.f133) 0 (Vs k v K)) n)) (.exit 2) ⟨(.one (.s .ro Ax v)) :: (.one .d) :: (.one .d) :: (.one (vI y2.1)) :: (.one (vI y2.2)) :: dz 12 ((.one (vI y2.2)) :: (.one (vI y2.1)) :: (.one (vB false)) :: dz 20 []), []⟩ =
  N3 k v K n (i64.wrap (y2.1 + 1)) := by kernel_rfl
theorem Xan {β : Type} (k : Nat) (v : Ad) (K : KT β) (n : Nat) : ∀ (x3_0 : Int), N3 k v K n x3_0 =
  (E9 k v n x3_0).bind fun r => K (F133_O.put r) := by
 induction n with
 | zero => intros; rfl
 | succ n ih =>
  intro x3_0
  refine Eq.trans (b := cond (decide (x3_0 < (v.length : Int))) (A1 x3_0 v ((P5 k (Ap v x3_0)).bind fun b1 => cond (!b1) (K (F133_O.put false)) (Mx k v (Ai (Cz k) [1, 0, 0, 1, 1, 0] (Bo [1, 0, 1, 0, 0] (Al Tryz.f133)) 0 (Dx (Cz k) Tryz.f133 [1, 0, 1, 0] 0 (Ai (Cz k) [1, 0, 1, 0] (Al Tryz.f133) 0 (Vs k v K)) n)) k x3_0 0))) (K (F133_O.put (decide ((v.length : Int) ≤ 3))))) (by kernel_rfl) ?_
  rw [E9]
  simp only [z1, z2, z3, z4, z5, z6, z7, z8, Xdm, T5 k n v _ K, U9 k n v _ K, ih, A1, Bh]
def Sb {β : Type} (LP0 : Int → Option β) (k : Nat) (v : Ad) : Option β := LP0 0
def Yk (k : Nat) (v : Ad) : Option (Bool) := Sb (E9 k v k) k v
theorem Xs6 {β : Type} (k : Nat) (v : Ad) (K : KT β) : Ag (Cz k) Tryz.f133 (PsT.put Xap (v, ())) K = (Yk k v).bind fun r => K (F133_O.put r) :=
 Eq.trans (b := Sb (N3 k v K k) k v) (by kernel_rfl) (by simp only [Yk, Sb, z1, z2, z3, z4, z5, z6, z7, z8, Xan])
def Xns (k : Nat) : FD := ⟨133, Xap, F133_O, Yk k⟩
theorem Xwe (k : Nat) : (Xns k).Ok Tryz.prog := ⟨fun x => Ab (Am (Aj (.c (Xda k) (.c (Xd k) .n))) _ _ _ _) Ah Tryz.func133 rfl rfl (Xs6 k _ some), .of (by kernel_rfl)⟩
def X08 : Nat → Hint
 | 0 => ⟨pl 2 3 (pl 6 3 []), pl 2000 2 (pl 3000 9 (pl 4000 2 (pl 6000 2 [])))⟩
 | 2 => ⟨pl 2 3 (pl 6 2 (pl 10 1 [])), pl 2000 2 (pl 3000 9 (pl 4000 2 ((6000, .own .own Ac []) :: (pl 6001 1 []))))⟩
 | _ => ⟨[], []⟩
abbrev Mk (k : Nat) : Env := Bc (Az [Xa k, Gx k, R0 k, Rz k]) X08 .own [] k
abbrev Xay : List PA := [.agg (.pair (.sl .ro Ac) mI), .agg (.pair mI C1)]
abbrev F135_O : RO := ⟨[.a, .v], [.pair (.sl .own Ac) mI, mB]⟩
noncomputable def Xmz {β : Type} (k : Nat) (v : (den Ax)) (w : (den Ac)) (K : KT β) : Ex → St → Option β := Br (Mk k) Tryz.f135 (PsT.put Xay (v, w, ())) K
def Xs7 (v : (den Ax)) (w : (den Ac)) (x7_2 : Bool) (x10_2 : Int) (m6000_2 : (den Ax)) : St := ⟨(.one .d) :: (.one .d) :: (.one (.ptr (.cell 2000) 2 0)) :: (.one (.ptr (.cell 3000) 9 0)) :: (.one (.ptr (.cell 4000) 2 0)) :: (.one .d) :: (.one (.ptr (.cell 6000) 2 0)) :: (.one (vB x7_2)) :: (.one .d) :: (.one .d) :: (.one (vI x10_2)) :: dz 106 [], A7 2000 (Ce (.pair (.sl .ro Ac) mI) v) (A7 3000 (Ce (.pair mI C1) w) (A7 4000 (Ce (.pair (.sl .own Ac) mI) ([], 0)) (A7 6000 (Ce (.pair (.sl .own Ac) mI) m6000_2) [])))⟩
noncomputable def Ms {β : Type} (k : Nat) (v : (den Ax)) (w : (den Ac)) (K : KT β) (n : Nat) (x7_2 : Bool) (x10_2 : Int) (m6000_2 : (den Ax)) : Option β := A3 (Mk k) Tryz.f135 [1, 1, 1, 1, 1, 0, 1, 0] 2 (Ai (Mk k) [1, 1, 1, 1, 1, 0, 1, 0] (Al Tryz.f135) 0 (Xmz k v w K)) n (Xs7 v w x7_2 x10_2 m6000_2)
def Hn {β : Type} (k : Nat) (v : (den Ax)) (w : (den Ac)) (NX : Bool → Int → (den Ax) → Option β) (RET : (den Ax) × Bool → Option β) (x10_2 : Int) (m6000_2 : (den Ax)) (x7_2 : Bool) : Option β := A1 x10_2 v.1 ((Lq k (Ap v.1 x10_2)).bind fun b6 => Bh (m6000_2.1.length) ([b6].length) 80 (NX x7_2 (i64.wrap (x10_2 + 1)) (m6000_2.1 ++ [b6], m6000_2.2)))
def Jc {β : Type} (NX : Bool → Int → (den Ax) → Option β) (RET : (den Ax) × Bool → Option β) (k : Nat) (v : (den Ax)) (w : (den Ac)) (x7_2 : Bool) (x10_2 : Int) (m6000_2 : (den Ax)) : Option β := Bb v fun v0 _ => cond (decide (x10_2 < (v0.length : Int))) (cond (!x7_2) (A1 x10_2 v0 (cond (decide (w.2.2.2.2.2.1 < (Ap v0 x10_2).2.2.2.2.2.1)) ((Lq k w).bind fun b4 => Bh (m6000_2.1.length) ([b4].length) 80 (A1 x10_2 v0 ((Lq k (Ap v0 x10_2)).bind fun b5 => Bh ((m6000_2.1 ++ [b4]).length) ([b5].length) 80 (NX true (i64.wrap (x10_2 + 1)) ((m6000_2.1 ++ [b4]) ++ [b5], m6000_2.2))))) (Hn k v w NX RET x10_2 m6000_2 x7_2))) (Hn k v w NX RET x10_2 m6000_2 x7_2)) (cond (!x7_2) ((Lq k w).bind fun b8 => Bh (m6000_2.1.length) ([b8].length) 80 ((P5 k (m6000_2.1 ++ [b8], m6000_2.2)).bind fun b9 => cond (!b9) (RET (([], 0), false)) (RET ((m6000_2.1 ++ [b8], m6000_2.2), true)))) ((P5 k m6000_2).bind fun b10 => cond (!b10) (RET (([], 0), false)) (RET (m6000_2, true))))
def G8 (k : Nat) (v : (den Ax)) (w : (den Ac)) : Nat → Bool → Int → (den Ax) → Option ((den Ax) × Bool)
 | 0, _, _, _ => none
 | n + 1, x7_2, x10_2, m6000_2 => Jc (G8 k v w n) some k v w x7_2 x10_2 m6000_2
theorem Xcs {β : Type} (k : Nat) (v : (den Ax)) (w : (den Ac)) (K : KT β) (n : Nat) : ∀ (x7_2 : Bool) (x10_2 : Int) (m6000_2 : (den Ax)), Ms k v w K n x7_2 x10_2 m6000_2 =
  (G8 k v w n x7_2 x10_2 m6000_2).bind fun r => K (F135_O.put r) := by
 induction n with
 | zero => intros; rfl
 | succ n ih =>
  intro x7_2 x10_2 m6000_2
  refine Eq.trans (b := Jc (Ms k v w K n) (fun r => K (F135_O.put r)) k v w x7_2 x10_2 m6000_2) (by kernel_rfl) ?_
  rw [G8]
  simp only [Jc, Hn, z1, z2, z3, z4, z5, z6, z7, z8, Aw, Bb, ih]
def Xr2 (v : (den Ax)) (w : (den Ac)) (x7_0 : Bool) (x8_0 : Int) : St := ⟨(.one .d) :: (.one .d) :: (.one (.ptr (.cell 2000) 2 0)) :: (.one (.ptr (.cell 3000) 9 0)) :: (.one (.ptr (.cell 4000) 2 0)) :: (.one .d) :: (.one (.ptr (.cell 6000) 2 0)) :: (.one (vB x7_0)) :: (.one (vI x8_0)) :: dz 108 [], A7 2000 (Ce (.pair (.sl .ro Ac) mI) v) (A7 3000 (Ce (.pair mI C1) w) (A7 4000 (Ce (.pair (.sl .own Ac) mI) ([], 0)) (A7 6000 (Ce (.pair (.sl .own Ac) mI) ([], v.2)) [])))⟩
noncomputable def Nv {β : Type} (k : Nat) (v : (den Ax)) (w : (den Ac)) (K : KT β) (n : Nat) (x7_0 : Bool) (x8_0 : Int) : Option β := A3 (Mk k) Tryz.f135 [1, 1, 1, 1, 0, 1, 0] 0 (Ai (Mk k) [1, 1, 1, 1, 0, 1, 0] (Al Tryz.f135) 0 (Xmz k v w K)) n (Xr2 v w x7_0 x8_0)
def I6 {β : Type} (NX : Bool → Int → Option β) (LP2 : Bool → Int → (den Ax) → Option β) (k : Nat) (v : (den Ax)) (w : (den Ac)) (x7_0 : Bool) (x8_0 : Int) : Option β := Bb v fun v0 v1 => cond (decide (x8_0 < (v0.length : Int))) (A1 x8_0 v0 (cond ((Ap v0 x8_0).2.2.2.2.2.1 == w.2.2.2.2.2.1) (cond ((Ap v0 x8_0).2.2.2.2.2.2.1 == w.2.2.2.2.2.2.1) (cond ((Ke (Ap v0 x8_0).2.2.2.2.2.2.2.2).toList == (Ke w.2.2.2.2.2.2.2.2).toList) (NX true (i64.wrap (x8_0 + 1))) (NX x7_0 (i64.wrap (x8_0 + 1)))) (NX x7_0 (i64.wrap (x8_0 + 1)))) (NX x7_0 (i64.wrap (x8_0 + 1))))) (LP2 x7_0 0 ([], v1))
def Jr (k : Nat) (v : (den Ax)) (w : (den Ac)) : Nat → Bool → Int → Option ((den Ax) × Bool)
 | 0, _, _ => none
 | n + 1, x7_0, x8_0 => I6 (Jr k v w n) (G8 k v w k) k v w x7_0 x8_0
theorem Xdj {β : Type} (k : Nat) (v : (den Ax)) (w : (den Ac)) (K : KT β) (n : Nat) : ∀ (x7_0 : Bool) (x8_0 : Int), Nv k v w K n x7_0 x8_0 =
  (Jr k v w n x7_0 x8_0).bind fun r => K (F135_O.put r) := by
 induction n with
 | zero => intros; rfl
 | succ n ih =>
  intro x7_0 x8_0
  refine Eq.trans (b := I6 (Nv k v w K n) (Ms k v w K k) k v w x7_0 x8_0) (by kernel_rfl) ?_
  rw [Jr]
  simp only [I6, z1, z2, z3, z4, z5, z6, z7, z8, Aw, Bb, Xcs, ih]
def V8 {β : Type} (LP0 : Bool → Int → Option β) (RET : (den Ax) × Bool → Option β) (k : Nat) (v : (den Ax)) (w : (den Ac)) : Option β := (P5 k v).bind fun b1 => cond (!b1) (RET (([], 0), false)) ((G2 k w).bind fun b2 => cond (!b2) (RET (([], 0), false)) (cond (decide (0 < (v.1.length : Int))) ((W9 k (Ap v.1 0) w).bind fun b3 => cond (!b3) (RET (([], 0), false)) (LP0 false 0)) none))
def Xhz (k : Nat) (v : (den Ax)) (w : (den Ac)) : Option ((den Ax) × Bool) := V8 (Jr k v w k) some k v w
theorem Xts {β : Type} (k : Nat) (v : (den Ax)) (w : (den Ac)) (K : KT β) : Ag (Mk k) Tryz.f135 (PsT.put Xay (v, w, ())) K = (Xhz k v w).bind fun r => K (F135_O.put r) :=
 Eq.trans (b := V8 (Nv k v w K k) (fun r => K (F135_O.put r)) k v w) (by kernel_rfl) (by simp only [Xhz, V8, z1, z2, z3, z4, z5, z6, z7, z8, Aw, Bb, Xdj])
def Xni (k : Nat) : FD := ⟨135, Xay, F135_O, Xhz k⟩
theorem Xzs (k : Nat) : (Xni k).Ok Tryz.prog := ⟨fun x => Ab (Am (Aj (.c (Xda k) (.c (Hx k) (.c (Xd k) (.c (Xh k) .n))))) _ _ _ _) Ah Tryz.func135 rfl rfl (Xts k _ _ some), .of (by kernel_rfl)⟩
def X03 : Nat → Hint
 | 0 => ⟨pl 1 2 (pl 4 2 []), pl 1000 2 (pl 2000 9 (pl 4000 8 ((4008, .own .own (.int .u8) []) :: (pl 26000 1 []))))⟩
 | _ => ⟨[], []⟩
abbrev Va (k : Nat) : Env := Bc (Az [Xa k]) X03 .own [] k
abbrev Xcl : List PA := [.agg (.pair (.sl .ro Ac) mI)]
abbrev F136_O : RO := ⟨[.a, .v], [.pair mI m_8, mB]⟩
noncomputable def Xz4 {β : Type} (k : Nat) (v : (den Ax)) (K : KT β) : Ex → St → Option β := Br (Va k) Tryz.f136 (PsT.put Xcl (v, ())) K
def Xtc (v : (den Ax)) (x5_0 : Int) (m4000_0 : (den Ac)) : St := ⟨(.one .d) :: (.one (.ptr (.cell 1000) 2 0)) :: (.one (.ptr (.cell 2000) 9 0)) :: (.one .d) :: (.one (.ptr (.cell 4000) 9 0)) :: (.one (vI x5_0)) :: dz 51 [], A7 1000 (Ce (.pair (.sl .ro Ac) mI) v) (A7 2000 (Ce (.pair mI m_8) (0, 0, 0, 0, 0, 0, false, false, [])) (A7 4000 (Ce (.pair mI m_8) m4000_0) [eM 26000 .d]))⟩
noncomputable def Of {β : Type} (k : Nat) (v : (den Ax)) (K : KT β) (n : Nat) (x5_0 : Int) (m4000_0 : (den Ac)) : Option β := A3 (Va k) Tryz.f136 [1, 1, 1, 1, 1, 0, 1, 0] 0 (Ai (Va k) [1, 1, 1, 1, 1, 0, 1, 0] (Al Tryz.f136) 0 (Xz4 k v K)) n (Xtc v x5_0 m4000_0)
def Gf {β : Type} (NX : Int → (den Ac) → Option β) (RET : (den Ac) × Bool → Option β) (k : Nat) (v : (den Ax)) (x5_0 : Int) (m4000_0 : (den Ac)) : Option β := Bb v fun v0 _ => cond (decide (x5_0 < (v0.length : Int))) (A1 x5_0 v0 (cond ((Ap v0 x5_0).2.2.2.2.2.1 != (m4000_0.2.2.2.2.2.2.2.2.length : Int)) (RET ((0, 0, 0, 0, 0, 0, false, false, []), false)) (A1 x5_0 v0 (Bh (m4000_0.2.2.2.2.2.2.2.2.length) ((Ap v0 x5_0).2.2.2.2.2.2.2.2.length) 1 (NX (i64.wrap (x5_0 + 1)) (m4000_0.1, m4000_0.2.1, m4000_0.2.2.1, m4000_0.2.2.2.1, m4000_0.2.2.2.2.1, m4000_0.2.2.2.2.2.1, m4000_0.2.2.2.2.2.2.1, m4000_0.2.2.2.2.2.2.2.1, m4000_0.2.2.2.2.2.2.2.2 ++ (Ap v0 x5_0).2.2.2.2.2.2.2.2)))))) (RET (m4000_0, true))
def Hc (k : Nat) (v : (den Ax)) : Nat → Int → (den Ac) → Option ((den Ac) × Bool)
 | 0, _, _ => none
 | n + 1, x5_0, m4000_0 => Gf (Hc k v n) some k v x5_0 m4000_0
theorem Xbq {β : Type} (k : Nat) (v : (den Ax)) (K : KT β) (n : Nat) : ∀ (x5_0 : Int) (m4000_0 : (den Ac)), Of k v K n x5_0 m4000_0 =
  (Hc k v n x5_0 m4000_0).bind fun r => K (F136_O.put r) := by
 induction n with
 | zero => intros; rfl
 | succ n ih =>
  intro x5_0 m4000_0
  refine Eq.trans (b := Gf (Of k v K n) (fun r => K (F136_O.put r)) k v x5_0 m4000_0) (by kernel_rfl) ?_
  rw [Hc]
  simp only [Gf, z1, z2, z3, z4, z5, z6, z7, z8, Bb, ih]
def Uo {β : Type} (LP0 : Int → (den Ac) → Option β) (RET : (den Ac) × Bool → Option β) (k : Nat) (v : (den Ax)) : Option β := Bb v fun v0 _ => (P5 k v).bind fun b1 => cond (!b1) (RET ((0, 0, 0, 0, 0, 0, false, false, []), false)) (A1 (i64.wrap ((v0.length : Int) - 1)) v0 (cond (Ap v0 (i64.wrap ((v0.length : Int) - 1))).2.2.2.2.2.2.1 (RET ((0, 0, 0, 0, 0, 0, false, false, []), false)) (cond (decide (0 < (v0.length : Int))) (LP0 0 ((Ap v0 0).1, (Ap v0 0).2.1, (Ap v0 0).2.2.1, (Ap v0 0).2.2.2.1, (Ap v0 0).2.2.2.2.1, (Ap v0 0).2.2.2.2.2.1, false, (Ap v0 0).2.2.2.2.2.2.2.1, [])) none)))
def Xhh (k : Nat) (v : (den Ax)) : Option ((den Ac) × Bool) := Uo (Hc k v k) some k v
theorem Xte {β : Type} (k : Nat) (v : (den Ax)) (K : KT β) : Ag (Va k) Tryz.f136 (PsT.put Xcl (v, ())) K = (Xhh k v).bind fun r => K (F136_O.put r) :=
 Eq.trans (b := Uo (Of k v K k) (fun r => K (F136_O.put r)) k v) (by kernel_rfl) (by simp only [Xhh, Uo, z1, z2, z3, z4, z5, z6, z7, z8, Bb, Xbq])
def Xng (k : Nat) : FD := ⟨136, Xcl, F136_O, Xhh k⟩
theorem Xza (k : Nat) : (Xng k).Ok Tryz.prog := ⟨fun x => Ab (Am (Aj (.c (Xda k) .n)) _ _ _ _) Ah Tryz.func136 rfl rfl (Xte k _ some), .of (by kernel_rfl)⟩
def Xxd : Nat → Hint
 | 0 => ⟨pl 1 4 [], pl 1000 2 (pl 2000 2 ((3000, .own .own Ac []) :: (pl 3001 1 [])))⟩
 | _ => ⟨[], []⟩
abbrev Un (k : Nat) : Env := Bc (Az [Rz k]) Xxd .own [] k
abbrev Xcf : List PA := [.agg (.pair (.sl .ro Ac) mI)]
abbrev F137_O : RO := ⟨[.a], [.pair (.sl .own Ac) mI]⟩
noncomputable def Xx3 {β : Type} (k : Nat) (v : (den Ax)) (K : KT β) : Ex → St → Option β := Br (Un k) Tryz.f137 (PsT.put Xcf (v, ())) K
def Xt4 (v : (den Ax)) (x4_0 : Int) (m3000_0 : (den Ax)) : St := ⟨(.one .d) :: (.one (.ptr (.cell 1000) 2 0)) :: (.one (.ptr (.cell 2000) 2 0)) :: (.one (.ptr (.cell 3000) 2 0)) :: (.one (vI x4_0)) :: dz 22 [], A7 1000 (Ce (.pair (.sl .ro Ac) mI) v) (A7 2000 (Ce (.pair (.sl .own Ac) mI) ([], 0)) (A7 3000 (Ce (.pair (.sl .own Ac) mI) m3000_0) []))⟩
noncomputable def Nq {β : Type} (k : Nat) (v : (den Ax)) (K : KT β) (n : Nat) (x4_0 : Int) (m3000_0 : (den Ax)) : Option β := A3 (Un k) Tryz.f137 [1, 1, 0, 1, 0] 0 (Ai (Un k) [1, 1, 0, 1, 0] (Al Tryz.f137) 0 (Xx3 k v K)) n (Xt4 v x4_0 m3000_0)
def Ml {β : Type} (NX : Int → (den Ax) → Option β) (RET : (den Ax) → Option β) (k : Nat) (v : (den Ax)) (x4_0 : Int) (m3000_0 : (den Ax)) : Option β := cond (decide (x4_0 < (v.1.length : Int))) (A1 x4_0 v.1 ((Lq k (Ap v.1 x4_0)).bind fun b1 => Bh (m3000_0.1.length) ([b1].length) 80 (NX (i64.wrap (x4_0 + 1)) (m3000_0.1 ++ [b1], m3000_0.2)))) (RET m3000_0)
def Pq (k : Nat) (v : (den Ax)) : Nat → Int → (den Ax) → Option ((den Ax))
 | 0, _, _ => none
 | n + 1, x4_0, m3000_0 => Ml (Pq k v n) some k v x4_0 m3000_0
theorem Xa2 {β : Type} (k : Nat) (v : (den Ax)) (K : KT β) (n : Nat) : ∀ (x4_0 : Int) (m3000_0 : (den Ax)), Nq k v K n x4_0 m3000_0 =
  (Pq k v n x4_0 m3000_0).bind fun r => K (F137_O.put r) := by
 induction n with
 | zero => intros; rfl
 | succ n ih =>
  intro x4_0 m3000_0
  refine Eq.trans (b := Ml (Nq k v K n) (fun r => K (F137_O.put r)) k v x4_0 m3000_0) (by kernel_rfl) ?_
  rw [Pq]
  simp only [Ml, z1, z2, z3, z4, z5, z6, z7, z8, Bb, ih]
def Xcc {β : Type} (LP0 : Int → (den Ax) → Option β) (k : Nat) (v : (den Ax)) : Option β := LP0 0 ([], v.2)
def Xto (k : Nat) (v : (den Ax)) : Option ((den Ax)) := Xcc (Pq k v k) k v
theorem Xpw {β : Type} (k : Nat) (v : (den Ax)) (K : KT β) : Ag (Un k) Tryz.f137 (PsT.put Xcf (v, ())) K = (Xto k v).bind fun r => K (F137_O.put r) :=
 Eq.trans (b := Xcc (Nq k v K k) k v) (by kernel_rfl) (by simp only [Xto, Xcc, z1, z2, z3, z4, z5, z6, z7, z8, Bb, Xa2])
def Xm6 (k : Nat) : FD := ⟨137, Xcf, F137_O, Xto k⟩
theorem Xyq (k : Nat) : (Xm6 k).Ok Tryz.prog := ⟨fun x => Ab (Am (Aj (.c (Xh k) .n)) _ _ _ _) Ah Tryz.func137 rfl rfl (Xpw k _ some), .of (by kernel_rfl)⟩
def X23 : Nat → Hint
 | 0 => ⟨pl 0 1 (pl 2 1 (pl 4 1 (pl 7 1 ((9, .own .own Ax []) :: (pl 10 5 []))))), pl 4000 9 (pl 7000 9 (pl 12000 8 ((12008, .own .own (.int .u8) []) :: [])))⟩
 | _ => ⟨[], []⟩
abbrev Xfp (k : Nat) : Env := Bc (Az [Xns k, Gx k, Fu k, R0 k, Xni k, Xng k, Xm6 k, Rz k]) X23 .own [] k
abbrev Xoo : List PA := [.one (.sl .ro Ax), .agg (.pair mI C1), .one mI]
abbrev F62_O : RO := ⟨[.v, .a, .v], [.sl .own Ax, .pair mI m_8, mB]⟩
noncomputable def X3y {β : Type} (k : Nat) (v : Ad) (w : (den Ac)) (p : Int) (K : KT β) : Ex → St → Option β := Br (Xfp k) Tryz.f62 (PsT.put Xoo (v, w, p, ())) K
def Xwl (v : Ad) (w : (den Ac)) (p : Int) (x10_0 x11_0 x13_0 : Bool) (x14_0 : Int) (m12000_0 : (den Ac)) (m9900_0 : Ad) : St := ⟨(.one (.s .ro Ax v)) :: (.one .d) :: (.one (vI p)) :: (.one .d) :: (.one (.ptr (.cell 4000) 9 0)) :: (.one .d) :: (.one .d) :: (.one (.ptr (.cell 7000) 9 0)) :: (.one .d) :: (.one (.a (.cell 9900) 0 0 none)) :: (.one (vB x10_0)) :: (.one (vB x11_0)) :: (.one (.ptr (.cell 12000) 9 0)) :: (.one (vB x13_0)) :: (.one (vI x14_0)) :: dz 100 [], A7 4000 (Ce (.pair mI C1) w) (A7 7000 (Ce (.pair mI m_8) (0, 0, 0, 0, 0, 0, false, false, [])) (A7 12000 (Ce (.pair mI m_8) m12000_0) [eM 9900 (.s .own Ax m9900_0)]))⟩
noncomputable def Pz {β : Type} (k : Nat) (v : Ad) (w : (den Ac)) (p : Int) (K : KT β) (n : Nat) (x10_0 x11_0 x13_0 : Bool) (x14_0 : Int) (m12000_0 : (den Ac)) (m9900_0 : Ad) : Option β := A3 (Xfp k) Tryz.f62 [1, 1, 1, 1, 1, 1, 1, 0, 1, 0] 0 (Ai (Xfp k) [1, 1, 1, 1, 1, 1, 1, 0, 1, 0] (Al Tryz.f62) 0 (X3y k v w p K)) n (Xwl v w p x10_0 x11_0 x13_0 x14_0 m12000_0 m9900_0)
def Mo {β : Type} (k : Nat) (v : Ad) (w : (den Ac)) (p : Int) (NX : Bool → Bool → Bool → Int → (den Ac) → Ad → Option β) (RET : (Ad × (den Ac) × Bool) → Option β) (x14_0 : Int) (m9900_0 : Ad) (x10_0 x11_0 x13_0 : Bool) (m12000_0 : (den Ac)) : Option β := (Xto k (Ap v x14_0)).bind fun b7 => Bh (m9900_0.length) ([b7].length) 32 (NX x10_0 x11_0 x13_0 (i64.wrap (x14_0 + 1)) m12000_0 (m9900_0 ++ [b7]))
def Dn {β : Type} (NX : Bool → Bool → Bool → Int → (den Ac) → Ad → Option β) (RET : (Ad × (den Ac) × Bool) → Option β) (k : Nat) (v : Ad) (w : (den Ac)) (p : Int) (x10_0 x11_0 x13_0 : Bool) (x14_0 : Int) (m12000_0 : (den Ac)) (m9900_0 : Ad) : Option β := cond (decide (x14_0 < (v.length : Int))) (A1 x14_0 v (cond (decide ((Ap v x14_0).2 ≤ p)) (NX x10_0 x11_0 x13_0 (i64.wrap (x14_0 + 1)) m12000_0 m9900_0) (cond (!x10_0) (cond (decide (0 < ((Ap v x14_0).1.length : Int))) ((W9 k (Ap (Ap v x14_0).1 0) w).bind fun b4 => cond b4 ((Xhz k (Ap v x14_0) w).bind fun b5 => (Xhh k b5.1).bind fun b6 => cond b5.2 (cond (!b6.2) (Bh (m9900_0.length) ([b5.1].length) 32 (NX x10_0 true b6.2 (i64.wrap (x14_0 + 1)) b6.1 (m9900_0 ++ [b5.1]))) (NX x10_0 true b6.2 (i64.wrap (x14_0 + 1)) b6.1 m9900_0)) (NX x10_0 true b6.2 (i64.wrap (x14_0 + 1)) b6.1 m9900_0)) (Mo k v w p NX RET x14_0 m9900_0 x10_0 x11_0 x13_0 m12000_0)) none) (Mo k v w p NX RET x14_0 m9900_0 x10_0 x11_0 x13_0 m12000_0)))) (cond x10_0 ((Lq k w).bind fun b9 => RET (m9900_0, b9, true)) (cond (!x11_0) ((Lq k w).bind fun b10 => Bh (m9900_0.length) ([([b10], i64.wrap (p + 15))].length) 32 (cond (decide (((m9900_0 ++ [([b10], i64.wrap (p + 15))]).length : Int) > 3)) (cond (decide (0 ≤ 1) && decide (1 ≤ ((m9900_0 ++ [([b10], i64.wrap (p + 15))]).length : Int))) (RET (((m9900_0 ++ [([b10], i64.wrap (p + 15))]).take ((((m9900_0 ++ [([b10], i64.wrap (p + 15))]).length : Int)).toNat)).drop 1, m12000_0, x13_0)) none) (RET (m9900_0 ++ [([b10], i64.wrap (p + 15))], m12000_0, x13_0)))) (cond (decide ((m9900_0.length : Int) > 3)) (cond (decide (0 ≤ 1) && decide (1 ≤ (m9900_0.length : Int))) (RET ((m9900_0.take (((m9900_0.length : Int)).toNat)).drop 1, m12000_0, x13_0)) none) (RET (m9900_0, m12000_0, x13_0)))))
def Ha (k : Nat) (v : Ad) (w : (den Ac)) (p : Int) : Nat → Bool → Bool → Bool → Int → (den Ac) → Ad → Option (Ad × (den Ac) × Bool)
 | 0, _, _, _, _, _, _ => none
 | n + 1, x10_0, x11_0, x13_0, x14_0, m12000_0, m9900_0 => Dn (Ha k v w p n) some k v w p x10_0 x11_0 x13_0 x14_0 m12000_0 m9900_0
theorem Xhq {β : Type} (k : Nat) (v : Ad) (w : (den Ac)) (p : Int) (K : KT β) (n : Nat) : ∀ (x10_0 x11_0 x13_0 : Bool) (x14_0 : Int) (m12000_0 : (den Ac)) (m9900_0 : Ad), Pz k v w p K n x10_0 x11_0 x13_0 x14_0 m12000_0 m9900_0 =
  (Ha k v w p n x10_0 x11_0 x13_0 x14_0 m12000_0 m9900_0).bind fun r => K (F62_O.put r) := by
 induction n with
 | zero => intros; rfl
 | succ n ih =>
  intro x10_0 x11_0 x13_0 x14_0 m12000_0 m9900_0
  refine Eq.trans (b := Dn (Pz k v w p K n) (fun r => K (F62_O.put r)) k v w p x10_0 x11_0 x13_0 x14_0 m12000_0 m9900_0) (by kernel_rfl) ?_
  rw [Ha]
  simp only [Dn, Mo, z1, z2, z3, z4, z5, z6, z7, z8, Aw, ih]
def Td {β : Type} (LP0 : Bool → Bool → Bool → Int → (den Ac) → Ad → Option β) (RET : (Ad × (den Ac) × Bool) → Option β) (k : Nat) (v : Ad) (w : (den Ac)) (p : Int) : Option β := (Yk k v).bind fun b1 => cond (!b1) (RET ([], (0, 0, 0, 0, 0, 0, false, false, []), false)) ((G2 k w).bind fun b2 => cond (!b2) (RET ([], (0, 0, 0, 0, 0, 0, false, false, []), false)) ((K8 k p 0 999985).bind fun b3 => cond (!b3) (RET ([], (0, 0, 0, 0, 0, 0, false, false, []), false)) (cond (w.2.2.2.2.2.1 == 0) (LP0 (!w.2.2.2.2.2.2.1) false false 0 (0, 0, 0, 0, 0, 0, false, false, []) []) (LP0 false false false 0 (0, 0, 0, 0, 0, 0, false, false, []) []))))
def F62 (k : Nat) (v : Ad) (w : (den Ac)) (p : Int) : Option (Ad × (den Ac) × Bool) := Td (Ha k v w p k) some k v w p
theorem Xv6 {β : Type} (k : Nat) (v : Ad) (w : (den Ac)) (p : Int) (K : KT β) : Ag (Xfp k) Tryz.f62 (PsT.put Xoo (v, w, p, ())) K = (F62 k v w p).bind fun r => K (F62_O.put r) :=
 Eq.trans (b := Td (Pz k v w p K k) (fun r => K (F62_O.put r)) k v w p) (by kernel_rfl) (by simp only [F62, Td, z1, z2, z3, z4, z5, z6, z7, z8, Aw, Xhq])
def Xuo (k : Nat) : FD := ⟨62, Xoo, F62_O, F62 k⟩
theorem X3b (k : Nat) : (Xuo k).Ok Tryz.prog := ⟨fun x => Ab (Am (Aj (.c (Xwe k) (.c (Hx k) (.c (Gd k) (.c (Xd k) (.c (Xzs k) (.c (Xza k) (.c (Xyq k) (.c (Xh k) .n))))))))) _ _ _ _) Ah Tryz.func62 rfl rfl (Xv6 k _ _ _ some), .of (by kernel_rfl)⟩
end
end Go.Proofs.YtdmepjjepogddaaGreat.Gn
end

section
set_option linter.unusedVariables false
set_option linter.unusedSimpArgs false
namespace Go.Proofs.YtdmepjjepogddaaGreat.Gn
open Go.Rf IntKind
noncomputable section
def X2o : Nat → Hint
 | 0 => ⟨pl 14 1 ((15, .own .own Ax []) :: (pl 16 1 [])), pl 14000 3 []⟩
 | _ => ⟨[], []⟩
abbrev Xe4 (k : Nat) : Env := Bc (Az [Xmk k, Fu k, Xux k, Xuo k]) X2o .own [] k
abbrev Xie : List PA := [.one (.sl .ro sta), .one mI, .one mI, .one mI, .one mI, .one (.sl .ro (.int .u8))]
abbrev F13_O : RO := ⟨[.v, .v], [.sl .own (.int .u8), mB]⟩
noncomputable def X3x {β : Type} (k : Nat) (v : Af) (w p q o : Int) (c : Aa) (K : KT β) : Ex → St → Option β := Br (Xe4 k) Tryz.f13 (PsT.put Xie (v, w, p, q, o, c, ())) K
def Xxr (v : Af) (w p q o : Int) (c : Aa) (x16_0 : Int) (m14000_0 : (den Cy)) (m15900_0 : Ad) : St := ⟨dz 14 ((.one (.ptr (.cell 14000) 3 0)) :: (.one (.a (.cell 15900) 0 0 none)) :: (.one (vI x16_0)) :: dz 59 []), A7 14000 (Ce m_13 m14000_0) [eM 15900 (.s .own Ax m15900_0)]⟩
noncomputable def Q1 {β : Type} (k : Nat) (v : Af) (w p q o : Int) (c : Aa) (K : KT β) (n : Nat) (x16_0 : Int) (m14000_0 : (den Cy)) (m15900_0 : Ad) : Option β := A3 (Xe4 k) Tryz.f13 [1, 1, 1, 1, 0, 1, 0] 0 (Ai (Xe4 k) [1, 1, 1, 1, 0, 1, 0] (Al Tryz.f13) 0 (X3x k v w p q o c K)) n (Xxr v w p q o c x16_0 m14000_0 m15900_0)
def F3 {β : Type} (NX : Int → (den Cy) → Ad → Option β) (RET : (Aa × Bool) → Option β) (k : Nat) (v : Af) (w p q o : Int) (c : Aa) (x16_0 : Int) (m14000_0 : (den Cy)) (m15900_0 : Ad) : Option β := cond (decide (x16_0 < (m14000_0.1.length : Int))) (A1 x16_0 m14000_0.1 ((F62 k m15900_0 (Ap m14000_0.1 x16_0) 0).bind fun b4 => cond b4.2.2 (Bh (([] : Aa).length) (b4.2.1.2.2.2.2.2.2.2.2.length) 1 (RET ([] ++ b4.2.1.2.2.2.2.2.2.2.2, true))) (NX (i64.wrap (x16_0 + 1)) m14000_0 b4.1))) (RET ([], false))
def Hb (k : Nat) (v : Af) (w p q o : Int) (c : Aa) : Nat → Int → (den Cy) → Ad → Option (Aa × Bool)
 | 0, _, _, _ => none
 | n + 1, x16_0, m14000_0, m15900_0 => F3 (Hb k v w p q o c n) some k v w p q o c x16_0 m14000_0 m15900_0
theorem Xhy {β : Type} (k : Nat) (v : Af) (w p q o : Int) (c : Aa) (K : KT β) (n : Nat) : ∀ (x16_0 : Int) (m14000_0 : (den Cy)) (m15900_0 : Ad), Q1 k v w p q o c K n x16_0 m14000_0 m15900_0 =
  (Hb k v w p q o c n x16_0 m14000_0 m15900_0).bind fun r => K (F13_O.put r) := by
 induction n with
 | zero => intros; rfl
 | succ n ih =>
  intro x16_0 m14000_0 m15900_0
  refine Eq.trans (b := F3 (Q1 k v w p q o c K n) (fun r => K (F13_O.put r)) k v w p q o c x16_0 m14000_0 m15900_0) (by kernel_rfl) ?_
  rw [Hb]
  simp only [F3, z1, z2, z3, z4, z5, z6, z7, z8, ih]
def Xd5 {β : Type} (LP0 : Int → (den Cy) → Ad → Option β) (RET : (Aa × Bool) → Option β) (k : Nat) (v : Af) (w p q o : Int) (c : Aa) : Option β := (F59 k v).bind fun b1 => cond (!b1) (RET ([], false)) ((K8 k w 0 (i64.wrap ((v.length : Int) - 1))).bind fun b2 => cond (!b2) (RET ([], false)) (cond (decide ((c.length : Int) > 48)) (RET ([], false)) (A1 w v ((F61 k v w ((Ap v w).1, p, q, 64, o, 0, false, false, c)).bind fun b3 => LP0 0 b3 []))))
def F13 (k : Nat) (v : Af) (w p q o : Int) (c : Aa) : Option (Aa × Bool) := Xd5 (Hb k v w p q o c k) some k v w p q o c
theorem X11 {β : Type} (k : Nat) (v : Af) (w p q o : Int) (c : Aa) (K : KT β) : Ag (Xe4 k) Tryz.f13 (PsT.put Xie (v, w, p, q, o, c, ())) K = (F13 k v w p q o c).bind fun r => K (F13_O.put r) :=
 Eq.trans (b := Xd5 (Q1 k v w p q o c K k) (fun r => K (F13_O.put r)) k v w p q o c) (by kernel_rfl) (by simp only [F13, Xd5, z1, z2, z3, z4, z5, z6, z7, z8, Xhy])
def Xul (k : Nat) : FD := ⟨13, Xie, F13_O, F13 k⟩
theorem X3h (k : Nat) : (Xul k).Ok Tryz.prog := ⟨fun x => Ab (Am (Aj (.c (Xun k) (.c (Gd k) (.c (X3r k) (.c (X3b k) .n))))) _ _ _ _) Ah Tryz.func13 rfl rfl (X11 k _ _ _ _ _ _ some), .of (by kernel_rfl)⟩
end
end Go.Proofs.YtdmepjjepogddaaGreat.Gn
end

section
set_option linter.unusedVariables false
set_option linter.unusedSimpArgs false
namespace Go.Proofs.YtdmepjjepogddaaGreat.Gn
open Go.Rf IntKind
noncomputable section
abbrev X21 (k : Nat) : Env := Bc Bv An .own [] k
abbrev Xu9 : List PA := [.one mI, .one mI, .one mI]
abbrev F64_O : RO := ⟨[.v], [mB]⟩
def R6 (k : Nat) (v w p : Int) : Option (Bool) := cond (decide (v ≥ w)) (some (decide (v ≤ p))) (some false)
theorem X0b {β : Type} (k : Nat) (v w p : Int) (K : KT β) : Ag (X21 k) Tryz.f64 (PsT.put Xu9 (v, w, p, ())) K = (R6 k v w p).bind fun r => K (F64_O.put r) :=
 Eq.trans (b := cond (decide (v ≥ w)) (K (F64_O.put (decide (v ≤ p)))) (K (F64_O.put false))) (by kernel_rfl) (by simp only [R6, z1, z2, z3, z4, z5, z6, z7, z8])
def Hq (k : Nat) : FD := ⟨64, Xu9, F64_O, R6 k⟩
theorem Iv (k : Nat) : (Hq k).Ok Tryz.prog := ⟨fun x => Ab (Am .none _ _ _ _) Ah Tryz.func64 rfl rfl (X0b k _ _ _ some), .of (by kernel_rfl)⟩
abbrev X26 (k : Nat) : Env := Bc (Az [Hq k]) An .own [] k
abbrev Xu2 : List PA := [.one mI]
abbrev F65_O : RO := ⟨[.v], [mB]⟩
def Z1 (k : Nat) (v : Int) : Option (Bool) := (R6 k v 0 65535).bind fun b1 => some b1
theorem X07 {β : Type} (k : Nat) (v : Int) (K : KT β) : Ag (X26 k) Tryz.f65 (PsT.put Xu2 (v, ())) K = (Z1 k v).bind fun r => K (F65_O.put r) :=
 Eq.trans (b := (R6 k v 0 65535).bind fun b1 => K (F65_O.put b1)) (by kernel_rfl) (by simp only [Z1, z1, z2, z3, z4, z5, z6, z7, z8])
def O1 (k : Nat) : FD := ⟨65, Xu2, F65_O, Z1 k⟩
theorem P8 (k : Nat) : (O1 k).Ok Tryz.prog := ⟨fun x => Ab (Am (Aj (.c (Iv k) .n)) _ _ _ _) Ah Tryz.func65 rfl rfl (X07 k _ some), .of (by kernel_rfl)⟩
abbrev Xym (k : Nat) : Env := Bc (Az [Hq k, O1 k]) An .own [] k
abbrev Xi2 : List PA := [.agg m_2]
abbrev F226_O : RO := ⟨[.v], [mB]⟩
def Wg {β : Type} (RET : Bool → Option β) (k : Nat) (v : (den B6)) : Option β := Cv v fun v0 v1 v2 v3 => (R6 k v1 0 16).bind fun b1 => cond b1 ((Z1 k v0).bind fun b2 => cond b2 (cond (decide ((i64.wrap (16 - v1)) < 0)) none (cond (decide ((i64.wrap (1 * 2 ^ (min (i64.wrap (16 - v1)).toNat 64))) = 0)) none (cond ((v0.tmod (i64.wrap (1 * 2 ^ (min (i64.wrap (16 - v1)).toNat 64)))) == 0) ((Z1 k v2).bind fun b3 => cond b3 ((R6 k v3 1 48).bind fun b4 => RET b4) (RET false)) (RET false)))) (RET false)) (RET false)
def Xht := Wg (β := Bool) some
theorem Xrs {β : Type} (k : Nat) (v : (den B6)) (K : KT β) : Ag (Xym k) Tryz.f226 (PsT.put Xi2 (v, ())) K = (Xht k v).bind fun r => K (F226_O.put r) :=
 Eq.trans (b := Wg (fun r => K (F226_O.put r)) k v) (by kernel_rfl) (by simp only [Xht, Wg, z1, z2, z3, z4, z5, z6, z7, z8, Cv])
def Xii (k : Nat) : FD := ⟨226, Xi2, F226_O, Xht k⟩
theorem Xwa (k : Nat) : (Xii k).Ok Tryz.prog := ⟨fun x => Ab (Am (Aj (.c (Iv k) (.c (P8 k) .n))) _ _ _ _) Ah Tryz.func226 rfl rfl (Xrs k _ some), .of (by kernel_rfl)⟩
abbrev Xwd (k : Nat) : Env := Bc Bv An .own [] k
abbrev Xnq : List PA := [.one mI]
abbrev F228_O : RO := ⟨[.v], [mB]⟩
def Xgu (k : Nat) (v : Int) : Option (Bool) := some (v != v)
theorem Xt2 {β : Type} (k : Nat) (v : Int) (K : KT β) : Ag (Xwd k) Tryz.f228 (PsT.put Xnq (v, ())) K = (Xgu k v).bind fun r => K (F228_O.put r) :=
 Eq.trans (b := K (F228_O.put (v != v))) (by kernel_rfl) (by simp only [Xgu, z1, z2, z3, z4, z5, z6, z7, z8])
def Xly (k : Nat) : FD := ⟨228, Xnq, F228_O, Xgu k⟩
theorem Xxn (k : Nat) : (Xly k).Ok Tryz.prog := ⟨fun x => Ab (Am .none _ _ _ _) Ah Tryz.func228 rfl rfl (Xt2 k _ some), .of (by kernel_rfl)⟩
abbrev X0i (k : Nat) : Env := Bc (Az [Xly k]) An .own [] k
abbrev Xj7 : List PA := [.one mI, .one mI]
abbrev F162_O : RO := ⟨[.v], [mI]⟩
def W8 {β : Type} (RET : Int → Option β) (k : Nat) (v w : Int) : Option β := (Xgu k v).bind fun b1 => (Xgu k w).bind fun b2 => cond b1 (cond b2 (RET 0) (RET (-1))) (cond b2 (RET 1) (cond (decide (v < w)) (RET (-1)) (cond (decide (v > w)) (RET 1) (RET 0))))
def Xcx := W8 (β := Int) some
theorem Xqd {β : Type} (k : Nat) (v w : Int) (K : KT β) : Ag (X0i k) Tryz.f162 (PsT.put Xj7 (v, w, ())) K = (Xcx k v w).bind fun r => K (F162_O.put r) :=
 Eq.trans (b := W8 (fun r => K (F162_O.put r)) k v w) (by kernel_rfl) (by simp only [Xcx, W8, z1, z2, z3, z4, z5, z6, z7, z8])
def Xk4 (k : Nat) : FD := ⟨162, Xj7, F162_O, Xcx k⟩
theorem X0k (k : Nat) : (Xk4 k).Ok Tryz.prog := ⟨fun x => Ab (Am (Aj (.c (Xxn k) .n)) _ _ _ _) Ah Tryz.func162 rfl rfl (Xqd k _ _ some), .of (by kernel_rfl)⟩
def X02 : Nat → Hint
 | 0 => ⟨pl 3 1 (pl 6 3 []), []⟩
 | _ => ⟨[], []⟩
abbrev Uk (k : Nat) : Env := Bc Bv X02 .own [] k
abbrev Xcr : List PA := [.one (.sl .ro (.int .i64))]
abbrev F280_O : RO := ⟨[.v], [mI]⟩
noncomputable def Xyh {β : Type} (k : Nat) (v : Bd) (K : KT β) : Ex → St → Option β := Br (Uk k) Tryz.f280 (PsT.put Xcr (v, ())) K
def Xss (v : Bd) (x8_0 : Int) : St := ⟨dz 3 ((.one (vI 0)) :: (.one .d) :: (.one .d) :: (.one (.s .ro (.int .i64) v)) :: (.one (vI (v.length : Int))) :: (.one (vI x8_0)) :: dz 9 []), []⟩
noncomputable def Ns {β : Type} (k : Nat) (v : Bd) (K : KT β) (n : Nat) (x8_0 : Int) : Option β := A3 (Uk k) Tryz.f280 [1, 1, 0, 1, 0] 0 (Ai (Uk k) [1, 1, 0, 1, 0] (Al Tryz.f280) 0 (Xyh k v K)) n (Xss v x8_0)
def Ef {β : Type} (NX : Int → Option β) (RET : Int → Option β) (k : Nat) (v : Bd) (x8_0 : Int) : Option β := cond (decide (x8_0 < (v.length : Int))) (A1 x8_0 v (cond ((Ap v x8_0) != 0) (RET (Ap v x8_0)) (NX (i64.wrap (x8_0 + 1))))) (RET 0)
def E6 (k : Nat) (v : Bd) : Nat → Int → Option (Int)
 | 0, _ => none
 | n + 1, x8_0 => Ef (E6 k v n) some k v x8_0
theorem Xak {β : Type} (k : Nat) (v : Bd) (K : KT β) (n : Nat) : ∀ (x8_0 : Int), Ns k v K n x8_0 =
  (E6 k v n x8_0).bind fun r => K (F280_O.put r) := by
 induction n with
 | zero => intros; rfl
 | succ n ih =>
  intro x8_0
  refine Eq.trans (b := Ef (Ns k v K n) (fun r => K (F280_O.put r)) k v x8_0) (by kernel_rfl) ?_
  rw [E6]
  simp only [Ef, z1, z2, z3, z4, z5, z6, z7, z8, ih]
def Xav {β : Type} (LP0 : Int → Option β) (k : Nat) (v : Bd) : Option β := LP0 0
def Xoi (k : Nat) (v : Bd) : Option (Int) := Xav (E6 k v k) k v
theorem Xp1 {β : Type} (k : Nat) (v : Bd) (K : KT β) : Ag (Uk k) Tryz.f280 (PsT.put Xcr (v, ())) K = (Xoi k v).bind fun r => K (F280_O.put r) :=
 Eq.trans (b := Xav (Ns k v K k) k v) (by kernel_rfl) (by simp only [Xoi, Xav, z1, z2, z3, z4, z5, z6, z7, z8, Xak])
def Xow (k : Nat) : FD := ⟨280, Xcr, F280_O, Xoi k⟩
theorem X0q (k : Nat) : (Xow k).Ok Tryz.prog := ⟨fun x => Ab (Am .none _ _ _ _) Ah Tryz.func280 rfl rfl (Xp1 k _ some), .of (by kernel_rfl)⟩
abbrev X18 (k : Nat) : Env := Bc (Az [Xk4 k, Xow k]) An .own [] k
abbrev Xkr : List PA := [.agg m_2, .agg m_2]
abbrev F227_O : RO := ⟨[.v], [mI]⟩
def Wj {β : Type} (RET : Int → Option β) (k : Nat) (v w : (den B6)) : Option β := (Xcx k v.2.1 w.2.1).bind fun b1 => (Xcx k v.1 w.1).bind fun b2 => (Xoi k [b1, b2]).bind fun b3 => RET b3
def Xhb := Wj (β := Int) some
theorem Xqw {β : Type} (k : Nat) (v w : (den B6)) (K : KT β) : Ag (X18 k) Tryz.f227 (PsT.put Xkr (v, w, ())) K = (Xhb k v w).bind fun r => K (F227_O.put r) :=
 Eq.trans (b := Wj (fun r => K (F227_O.put r)) k v w) (by kernel_rfl) (by simp only [Xhb, Wj, z1, z2, z3, z4, z5, z6, z7, z8, Cv])
def Xms (k : Nat) : FD := ⟨227, Xkr, F227_O, Xhb k⟩
theorem X16 (k : Nat) : (Xms k).Ok Tryz.prog := ⟨fun x => Ab (Am (Aj (.c (X0k k) (.c (X0q k) .n))) _ _ _ _) Ah Tryz.func227 rfl rfl (Xqw k _ _ some), .of (by kernel_rfl)⟩
def Xwr : Nat → Hint
 | 0 => ⟨pl 0 1 (pl 5 3 []), []⟩
 | _ => ⟨[], []⟩
abbrev Uz (k : Nat) : Env := Bc (Az [Xii k, Xms k]) Xwr .own [] k
abbrev Xdi : List PA := [.one (.sl .ro B6)]
abbrev F158_O : RO := ⟨[.v], [mB]⟩
noncomputable def X1u {β : Type} (k : Nat) (v : Ay) (K : KT β) : Ex → St → Option β := Br (Uz k) Tryz.f158 (PsT.put Xdi (v, ())) K
def Xtf (v : Ay) (x7_0 : Int) : St := ⟨(.one (.s .ro B6 v)) :: dz 4 ((.one (.s .ro B6 v)) :: (.one (vI (v.length : Int))) :: (.one (vI x7_0)) :: dz 25 []), []⟩
noncomputable def N7 {β : Type} (k : Nat) (v : Ay) (K : KT β) (n : Nat) (x7_0 : Int) : Option β := A3 (Uz k) Tryz.f158 [1, 0, 1, 0] 0 (Ai (Uz k) [1, 0, 1, 0] (Al Tryz.f158) 0 (X1u k v K)) n (Xtf v x7_0)
def Jz {β : Type} (NX : Int → Option β) (RET : Bool → Option β) (k : Nat) (v : Ay) (x7_0 : Int) : Option β := cond (decide (x7_0 < (v.length : Int))) (A1 x7_0 v ((Xht k (Ap v x7_0)).bind fun b1 => cond (!b1) (RET false) (cond (decide (x7_0 > 0)) (A1 (i64.wrap (x7_0 - 1)) v ((Xhb k (Ap v (i64.wrap (x7_0 - 1))) (Ap v x7_0)).bind fun b2 => cond (decide (b2 ≥ 0)) (RET false) (NX (i64.wrap (x7_0 + 1))))) (NX (i64.wrap (x7_0 + 1)))))) (RET (decide ((v.length : Int) ≤ 8)))
def J2 (k : Nat) (v : Ay) : Nat → Int → Option (Bool)
 | 0, _ => none
 | n + 1, x7_0 => Jz (J2 k v n) some k v x7_0
theorem Xc2 {β : Type} (k : Nat) (v : Ay) (K : KT β) (n : Nat) : ∀ (x7_0 : Int), N7 k v K n x7_0 =
  (J2 k v n x7_0).bind fun r => K (F158_O.put r) := by
 induction n with
 | zero => intros; rfl
 | succ n ih =>
  intro x7_0
  refine Eq.trans (b := Jz (N7 k v K n) (fun r => K (F158_O.put r)) k v x7_0) (by kernel_rfl) ?_
  rw [J2]
  simp only [Jz, z1, z2, z3, z4, z5, z6, z7, z8, ih]
def Xdp {β : Type} (LP0 : Int → Option β) (k : Nat) (v : Ay) : Option β := LP0 0
def Xgs (k : Nat) (v : Ay) : Option (Bool) := Xdp (J2 k v k) k v
theorem Xtm {β : Type} (k : Nat) (v : Ay) (K : KT β) : Ag (Uz k) Tryz.f158 (PsT.put Xdi (v, ())) K = (Xgs k v).bind fun r => K (F158_O.put r) :=
 Eq.trans (b := Xdp (N7 k v K k) k v) (by kernel_rfl) (by simp only [Xgs, Xdp, z1, z2, z3, z4, z5, z6, z7, z8, Xc2])
def Xoa (k : Nat) : FD := ⟨158, Xdi, F158_O, Xgs k⟩
theorem Xxs (k : Nat) : (Xoa k).Ok Tryz.prog := ⟨fun x => Ab (Am (Aj (.c (Xwa k) (.c (X16 k) .n))) _ _ _ _) Ah Tryz.func158 rfl rfl (Xtm k _ some), .of (by kernel_rfl)⟩
abbrev X3s (k : Nat) : Env := Bc (Az [O1 k, Xoa k]) An .own [] k
abbrev Xvb : List PA := [.agg (.pair mI (.sl .ro B6))]
abbrev F88_O : RO := ⟨[.v], [mB]⟩
def F88 (k : Nat) (v : (den sta)) : Option (Bool) := (Z1 k v.1).bind fun b1 => cond b1 ((Xgs k v.2).bind fun b2 => some b2) (some false)
theorem Xv1 {β : Type} (k : Nat) (v : (den sta)) (K : KT β) : Ag (X3s k) Tryz.f88 (PsT.put Xvb (v, ())) K = (F88 k v).bind fun r => K (F88_O.put r) :=
 Eq.trans (b := (Z1 k v.1).bind fun b1 => cond b1 ((Xgs k v.2).bind fun b2 => K (F88_O.put b2)) (K (F88_O.put false))) (by kernel_rfl) (by simp only [F88, z1, z2, z3, z4, z5, z6, z7, z8])
def Xuv (k : Nat) : FD := ⟨88, Xvb, F88_O, F88 k⟩
theorem X3w (k : Nat) : (Xuv k).Ok Tryz.prog := ⟨fun x => Ab (Am (Aj (.c (P8 k) (.c (Xxs k) .n))) _ _ _ _) Ah Tryz.func88 rfl rfl (Xv1 k _ some), .of (by kernel_rfl)⟩
abbrev Xxx (k : Nat) : Env := Bc Bv An .own [(false, 1000)] k
abbrev Xjp : List PA := [.agg (.pair mI (.sl .ro B6)), .p mI]
abbrev F148_O : RO := ⟨[.v], [mB, mI]⟩
def Xoe (k : Nat) (v : (den sta)) (w : Int) : Option (Bool × Int) := some ((v.1 == w), w)
theorem Xqo {β : Type} (k : Nat) (v : (den sta)) (w : Int) (K : KT β) : Ag (Xxx k) Tryz.f148 (PsT.put Xjp (v, w, ())) K = (Xoe k v w).bind fun r => K (F148_O.put r) :=
 Eq.trans (b := K (F148_O.put ((v.1 == w), w))) (by kernel_rfl) (by simp only [Xoe, z1, z2, z3, z4, z5, z6, z7, z8])
def Xjf (k : Nat) : FD := ⟨148, Xjp, F148_O, Xoe k⟩
theorem Xzf (k : Nat) : (Xjf k).Ok Tryz.prog := ⟨fun x => Ab (Am .none _ _ _ _) Ah Tryz.func148 rfl rfl (Xqo k _ _ some), .of (by kernel_rfl)⟩
def Xww : Nat → Hint
 | 0 => ⟨pl 0 2 (pl 7 2 []), pl 1100 1 []⟩
 | _ => ⟨[], []⟩
abbrev Xj (k : Nat) : Env := Bc (Az [Xjf k]) Xww .own [(false, 1100)] k
abbrev Xds : List PA := [.one (.sl .ro sta), .fc 148 [mI]]
abbrev F147_O : RO := ⟨[.v], [mI, mI]⟩
noncomputable def X0z {β : Type} (k : Nat) (v : Af) (wx : Int) (K : KT β) : Ex → St → Option β := Br (Xj k) Tryz.f147 (PsT.put Xds (v, (wx, ()), ())) K
def Xq1 (v : Af) (wx : Int) (x8_0 m1100_0 : Int) : St := ⟨(.one (.s .ro sta v)) :: (.one (.fn 148 [((.cell 1100), 1, 0)])) :: dz 5 ((.one (vI (v.length : Int))) :: (.one (vI x8_0)) :: dz 10 []), [iM 1100 m1100_0]⟩
noncomputable def Nf {β : Type} (k : Nat) (v : Af) (wx : Int) (K : KT β) (n : Nat) (x8_0 m1100_0 : Int) : Option β := A3 (Xj k) Tryz.f147 [1, 0, 1, 0] 0 (Ai (Xj k) [1, 0, 1, 0] (Al Tryz.f147) 0 (X0z k v wx K)) n (Xq1 v wx x8_0 m1100_0)
def I3 {β : Type} (NX : Int → Int → Option β) (RET : (Int × Int) → Option β) (k : Nat) (v : Af) (wx : Int) (x8_0 m1100_0 : Int) : Option β := cond (decide (x8_0 < (v.length : Int))) (A1 x8_0 v ((Xoe k (Ap v x8_0) m1100_0).bind fun b1 => cond b1.1 (RET (x8_0, b1.2)) (NX (i64.wrap (x8_0 + 1)) b1.2))) (RET ((-1), m1100_0))
def Jk (k : Nat) (v : Af) (wx : Int) : Nat → Int → Int → Option (Int × Int)
 | 0, _, _ => none
 | n + 1, x8_0, m1100_0 => I3 (Jk k v wx n) some k v wx x8_0 m1100_0
theorem Xdl {β : Type} (k : Nat) (v : Af) (wx : Int) (K : KT β) (n : Nat) : ∀ (x8_0 m1100_0 : Int), Nf k v wx K n x8_0 m1100_0 =
  (Jk k v wx n x8_0 m1100_0).bind fun r => K (F147_O.put r) := by
 induction n with
 | zero => intros; rfl
 | succ n ih =>
  intro x8_0 m1100_0
  refine Eq.trans (b := I3 (Nf k v wx K n) (fun r => K (F147_O.put r)) k v wx x8_0 m1100_0) (by kernel_rfl) ?_
  rw [Jk]
  simp only [I3, z1, z2, z3, z4, z5, z6, z7, z8, ih]
def Xch {β : Type} (LP0 : Int → Int → Option β) (k : Nat) (v : Af) (wx : Int) : Option β := LP0 0 wx
def Xkk (k : Nat) (v : Af) (wx : Int) : Option (Int × Int) := Xch (Jk k v wx k) k v wx
theorem Xpu {β : Type} (k : Nat) (v : Af) (wx : Int) (K : KT β) : Ag (Xj k) Tryz.f147 (PsT.put Xds (v, (wx, ()), ())) K = (Xkk k v wx).bind fun r => K (F147_O.put r) :=
 Eq.trans (b := Xch (Nf k v wx K k) k v wx) (by kernel_rfl) (by simp only [Xkk, Xch, z1, z2, z3, z4, z5, z6, z7, z8, Xdl])
def Xi5 (k : Nat) : FD := ⟨147, Xds, F147_O, Xkk k⟩
theorem Xzh (k : Nat) : (Xi5 k).Ok Tryz.prog := ⟨fun x => Ab (Am (Aj (.c (Xzf k) .n)) _ _ _ _) Ah Tryz.func147 rfl rfl (Xpu k _ _ some), .of (by kernel_rfl)⟩
abbrev X3z (k : Nat) : Env := Bc (Az [Xi5 k]) An .own [] k
abbrev Xvf : List PA := [.one (.sl .ro sta), .one mI]
abbrev F75_O : RO := ⟨[.v], [mI]⟩
def F75 (k : Nat) (v : Af) (w : Int) : Option (Int) := (Xkk k v w).bind fun b1 => some b1.1
theorem Xxk {β : Type} (k : Nat) (v : Af) (w : Int) (K : KT β) : Ag (X3z k) Tryz.f75 (PsT.put Xvf (v, w, ())) K = (F75 k v w).bind fun r => K (F75_O.put r) :=
 Eq.trans (b := (Xkk k v w).bind fun b1 => K (F75_O.put b1.1)) (by kernel_rfl) (by simp only [F75, z1, z2, z3, z4, z5, z6, z7, z8])
def Xfl (k : Nat) : FD := ⟨75, Xvf, F75_O, F75 k⟩
theorem Xm4 (k : Nat) : (Xfl k).Ok Tryz.prog := ⟨fun x => Ab (Am (Aj (.c (Xzh k) .n)) _ _ _ _) Ah Tryz.func75 rfl rfl (Xxk k _ _ some), .of (by kernel_rfl)⟩
def X2i : Nat → Hint
 | 0 => ⟨pl 0 1 (pl 5 3 []), []⟩
 | _ => ⟨[], []⟩
abbrev Xfo (k : Nat) : Env := Bc (Az [Xuv k, Xfl k]) X2i .own [] k
abbrev Xn6 : List PA := [.one (.sl .ro sta)]
abbrev F31_O : RO := ⟨[.v], [mB]⟩
noncomputable def X34 {β : Type} (k : Nat) (v : Af) (K : KT β) : Ex → St → Option β := Br (Xfo k) Tryz.f31 (PsT.put Xn6 (v, ())) K
def Xyt (v : Af) (x7_0 : Int) : St := ⟨(.one (.s .ro sta v)) :: dz 4 ((.one (.s .ro sta v)) :: (.one (vI (v.length : Int))) :: (.one (vI x7_0)) :: dz 19 []), []⟩
noncomputable def Rn {β : Type} (k : Nat) (v : Af) (K : KT β) (n : Nat) (x7_0 : Int) : Option β := A3 (Xfo k) Tryz.f31 [1, 0, 1, 0] 0 (Ai (Xfo k) [1, 0, 1, 0] (Al Tryz.f31) 0 (X34 k v K)) n (Xyt v x7_0)
def Mc {β : Type} (NX : Int → Option β) (RET : Bool → Option β) (k : Nat) (v : Af) (x7_0 : Int) : Option β := cond (decide (x7_0 < (v.length : Int))) (A1 x7_0 v ((F88 k (Ap v x7_0)).bind fun b1 => cond (!b1) (RET false) ((F75 k v (Ap v x7_0).1).bind fun b2 => cond (decide (b2 < x7_0)) (RET false) (NX (i64.wrap (x7_0 + 1)))))) (RET (decide ((v.length : Int) ≤ 5)))
def Np (k : Nat) (v : Af) : Nat → Int → Option (Bool)
 | 0, _ => none
 | n + 1, x7_0 => Mc (Np k v n) some k v x7_0
theorem Xid {β : Type} (k : Nat) (v : Af) (K : KT β) (n : Nat) : ∀ (x7_0 : Int), Rn k v K n x7_0 =
  (Np k v n x7_0).bind fun r => K (F31_O.put r) := by
 induction n with
 | zero => intros; rfl
 | succ n ih =>
  intro x7_0
  refine Eq.trans (b := Mc (Rn k v K n) (fun r => K (F31_O.put r)) k v x7_0) (by kernel_rfl) ?_
  rw [Np]
  simp only [Mc, z1, z2, z3, z4, z5, z6, z7, z8, ih]
def Xmp {β : Type} (LP0 : Int → Option β) (k : Nat) (v : Af) : Option β := LP0 0
def F31 (k : Nat) (v : Af) : Option (Bool) := Xmp (Np k v k) k v
theorem X1g {β : Type} (k : Nat) (v : Af) (K : KT β) : Ag (Xfo k) Tryz.f31 (PsT.put Xn6 (v, ())) K = (F31 k v).bind fun r => K (F31_O.put r) :=
 Eq.trans (b := Xmp (Rn k v K k) k v) (by kernel_rfl) (by simp only [F31, Xmp, z1, z2, z3, z4, z5, z6, z7, z8, Xid])
def Xmo (k : Nat) : FD := ⟨31, Xn6, F31_O, F31 k⟩
theorem Xuu (k : Nat) : (Xmo k).Ok Tryz.prog := ⟨fun x => Ab (Am (Aj (.c (X3w k) (.c (Xm4 k) .n))) _ _ _ _) Ah Tryz.func31 rfl rfl (X1g k _ some), .of (by kernel_rfl)⟩
abbrev Xy2 (k : Nat) : Env := Bc Bv An .own [] k
abbrev Xkv : List PA := [.one (.sl .own (.int .u8))]
abbrev F197_O : RO := ⟨[.v], [.sl .own (.int .u8)]⟩
def Vm {β : Type} (RET : Aa → Option β) (k : Nat) (v : Aa) : Option β := cond (decide (0 ≤ (v.length : Int)) && decide ((v.length : Int) ≤ (v.length : Int))) (cond (decide ((v.length : Int) = (v.length : Int))) (RET ((v.take ((v.length : Int).toNat)).drop 0)) none) none
def Xgn := Vm (β := Aa) some
theorem Xqt {β : Type} (k : Nat) (v : Aa) (K : KT β) : Ag (Xy2 k) Tryz.f197 (PsT.put Xkv (v, ())) K = (Xgn k v).bind fun r => K (F197_O.put r) :=
 Eq.trans (b := Vm (fun r => K (F197_O.put r)) k v) (by kernel_rfl) (by simp only [Xgn, Vm, z1, z2, z3, z4, z5, z6, z7, z8])
def Xix (k : Nat) : FD := ⟨197, Xkv, F197_O, Xgn k⟩
theorem X12 (k : Nat) : (Xix k).Ok Tryz.prog := ⟨fun x => Ab (Am .none _ _ _ _) Ah Tryz.func197 rfl rfl (Xqt k _ some), .of (by kernel_rfl)⟩
abbrev Xyv (k : Nat) : Env := Bc (Az [Xix k]) An .own [] k
abbrev Xi7 : List PA := [.one (.sl .ro (.int .u8))]
abbrev F121_O : RO := ⟨[.v], [.sl .own (.int .u8)]⟩
def Uc {β : Type} (RET : Aa → Option β) (k : Nat) (v : Aa) : Option β := cond ((v.length : Int) == 0) (RET []) (Bh (([] : Aa).length) (v.length) 1 ((Xgn k ([] ++ v)).bind fun b1 => RET b1))
def Q8 := Uc (β := Aa) some
theorem Xqs {β : Type} (k : Nat) (v : Aa) (K : KT β) : Ag (Xyv k) Tryz.f121 (PsT.put Xi7 (v, ())) K = (Q8 k v).bind fun r => K (F121_O.put r) :=
 Eq.trans (b := Uc (fun r => K (F121_O.put r)) k v) (by kernel_rfl) (by simp only [Q8, Uc, z1, z2, z3, z4, z5, z6, z7, z8])
def Qk (k : Nat) : FD := ⟨121, Xi7, F121_O, Q8 k⟩
theorem Uw (k : Nat) : (Qk k).Ok Tryz.prog := ⟨fun x => Ab (Am (Aj (.c (X12 k) .n)) _ _ _ _) Ah Tryz.func121 rfl rfl (Xqs k _ some), .of (by kernel_rfl)⟩
abbrev Xzr (k : Nat) : Env := Bc (Az [Qk k]) An .own [] k
abbrev Xmh : List PA := [.agg (.pair mI C1)]
abbrev F214_O : RO := ⟨[.a], [.pair mI m_8]⟩
def O9 (k : Nat) (v : (den Ac)) : Option ((den Ac)) := Aw v fun v0 v1 v2 v3 v4 v5 v6 v7 v8 => (Q8 k v8).bind fun b1 => some (v0, v1, v2, v3, v4, v5, v6, v7, b1)
theorem Xre {β : Type} (k : Nat) (v : (den Ac)) (K : KT β) : Ag (Xzr k) Tryz.f214 (PsT.put Xmh (v, ())) K = (O9 k v).bind fun r => K (F214_O.put r) :=
 Eq.trans (b := (Q8 k v.2.2.2.2.2.2.2.2).bind fun b1 => K (F214_O.put (v.1, v.2.1, v.2.2.1, v.2.2.2.1, v.2.2.2.2.1, v.2.2.2.2.2.1, v.2.2.2.2.2.2.1, v.2.2.2.2.2.2.2.1, b1))) (by kernel_rfl) (by simp only [O9, z1, z2, z3, z4, z5, z6, z7, z8, Aw])
def Oj (k : Nat) : FD := ⟨214, Xmh, F214_O, O9 k⟩
theorem Rl (k : Nat) : (Oj k).Ok Tryz.prog := ⟨fun x => Ab (Am (Aj (.c (Uw k) .n)) _ _ _ _) Ah Tryz.func214 rfl rfl (Xre k _ some), .of (by kernel_rfl)⟩
abbrev X2h (k : Nat) : Env := Bc (Az [O1 k, Hq k]) An .own [] k
abbrev Xuc : List PA := [.agg (.pair mI C1)]
abbrev F89_O : RO := ⟨[.v], [mB]⟩
def Xe1 {β : Type} (RET : Bool → Option β) (k : Nat) (v : (den Ac)) : Option β := Aw v fun v0 v1 v2 v3 v4 v5 v6 v7 v8 => (Z1 k v0).bind fun b1 => cond b1 ((Z1 k v1).bind fun b2 => cond b2 ((R6 k v2 0 255).bind fun b3 => cond b3 ((R6 k v3 0 255).bind fun b4 => cond b4 ((R6 k v4 0 255).bind fun b5 => cond b5 ((R6 k v5 0 255).bind fun b6 => cond b6 (cond (decide ((v8.length : Int) ≤ 48)) (cond (!v6) (cond (!v7) (RET true) (cond (v5 == 0) (RET (!v6)) (RET false))) (cond (decide ((v8.length : Int) > 0)) (cond (!v7) (RET true) (cond (v5 == 0) (RET (!v6)) (RET false))) (RET false))) (RET false)) (RET false)) (RET false)) (RET false)) (RET false)) (RET false)) (RET false)
def F89 := Xe1 (β := Bool) some
theorem Xxc {β : Type} (k : Nat) (v : (den Ac)) (K : KT β) : Ag (X2h k) Tryz.f89 (PsT.put Xuc (v, ())) K = (F89 k v).bind fun r => K (F89_O.put r) :=
 Eq.trans (b := Xe1 (fun r => K (F89_O.put r)) k v) (by kernel_rfl) (by simp only [F89, Xe1, z1, z2, z3, z4, z5, z6, z7, z8, Aw])
def Xd8 (k : Nat) : FD := ⟨89, Xuc, F89_O, F89 k⟩
theorem Xke (k : Nat) : (Xd8 k).Ok Tryz.prog := ⟨fun x => Ab (Am (Aj (.c (P8 k) (.c (Iv k) .n))) _ _ _ _) Ah Tryz.func89 rfl rfl (Xxc k _ some), .of (by kernel_rfl)⟩
def Xz2 : Nat → Hint
 | 0 => ⟨pl 7 1 (pl 30 3 []), []⟩
 | _ => ⟨[], []⟩
abbrev Wz (k : Nat) : Env := Bc (Az [Hq k]) Xz2 .own [] k
abbrev Xby : List PA := [.one (.sl .ro (.int .u8)), .one mI, .one mI]
abbrev F201_O : RO := ⟨[.v], [mI]⟩
noncomputable def Xyu {β : Type} (k : Nat) (v : Aa) (w p : Int) (K : KT β) : Ex → St → Option β := Br (Wz k) Tryz.f201 (PsT.put Xby (v, w, p, ())) K
def Xt6 (v : Aa) (w p : Int) (x7_0 x32_0 : Int) : St := ⟨dz 7 ((.one (vI x7_0)) :: dz 22 ((.one (.s .ro (.int .u8) ((v.take ((i64.wrap (w + p)).toNat)).drop w.toNat))) :: (.one (vI (((v.take ((i64.wrap (w + p)).toNat)).drop w.toNat).length : Int))) :: (.one (vI x32_0)) :: dz 10 [])), []⟩
noncomputable def Nw {β : Type} (k : Nat) (v : Aa) (w p : Int) (K : KT β) (n : Nat) (x7_0 x32_0 : Int) : Option β := A3 (Wz k) Tryz.f201 [1, 1, 1, 0, 1, 0] 0 (Ai (Wz k) [1, 1, 1, 0, 1, 0] (Al Tryz.f201) 0 (Xyu k v w p K)) n (Xt6 v w p x7_0 x32_0)
def Eh {β : Type} (NX : Int → Int → Option β) (RET : Int → Option β) (k : Nat) (v : Aa) (w p : Int) (x7_0 x32_0 : Int) : Option β := cond (decide (x32_0 < (((v.take ((i64.wrap (w + p)).toNat)).drop w.toNat).length : Int))) (A1 x32_0 ((v.take ((i64.wrap (w + p)).toNat)).drop w.toNat) (NX (Ca .or .i64 (i64.wrap (x7_0 * 2 ^ (8))) (i64.wrap (Ap ((v.take ((i64.wrap (w + p)).toNat)).drop w.toNat) x32_0))) (i64.wrap (x32_0 + 1)))) (RET x7_0)
def Fo (k : Nat) (v : Aa) (w p : Int) : Nat → Int → Int → Option (Int)
 | 0, _, _ => none
 | n + 1, x7_0, x32_0 => Eh (Fo k v w p n) some k v w p x7_0 x32_0
theorem Xam {β : Type} (k : Nat) (v : Aa) (w p : Int) (K : KT β) (n : Nat) : ∀ (x7_0 x32_0 : Int), Nw k v w p K n x7_0 x32_0 =
  (Fo k v w p n x7_0 x32_0).bind fun r => K (F201_O.put r) := by
 induction n with
 | zero => intros; rfl
 | succ n ih =>
  intro x7_0 x32_0
  refine Eq.trans (b := Eh (Nw k v w p K n) (fun r => K (F201_O.put r)) k v w p x7_0 x32_0) (by kernel_rfl) ?_
  rw [Fo]
  simp only [Eh, z1, z2, z3, z4, z5, z6, z7, z8, ih]
def Vb {β : Type} (LP0 : Int → Int → Option β) (RET : Int → Option β) (k : Nat) (v : Aa) (w p : Int) : Option β := (R6 k p 1 4).bind fun b1 => cond (!b1) (RET (-1)) (cond (decide (w < 0)) (RET (-1)) (cond (decide (w > (i64.wrap ((v.length : Int) - p)))) (RET (-1)) (cond (decide (0 ≤ (i64.wrap (w + p))) && decide ((i64.wrap (w + p)) ≤ (v.length : Int))) (cond (decide (0 ≤ w) && decide (w ≤ (i64.wrap (w + p)))) (LP0 0 0) none) none)))
def Xgq (k : Nat) (v : Aa) (w p : Int) : Option (Int) := Vb (Fo k v w p k) some k v w p
theorem Xqm {β : Type} (k : Nat) (v : Aa) (w p : Int) (K : KT β) : Ag (Wz k) Tryz.f201 (PsT.put Xby (v, w, p, ())) K = (Xgq k v w p).bind fun r => K (F201_O.put r) :=
 Eq.trans (b := Vb (Nw k v w p K k) (fun r => K (F201_O.put r)) k v w p) (by kernel_rfl) (by simp only [Xgq, Vb, z1, z2, z3, z4, z5, z6, z7, z8, Xam])
def Xiz (k : Nat) : FD := ⟨201, Xby, F201_O, Xgq k⟩
theorem Xy9 (k : Nat) : (Xiz k).Ok Tryz.prog := ⟨fun x => Ab (Am (Aj (.c (Iv k) .n)) _ _ _ _) Ah Tryz.func201 rfl rfl (Xqm k _ _ _ some), .of (by kernel_rfl)⟩
abbrev Xzz (k : Nat) : Env := Bc (Az [Hq k, O1 k]) An .own [] k
abbrev Xnp : List PA := [.agg (.pair mI m_9)]
abbrev F374_O : RO := ⟨[.v], [mB]⟩
def Ve {β : Type} (RET : Bool → Option β) (k : Nat) (v : (Int × (Int × Aa))) : Option β := (R6 k v.1 1 6).bind fun b1 => cond b1 ((Z1 k v.2.1).bind fun b2 => cond b2 (RET (decide ((v.2.2.length : Int) ≤ 20))) (RET false)) (RET false)
def Xg6 := Ve (β := Bool) some
theorem Xqe {β : Type} (k : Nat) (v : (Int × (Int × Aa))) (K : KT β) : Ag (Xzz k) Tryz.f374 (PsT.put Xnp (v, ())) K = (Xg6 k v).bind fun r => K (F374_O.put r) :=
 Eq.trans (b := Ve (fun r => K (F374_O.put r)) k v) (by kernel_rfl) (by simp only [Xg6, Ve, z1, z2, z3, z4, z5, z6, z7, z8])
def Xit (k : Nat) : FD := ⟨374, Xnp, F374_O, Xg6 k⟩
theorem X1w (k : Nat) : (Xit k).Ok Tryz.prog := ⟨fun x => Ab (Am (Aj (.c (Iv k) (.c (P8 k) .n))) _ _ _ _) Ah Tryz.func374 rfl rfl (Xqe k _ some), .of (by kernel_rfl)⟩
def X2t : Nat → Hint
 | 0 => ⟨pl 0 1 (pl 5 2 []), pl 8000 1 []⟩
 | _ => ⟨[], []⟩
abbrev Xfm (k : Nat) : Env := Bc Bv X2t .own [] k
abbrev Xm5 : List PA := [.one mI, .one mI]
abbrev F93_O : RO := ⟨[.v], [.sl .own (.int .u8)]⟩
noncomputable def X3f {β : Type} (k : Nat) (v w : Int) (K : KT β) : Ex → St → Option β := Br (Xfm k) Tryz.f93 (PsT.put Xm5 (v, w, ())) K
def Xwt (v w : Int) (x0_0 x6_0 : Int) (m8000_0 : Aa) : St := ⟨(.one (vI x0_0)) :: dz 4 ((.one (.a (.cell 8000) 0 0 none)) :: (.one (vI x6_0)) :: dz 16 []), [eM 8000 (.s .own (.int .u8) m8000_0)]⟩
noncomputable def P6 {β : Type} (k : Nat) (v w : Int) (K : KT β) (n : Nat) (x0_0 x6_0 : Int) (m8000_0 : Aa) : Option β := A3 (Xfm k) Tryz.f93 [1, 1, 0, 1, 0] 0 (Ai (Xfm k) [1, 1, 0, 1, 0] (Al Tryz.f93) 0 (X3f k v w K)) n (Xwt v w x0_0 x6_0 m8000_0)
def F9 {β : Type} (NX : Int → Int → Aa → Option β) (RET : Aa → Option β) (k : Nat) (v w : Int) (x0_0 x6_0 : Int) (m8000_0 : Aa) : Option β := cond (decide (x6_0 ≥ 0)) (A1 x6_0 m8000_0 (NX (x0_0.fdiv (2 ^ (8))) (i64.wrap (x6_0 - 1)) (m8000_0.set x6_0.toNat (u8.wrap x0_0)))) (RET m8000_0)
def Hv (k : Nat) (v w : Int) : Nat → Int → Int → Aa → Option (Aa)
 | 0, _, _, _ => none
 | n + 1, x0_0, x6_0, m8000_0 => F9 (Hv k v w n) some k v w x0_0 x6_0 m8000_0
theorem Xhg {β : Type} (k : Nat) (v w : Int) (K : KT β) (n : Nat) : ∀ (x0_0 x6_0 : Int) (m8000_0 : Aa), P6 k v w K n x0_0 x6_0 m8000_0 =
  (Hv k v w n x0_0 x6_0 m8000_0).bind fun r => K (F93_O.put r) := by
 induction n with
 | zero => intros; rfl
 | succ n ih =>
  intro x0_0 x6_0 m8000_0
  refine Eq.trans (b := F9 (P6 k v w K n) (fun r => K (F93_O.put r)) k v w x0_0 x6_0 m8000_0) (by kernel_rfl) ?_
  rw [Hv]
  simp only [F9, z1, z2, z3, z4, z5, z6, z7, z8, ih]
def Xfi {β : Type} (LP0 : Int → Int → Aa → Option β) (k : Nat) (v w : Int) : Option β := cond (decide (0 ≤ w) && decide (w = w) && decide (w * (1 : Nat) ≤ 140737488355328)) (LP0 v (i64.wrap (w - 1)) (List.replicate w.toNat (Bl (.int .u8)))) none
def F93 (k : Nat) (v w : Int) : Option (Aa) := Xfi (Hv k v w k) k v w
theorem Xv9 {β : Type} (k : Nat) (v w : Int) (K : KT β) : Ag (Xfm k) Tryz.f93 (PsT.put Xm5 (v, w, ())) K = (F93 k v w).bind fun r => K (F93_O.put r) :=
 Eq.trans (b := Xfi (P6 k v w K k) k v w) (by kernel_rfl) (by simp only [F93, Xfi, z1, z2, z3, z4, z5, z6, z7, z8, Xhg])
def Xec (k : Nat) : FD := ⟨93, Xm5, F93_O, F93 k⟩
theorem Xmm (k : Nat) : (Xec k).Ok Tryz.prog := ⟨fun x => Ab (Am .none _ _ _ _) Ah Tryz.func93 rfl rfl (Xv9 k _ _ some), .of (by kernel_rfl)⟩
abbrev Xz5 (k : Nat) : Env := Bc Bv An .own [] k
abbrev Xju : List PA := [.one (.nil (.int .u8)), .one mI]
abbrev F163_O : RO := ⟨[.v], [.sl .own (.int .u8)]⟩
def Wk {β : Type} (RET : Aa → Option β) (k : Nat) (v : Aa) (w : Int) : Option β := cond (decide (w < 0)) none (cond (decide ((i64.wrap (w - 0)) > 0)) (cond (decide (0 ≤ 0) && decide (0 ≤ ((0 : Nat) : Int))) (cond (decide (0 < (i64.wrap (w - 0))) && decide ((i64.wrap (w - 0)) * (1 : Nat) ≤ 140737488355328)) (cond (decide (0 ≤ 0) && decide (0 ≤ ((List.replicate ((i64.wrap (w - 0)).toNat) (Bl (.int .u8))).length : Int))) (RET (((List.replicate ((i64.wrap (w - 0)).toNat) (Bl (.int .u8))).take 0).drop 0)) none) none) none) (RET []))
def Xhp := Wk (β := Aa) some
theorem Xps {β : Type} (k : Nat) (v : Aa) (w : Int) (K : KT β) : Ag (Xz5 k) Tryz.f163 (PsT.put Xju (v, w, ())) K = (Xhp k v w).bind fun r => K (F163_O.put r) :=
 Eq.trans (b := Wk (fun r => K (F163_O.put r)) k v w) (by kernel_rfl) (by simp only [Xhp, Wk, z1, z2, z3, z4, z5, z6, z7, z8])
def Xlf (k : Nat) : FD := ⟨163, Xju, F163_O, Xhp k⟩
theorem Xzl (k : Nat) : (Xlf k).Ok Tryz.prog := ⟨fun x => Ab (Am .none _ _ _ _) Ah Tryz.func163 rfl rfl (Xps k _ _ some), .of (by kernel_rfl)⟩
end
end Go.Proofs.YtdmepjjepogddaaGreat.Gn
end

section
set_option linter.unusedVariables false
set_option linter.unusedSimpArgs false
namespace Go.Proofs.YtdmepjjepogddaaGreat.Gn
open Go.Rf IntKind
noncomputable section
def X2y : Nat → Hint
 | 0 => ⟨pl 0 1 (pl 3 1 (pl 9 3 [])), []⟩
 | 2 => ⟨(6, .own .own (.int .u8) []) :: (pl 25 3 []), []⟩
 | _ => ⟨[], []⟩
abbrev Sp (k : Nat) : Env := Bc (Az [Xlf k]) X2y .own [] k
abbrev Xne : List PA := [.one (.sl .ro (.sl (.int .u8)))]
abbrev F92_O : RO := ⟨[.v], [.sl .own (.int .u8)]⟩
noncomputable def Xu3 {β : Type} (k : Nat) (v : Ft) (K : KT β) : Ex → St → Option β := Br (Sp k) Tryz.f92 (PsT.put Xne (v, ())) K
def Xzq (v : Ft) (x27_2 : Int) (m6900_2 : Aa) : St := ⟨dz 6 ((.one (.a (.cell 6900) 0 0 none)) :: dz 18 ((.one (.s .ro (.sl (.int .u8)) v)) :: (.one (vI (v.length : Int))) :: (.one (vI x27_2)) :: dz 8 [])), [eM 6900 (.s .own (.int .u8) m6900_2)]⟩
noncomputable def Ry {β : Type} (k : Nat) (v : Ft) (K : KT β) (n : Nat) (x27_2 : Int) (m6900_2 : Aa) : Option β := A3 (Sp k) Tryz.f92 [1, 1, 1, 1, 0, 1, 0] 2 (Ai (Sp k) [1, 1, 1, 1, 0, 1, 0] (Al Tryz.f92) 0 (Xu3 k v K)) n (Xzq v x27_2 m6900_2)
def Lc {β : Type} (NX : Int → Aa → Option β) (RET : Aa → Option β) (k : Nat) (v : Ft) (x27_2 : Int) (m6900_2 : Aa) : Option β := cond (decide (x27_2 < (v.length : Int))) (A1 x27_2 v (Bh (m6900_2.length) ((Ap v x27_2).length) 1 (NX (i64.wrap (x27_2 + 1)) (m6900_2 ++ (Ap v x27_2))))) (RET m6900_2)
def Nl (k : Nat) (v : Ft) : Nat → Int → Aa → Option (Aa)
 | 0, _, _ => none
 | n + 1, x27_2, m6900_2 => Lc (Nl k v n) some k v x27_2 m6900_2
theorem Xhj {β : Type} (k : Nat) (v : Ft) (K : KT β) (n : Nat) : ∀ (x27_2 : Int) (m6900_2 : Aa), Ry k v K n x27_2 m6900_2 =
  (Nl k v n x27_2 m6900_2).bind fun r => K (F92_O.put r) := by
 induction n with
 | zero => intros; rfl
 | succ n ih =>
  intro x27_2 m6900_2
  refine Eq.trans (b := Lc (Ry k v K n) (fun r => K (F92_O.put r)) k v x27_2 m6900_2) (by kernel_rfl) ?_
  rw [Nl]
  simp only [Lc, z1, z2, z3, z4, z5, z6, z7, z8, ih]
def Xwp (v : Ft) (x3_0 x11_0 : Int) : St := ⟨(.one (.s .ro (.sl (.int .u8)) v)) :: (.one .d) :: (.one .d) :: (.one (vI x3_0)) :: dz 5 ((.one (.s .ro (.sl (.int .u8)) v)) :: (.one (vI (v.length : Int))) :: (.one (vI x11_0)) :: dz 24 []), []⟩
noncomputable def Rb {β : Type} (k : Nat) (v : Ft) (K : KT β) (n : Nat) (x3_0 x11_0 : Int) : Option β := A3 (Sp k) Tryz.f92 [1, 1, 0, 1, 0] 0 (Ai (Sp k) [1, 1, 0, 1, 0] (Al Tryz.f92) 0 (Xu3 k v K)) n (Xwp v x3_0 x11_0)
def Mg {β : Type} (NX : Int → Int → Option β) (LP2 : Int → Aa → Option β) (k : Nat) (v : Ft) (x3_0 x11_0 : Int) : Option β := cond (decide (x11_0 < (v.length : Int))) (A1 x11_0 v (cond (decide ((i64.wrap (x3_0 + ((Ap v x11_0).length : Int))) < 0)) none (NX (i64.wrap (x3_0 + ((Ap v x11_0).length : Int))) (i64.wrap (x11_0 + 1))))) ((Xhp k [] x3_0).bind fun b1 => LP2 0 b1)
def Oe (k : Nat) (v : Ft) : Nat → Int → Int → Option (Aa)
 | 0, _, _ => none
 | n + 1, x3_0, x11_0 => Mg (Oe k v n) (Nl k v k) k v x3_0 x11_0
theorem Xhe {β : Type} (k : Nat) (v : Ft) (K : KT β) (n : Nat) : ∀ (x3_0 x11_0 : Int), Rb k v K n x3_0 x11_0 =
  (Oe k v n x3_0 x11_0).bind fun r => K (F92_O.put r) := by
 induction n with
 | zero => intros; rfl
 | succ n ih =>
  intro x3_0 x11_0
  refine Eq.trans (b := Mg (Rb k v K n) (Ry k v K k) k v x3_0 x11_0) (by kernel_rfl) ?_
  rw [Oe]
  simp only [Mg, z1, z2, z3, z4, z5, z6, z7, z8, Xhj, ih]
def Xft {β : Type} (LP0 : Int → Int → Option β) (k : Nat) (v : Ft) : Option β := LP0 0 0
def F92 (k : Nat) (v : Ft) : Option (Aa) := Xft (Oe k v k) k v
theorem X0v {β : Type} (k : Nat) (v : Ft) (K : KT β) : Ag (Sp k) Tryz.f92 (PsT.put Xne (v, ())) K = (F92 k v).bind fun r => K (F92_O.put r) :=
 Eq.trans (b := Xft (Rb k v K k) k v) (by kernel_rfl) (by simp only [F92, Xft, z1, z2, z3, z4, z5, z6, z7, z8, Xhe])
def Xkf (k : Nat) : FD := ⟨92, Xne, F92_O, F92 k⟩
theorem Xup (k : Nat) : (Xkf k).Ok Tryz.prog := ⟨fun x => Ab (Am (Aj (.c (Xzl k) .n)) _ _ _ _) Ah Tryz.func92 rfl rfl (X0v k _ some), .of (by kernel_rfl)⟩
abbrev Xyo (k : Nat) : Env := Bc (Az [Xit k, Xec k, Xkf k]) An .own [] k
abbrev Xka : List PA := [.agg (.pair mI m_9)]
abbrev F366_O : RO := ⟨[.v], [.sl .own (.int .u8)]⟩
def Wp {β : Type} (RET : Aa → Option β) (k : Nat) (v : (Int × (Int × Aa))) : Option β := u_3 v fun v0 v1 v2 => (Xg6 k v).bind fun b1 => cond (!b1) (RET []) ((F93 k v1 2).bind fun b2 => (F92 k [[u8.wrap v0], b2, [u8.wrap (v2.length : Int)], v2]).bind fun b3 => RET b3)
def Yg := Wp (β := Aa) some
theorem Xr3 {β : Type} (k : Nat) (v : (Int × (Int × Aa))) (K : KT β) : Ag (Xyo k) Tryz.f366 (PsT.put Xka (v, ())) K = (Yg k v).bind fun r => K (F366_O.put r) :=
 Eq.trans (b := Wp (fun r => K (F366_O.put r)) k v) (by kernel_rfl) (by simp only [Yg, Wp, z1, z2, z3, z4, z5, z6, z7, z8, u_3])
def Xdo (k : Nat) : FD := ⟨366, Xka, F366_O, Yg k⟩
theorem Xlj (k : Nat) : (Xdo k).Ok Tryz.prog := ⟨fun x => Ab (Am (Aj (.c (X1w k) (.c (Xmm k) (.c (Xup k) .n)))) _ _ _ _) Ah Tryz.func366 rfl rfl (Xr3 k _ some), .of (by kernel_rfl)⟩
def Xv2 : Nat → Hint
 | 0 => ⟨pl 0 2 (pl 12 2 []), []⟩
 | _ => ⟨[], []⟩
abbrev U0 (k : Nat) : Env := Bc Bv Xv2 .own [] k
abbrev Xab : List PA := [.one (.sl .ro (.int .u8)), .one (.sl .ro (.int .u8))]
abbrev F159_O : RO := ⟨[.v], [mB]⟩
noncomputable def Xzd {β : Type} (k : Nat) (v w : Aa) (K : KT β) : Ex → St → Option β := Br (U0 k) Tryz.f159 (PsT.put Xab (v, w, ())) K
def Xra (v w : Aa) (x13_0 : Int) : St := ⟨(.one (.s .ro (.int .u8) v)) :: (.one (.s .ro (.int .u8) w)) :: dz 10 ((.one (vI (v.length : Int))) :: (.one (vI x13_0)) :: dz 12 []), []⟩
noncomputable def N2 {β : Type} (k : Nat) (v w : Aa) (K : KT β) (n : Nat) (x13_0 : Int) : Option β := A3 (U0 k) Tryz.f159 [1, 1, 0, 1, 0] 0 (Ai (U0 k) [1, 1, 0, 1, 0] (Al Tryz.f159) 0 (Xzd k v w K)) n (Xra v w x13_0)
def Gl {β : Type} (NX : Int → Option β) (RET : Bool → Option β) (k : Nat) (v w : Aa) (x13_0 : Int) : Option β := cond (decide (x13_0 < (v.length : Int))) (A1 x13_0 v (A1 x13_0 w (cond ((Ap v x13_0) != (Ap w x13_0)) (RET false) (NX (i64.wrap (x13_0 + 1)))))) (RET true)
def Gq (k : Nat) (v w : Aa) : Nat → Int → Option (Bool)
 | 0, _ => none
 | n + 1, x13_0 => Gl (Gq k v w n) some k v w x13_0
theorem Xdg {β : Type} (k : Nat) (v w : Aa) (K : KT β) (n : Nat) : ∀ (x13_0 : Int), N2 k v w K n x13_0 =
  (Gq k v w n x13_0).bind fun r => K (F159_O.put r) := by
 induction n with
 | zero => intros; rfl
 | succ n ih =>
  intro x13_0
  refine Eq.trans (b := Gl (N2 k v w K n) (fun r => K (F159_O.put r)) k v w x13_0) (by kernel_rfl) ?_
  rw [Gq]
  simp only [Gl, z1, z2, z3, z4, z5, z6, z7, z8, ih]
def Uh {β : Type} (LP0 : Int → Option β) (RET : Bool → Option β) (k : Nat) (v w : Aa) : Option β := cond ((v.length : Int) != (w.length : Int)) (RET false) (LP0 0)
def Xal (k : Nat) (v w : Aa) : Option (Bool) := Uh (Gq k v w k) some k v w
theorem Xqz {β : Type} (k : Nat) (v w : Aa) (K : KT β) : Ag (U0 k) Tryz.f159 (PsT.put Xab (v, w, ())) K = (Xal k v w).bind fun r => K (F159_O.put r) :=
 Eq.trans (b := Uh (N2 k v w K k) (fun r => K (F159_O.put r)) k v w) (by kernel_rfl) (by simp only [Xal, Uh, z1, z2, z3, z4, z5, z6, z7, z8, Xdg])
def Xbj (k : Nat) : FD := ⟨159, Xab, F159_O, Xal k⟩
theorem Xjl (k : Nat) : (Xbj k).Ok Tryz.prog := ⟨fun x => Ab (Am .none _ _ _ _) Ah Tryz.func159 rfl rfl (Xqz k _ _ some), .of (by kernel_rfl)⟩
abbrev X2b (k : Nat) : Env := Bc (Az [Xiz k, Qk k, Xdo k, Xbj k]) An .own [] k
abbrev Xmj : Type := (Int × (Int × Aa)) × Bool
abbrev Xo0 : List PA := [.one (.sl .ro (.int .u8))]
abbrev F365_O : RO := ⟨[.a, .v], [.pair mI m_10, mB]⟩
def U8 {β : Type} (RET : Xmj → Option β) (k : Nat) (v : Aa) : Option β := cond (decide ((v.length : Int) < 4)) (RET ((0, 0, []), false)) (cond (decide (0 < (v.length : Int))) ((Xgq k v 1 2).bind fun b1 => cond (decide (0 ≤ 4) && decide (4 ≤ (v.length : Int))) ((Q8 k (v.drop 4)).bind fun b2 => (Yg k (i64.wrap (Ap v 0), b1, b2)).bind fun b3 => (Xal k b3 v).bind fun b4 => cond (!b4) (RET ((0, 0, []), false)) (RET ((i64.wrap (Ap v 0), b1, b2), true))) none) none)
def Xh0 := U8 (β := Xmj) some
theorem Xpv {β : Type} (k : Nat) (v : Aa) (K : KT β) : Ag (X2b k) Tryz.f365 (PsT.put Xo0 (v, ())) K = (Xh0 k v).bind fun r => K (F365_O.put r) :=
 Eq.trans (b := U8 (fun r => K (F365_O.put r)) k v) (by kernel_rfl) (by simp only [Xh0, U8, z1, z2, z3, z4, z5, z6, z7, z8])
def Xi8 (k : Nat) : FD := ⟨365, Xo0, F365_O, Xh0 k⟩
theorem Xwv (k : Nat) : (Xi8 k).Ok Tryz.prog := ⟨fun x => Ab (Am (Aj (.c (Xy9 k) (.c (Uw k) (.c (Xlj k) (.c (Xjl k) .n))))) _ _ _ _) Ah Tryz.func365 rfl rfl (Xpv k _ some), .of (by kernel_rfl)⟩
abbrev Xyf (k : Nat) : Env := Bc (Az [Xi8 k]) An .own [] k
abbrev Xkd : List PA := [.agg (.pair mI C1)]
abbrev F350_O : RO := ⟨[.v], [mB]⟩
def Wn {β : Type} (RET : Bool → Option β) (k : Nat) (v : (den Ac)) : Option β := (Xh0 k v.2.2.2.2.2.2.2.2).bind fun b1 => cond b1.2 (cond (v.2.2.1 == 1) (RET (decide (b1.1.1 ≥ 3))) (RET false)) (RET false)
def Xh8 := Wn (β := Bool) some
theorem Xp7 {β : Type} (k : Nat) (v : (den Ac)) (K : KT β) : Ag (Xyf k) Tryz.f350 (PsT.put Xkd (v, ())) K = (Xh8 k v).bind fun r => K (F350_O.put r) :=
 Eq.trans (b := Wn (fun r => K (F350_O.put r)) k v) (by kernel_rfl) (by simp only [Xh8, Wn, z1, z2, z3, z4, z5, z6, z7, z8, Aw])
def Xl4 (k : Nat) : FD := ⟨350, Xkd, F350_O, Xh8 k⟩
theorem Xxj (k : Nat) : (Xl4 k).Ok Tryz.prog := ⟨fun x => Ab (Am (Aj (.c (Xwv k) .n)) _ _ _ _) Ah Tryz.func350 rfl rfl (Xp7 k _ some), .of (by kernel_rfl)⟩
abbrev X15 (k : Nat) : Env := Bc Bv An .own [] k
abbrev Xkh : List PA := [.one mB, .one mI]
abbrev F199_O : RO := ⟨[.v], [mI]⟩
def Xaf (k : Nat) (v : Bool) (w : Int) : Option (Int) := cond v (some w) (some 0)
theorem Xrf {β : Type} (k : Nat) (v : Bool) (w : Int) (K : KT β) : Ag (X15 k) Tryz.f199 (PsT.put Xkh (v, w, ())) K = (Xaf k v w).bind fun r => K (F199_O.put r) :=
 Eq.trans (b := cond v (K (F199_O.put w)) (K (F199_O.put 0))) (by kernel_rfl) (by simp only [Xaf, z1, z2, z3, z4, z5, z6, z7, z8])
def Xkg (k : Nat) : FD := ⟨199, Xkh, F199_O, Xaf k⟩
theorem Xzm (k : Nat) : (Xkg k).Ok Tryz.prog := ⟨fun x => Ab (Am .none _ _ _ _) Ah Tryz.func199 rfl rfl (Xrf k _ _ some), .of (by kernel_rfl)⟩
def Xyp : Nat → Hint
 | 0 => ⟨pl 3 1 (pl 6 3 []), []⟩
 | _ => ⟨[], []⟩
abbrev Xf (k : Nat) : Env := Bc Bv Xyp .own [] k
abbrev Xa4 : List PA := [.one (.sl .ro (.int .i64))]
abbrev F165_O : RO := ⟨[.v], [mI]⟩
noncomputable def Xzx {β : Type} (k : Nat) (v : Bd) (K : KT β) : Ex → St → Option β := Br (Xf k) Tryz.f165 (PsT.put Xa4 (v, ())) K
def Xsy (v : Bd) (x3_0 x8_0 : Int) : St := ⟨dz 3 ((.one (vI x3_0)) :: (.one .d) :: (.one .d) :: (.one (.s .ro (.int .i64) v)) :: (.one (vI (v.length : Int))) :: (.one (vI x8_0)) :: dz 12 []), []⟩
noncomputable def Oc {β : Type} (k : Nat) (v : Bd) (K : KT β) (n : Nat) (x3_0 x8_0 : Int) : Option β := A3 (Xf k) Tryz.f165 [1, 1, 0, 1, 0] 0 (Ai (Xf k) [1, 1, 0, 1, 0] (Al Tryz.f165) 0 (Xzx k v K)) n (Xsy v x3_0 x8_0)
def Ee {β : Type} (NX : Int → Int → Option β) (RET : Int → Option β) (k : Nat) (v : Bd) (x3_0 x8_0 : Int) : Option β := cond (decide (x8_0 < (v.length : Int))) (A1 x8_0 v (cond (decide ((i64.wrap (x3_0 + (Ap v x8_0))) > 65535)) (NX (i64.wrap ((i64.wrap (x3_0 + (Ap v x8_0))) - 65535)) (i64.wrap (x8_0 + 1))) (NX (i64.wrap (x3_0 + (Ap v x8_0))) (i64.wrap (x8_0 + 1))))) (RET x3_0)
def D7 (k : Nat) (v : Bd) : Nat → Int → Int → Option (Int)
 | 0, _, _ => none
 | n + 1, x3_0, x8_0 => Ee (D7 k v n) some k v x3_0 x8_0
theorem Xbt {β : Type} (k : Nat) (v : Bd) (K : KT β) (n : Nat) : ∀ (x3_0 x8_0 : Int), Oc k v K n x3_0 x8_0 =
  (D7 k v n x3_0 x8_0).bind fun r => K (F165_O.put r) := by
 induction n with
 | zero => intros; rfl
 | succ n ih =>
  intro x3_0 x8_0
  refine Eq.trans (b := Ee (Oc k v K n) (fun r => K (F165_O.put r)) k v x3_0 x8_0) (by kernel_rfl) ?_
  rw [D7]
  simp only [Ee, z1, z2, z3, z4, z5, z6, z7, z8, ih]
def Z3 {β : Type} (LP0 : Int → Int → Option β) (k : Nat) (v : Bd) : Option β := LP0 0 0
def Zd (k : Nat) (v : Bd) : Option (Int) := Z3 (D7 k v k) k v
theorem Xqr {β : Type} (k : Nat) (v : Bd) (K : KT β) : Ag (Xf k) Tryz.f165 (PsT.put Xa4 (v, ())) K = (Zd k v).bind fun r => K (F165_O.put r) :=
 Eq.trans (b := Z3 (Oc k v K k) k v) (by kernel_rfl) (by simp only [Zd, Z3, z1, z2, z3, z4, z5, z6, z7, z8, Xbt])
def Xpj (k : Nat) : FD := ⟨165, Xa4, F165_O, Zd k⟩
theorem Xyd (k : Nat) : (Xpj k).Ok Tryz.prog := ⟨fun x => Ab (Am .none _ _ _ _) Ah Tryz.func165 rfl rfl (Xqr k _ some), .of (by kernel_rfl)⟩
def X2k : Nat → Hint
 | 0 => ⟨pl 3 1 [], pl 3000 1 []⟩
 | _ => ⟨[], []⟩
abbrev Fk (k : Nat) : Env := Bc (Az [Xpj k]) X2k .own [] k
abbrev Xj3 : List PA := [.one (.sl .ro (.int .u8))]
abbrev F94_O : RO := ⟨[.v], [mI]⟩
noncomputable def S2 {β : Type} (k : Nat) (v : Aa) (K : KT β) : Ex → St → Option β := Br (Fk k) Tryz.f94 (PsT.put Xj3 (v, ())) K
def M6 (v : Aa) (m3000_0 : Int) : St := ⟨dz 3 ((.one (.ptr (.cell 3000) 1 0)) :: dz 25 []), [iM 3000 m3000_0]⟩
def E0 (k : Nat) (v : Aa) : List Aa → Int → Option (Int)
 | [], m3000_0 => some (i64.wrap (65535 - m3000_0))
 | z0_0 :: r, m3000_0 => cond (decide (0 < (z0_0.length : Int))) (cond (decide ((z0_0.length : Int) > 1)) (cond (decide (1 < (z0_0.length : Int))) ((Zd k [m3000_0, Ca .or .i64 (i64.wrap ((i64.wrap (Ap z0_0 0)) * 2 ^ (8))) (i64.wrap (Ap z0_0 1))]).bind fun b1 => E0 k v r b1) none) ((Zd k [m3000_0, i64.wrap ((i64.wrap (Ap z0_0 0)) * 2 ^ (8))]).bind fun b2 => E0 k v r b2)) none
theorem Xh4 {β : Type} (k : Nat) (v : Aa) (m3000_0 : Int) (K : KT β) :
  Es (Fk k) Tryz.f94 [1, 1, 0, 1, 0] 0 8 (Ai (Fk k) [1, 1, 0, 1, 0] (Al Tryz.f94) 0 (S2 k v K)) ([] : List Aa) (M6 v m3000_0) =
  K (F94_O.put (i64.wrap (65535 - m3000_0))) := by kernel_rfl
theorem Xfx {β : Type} (k : Nat) (v : Aa) (z0_0 : Aa) (r : List Aa) (m3000_0 : Int) (K : KT β) :
  Es (Fk k) Tryz.f94 [1, 1, 0, 1, 0] 0 8 (Ai (Fk k) [1, 1, 0, 1, 0] (Al Tryz.f94) 0 (S2 k v K)) (z0_0 :: r) (M6 v m3000_0) =
  cond (decide (0 < (z0_0.length : Int))) (cond (decide ((z0_0.length : Int) > 1)) (cond (decide (1 < (z0_0.length : Int))) ((Zd k [m3000_0, Ca .or .i64 (i64.wrap ((i64.wrap (Ap z0_0 0)) * 2 ^ (8))) (i64.wrap (Ap z0_0 1))]).bind fun b1 => Es (Fk k) Tryz.f94 [1, 1, 0, 1, 0] 0 8 (Ai (Fk k) [1, 1, 0, 1, 0] (Al Tryz.f94) 0 (S2 k v K)) r (M6 v b1)) none) ((Zd k [m3000_0, i64.wrap ((i64.wrap (Ap z0_0 0)) * 2 ^ (8))]).bind fun b2 => Es (Fk k) Tryz.f94 [1, 1, 0, 1, 0] 0 8 (Ai (Fk k) [1, 1, 0, 1, 0] (Al Tryz.f94) 0 (S2 k v K)) r (M6 v b2))) none := by kernel_rfl
theorem Xh2 {β : Type} (k : Nat) (v : Aa) (K : KT β) (l : List Aa) : ∀ (m3000_0 : Int), Es (Fk k) Tryz.f94 [1, 1, 0, 1, 0] 0 8 (Ai (Fk k) [1, 1, 0, 1, 0] (Al Tryz.f94) 0 (S2 k v K)) l (M6 v m3000_0) =
  (E0 k v l m3000_0).bind fun r => K (F94_O.put r) := by
 induction l with
 | nil => intros; rw [Xh4, E0]; simp only [z1, z2, z3, z4, z5, z6, z7, z8]
 | cons z r ih =>
  intros
  rw [Xfx, E0]
  simp only [z1, z2, z3, z4, z5, z6, z7, z8, ih]
def F94 (k : Nat) (v : Aa) : Option (Int) := cond (decide (1 ≤ 2) && decide (2 ≤ 9223372036854775807) && decide (v.length ≤ 140737488355328)) (E0 k v (B0 ((2 : Int).toNat) v) 0) none
theorem X04 {β : Type} (k : Nat) (v : Aa) (K : KT β) : Ag (Fk k) Tryz.f94 (PsT.put Xj3 (v, ())) K = (F94 k v).bind fun r => K (F94_O.put r) :=
 Eq.trans (b := cond (decide (1 ≤ 2) && decide (2 ≤ 9223372036854775807) && decide (v.length ≤ 140737488355328)) (Es (Fk k) Tryz.f94 [1, 1, 0, 1, 0] 0 8 (Ai (Fk k) [1, 1, 0, 1, 0] (Al Tryz.f94) 0 (S2 k v K)) (B0 ((2 : Int).toNat) v) (M6 v 0)) none) (by kernel_rfl) (by simp only [F94, z1, z2, z3, z4, z5, z6, z7, z8, Xh2])
def Xu4 (k : Nat) : FD := ⟨94, Xj3, F94_O, F94 k⟩
theorem X2w (k : Nat) : (Xu4 k).Ok Tryz.prog := ⟨fun x => Ab (Am (Aj (.c (Xyd k) .n)) _ _ _ _) Ah Tryz.func94 rfl rfl (X04 k _ some), .of (by kernel_rfl)⟩
abbrev Xx7 (k : Nat) : Env := Bc (Az [Xec k, Xkg k, Xkf k, Xu4 k]) An .own [] k
abbrev Xo8 : List PA := [.agg (.pair mI C1)]
abbrev F351_O : RO := ⟨[.v], [.sl .own (.int .u8)]⟩
def W6 {β : Type} (RET : Aa → Option β) (k : Nat) (v : (den Ac)) : Option β := Aw v fun v0 v1 v2 v3 v4 v5 v6 v7 v8 => (F93 k v0 2).bind fun b1 => (F93 k v1 2).bind fun b2 => (Xaf k v6 1).bind fun b3 => (Xaf k v7 2).bind fun b4 => (F92 k [b1, b2, [u8.wrap v2, u8.wrap v3, u8.wrap v4, u8.wrap v5, u8.wrap (i64.wrap (b3 + b4)), u8.wrap (v8.length : Int)]]).bind fun b5 => (F94 k b5).bind fun b6 => (F93 k b6 2).bind fun b7 => (F92 k [b5, b7, v8]).bind fun b8 => RET b8
def Xf0 := W6 (β := Aa) some
theorem Xt8 {β : Type} (k : Nat) (v : (den Ac)) (K : KT β) : Ag (Xx7 k) Tryz.f351 (PsT.put Xo8 (v, ())) K = (Xf0 k v).bind fun r => K (F351_O.put r) :=
 Eq.trans (b := W6 (fun r => K (F351_O.put r)) k v) (by kernel_rfl) (by simp only [Xf0, W6, z1, z2, z3, z4, z5, z6, z7, z8, Aw])
def Xo1 (k : Nat) : FD := ⟨351, Xo8, F351_O, Xf0 k⟩
theorem Xyg (k : Nat) : (Xo1 k).Ok Tryz.prog := ⟨fun x => Ab (Am (Aj (.c (Xmm k) (.c (Xzm k) (.c (Xup k) (.c (X2w k) .n))))) _ _ _ _) Ah Tryz.func351 rfl rfl (Xt8 k _ some), .of (by kernel_rfl)⟩
abbrev Xwy (k : Nat) : Env := Bc (Az [Xdo k]) An .own [] k
abbrev Xk7 : List PA := [.one mI, .agg (.pair mI C1), .agg (.pair mI m_9)]
abbrev F352_O : RO := ⟨[.a], [.pair mI m_8]⟩
def Xjj (k : Nat) (v : Int) (w : (den Ac)) (p : (Int × (Int × Aa))) : Option ((den Ac)) := (Yg k p).bind fun b1 => some (v, w.1, 1, 64, w.2.2.2.2.1, 0, false, false, b1)
theorem Xqv {β : Type} (k : Nat) (v : Int) (w : (den Ac)) (p : (Int × (Int × Aa))) (K : KT β) : Ag (Xwy k) Tryz.f352 (PsT.put Xk7 (v, w, p, ())) K = (Xjj k v w p).bind fun r => K (F352_O.put r) :=
 Eq.trans (b := (Yg k p).bind fun b1 => K (F352_O.put (v, w.1, 1, 64, w.2.2.2.2.1, 0, false, false, b1))) (by kernel_rfl) (by simp only [Xjj, z1, z2, z3, z4, z5, z6, z7, z8, u_3, Aw])
def Xn1 (k : Nat) : FD := ⟨352, Xk7, F352_O, Xjj k⟩
theorem Xz1 (k : Nat) : (Xn1 k).Ok Tryz.prog := ⟨fun x => Ab (Am (Aj (.c (Xlj k) .n)) _ _ _ _) Ah Tryz.func352 rfl rfl (Xqv k _ _ _ some), .of (by kernel_rfl)⟩
abbrev X0r (k : Nat) : Env := Bc (Az [Xd8 k, O1 k, Xl4 k, Hq k, Xo1 k, Xn1 k]) An .own [] k
abbrev Xjd : List PA := [.agg (.pair mI C1), .one mI, .one mI, .one mI]
abbrev F326_O : RO := ⟨[.a, .v], [.pair mI m_8, mB]⟩
def Wq {β : Type} (RET : (den Ac) × Bool → Option β) (k : Nat) (v : (den Ac)) (w p q : Int) : Option β := (F89 k v).bind fun b1 => cond (!b1) (RET ((0, 0, 0, 0, 0, 0, false, false, []), false)) ((Z1 k w).bind fun b2 => cond (!b2) (RET ((0, 0, 0, 0, 0, 0, false, false, []), false)) (cond (v.2.2.2.2.2.1 != 0) (RET ((0, 0, 0, 0, 0, 0, false, false, []), false)) ((Xh8 k v).bind fun b3 => cond b3 (RET ((0, 0, 0, 0, 0, 0, false, false, []), false)) ((R6 k p 3 6).bind fun b4 => cond (!b4) (RET ((0, 0, 0, 0, 0, 0, false, false, []), false)) ((Z1 k q).bind fun b5 => cond (!b5) (RET ((0, 0, 0, 0, 0, 0, false, false, []), false)) ((Xf0 k v).bind fun b6 => cond (decide (0 ≤ (if 20 < (b6.length : Int) then 20 else (b6.length : Int))) && decide ((if 20 < (b6.length : Int) then 20 else (b6.length : Int)) ≤ (b6.length : Int))) ((Xjj k w v (p, q, (b6.take ((if 20 < (b6.length : Int) then 20 else (b6.length : Int)).toNat)).drop 0)).bind fun b7 => RET (b7, true)) none))))))
def Yf := Wq (β := (den Ac) × Bool) some
theorem Xpo {β : Type} (k : Nat) (v : (den Ac)) (w p q : Int) (K : KT β) : Ag (X0r k) Tryz.f326 (PsT.put Xjd (v, w, p, q, ())) K = (Yf k v w p q).bind fun r => K (F326_O.put r) :=
 Eq.trans (b := Wq (fun r => K (F326_O.put r)) k v w p q) (by kernel_rfl) (by simp only [Yf, Wq, z1, z2, z3, z4, z5, z6, z7, z8, Aw])
def Xlr (k : Nat) : FD := ⟨326, Xjd, F326_O, Yf k⟩
theorem X1x (k : Nat) : (Xlr k).Ok Tryz.prog := ⟨fun x => Ab (Am (Aj (.c (Xke k) (.c (P8 k) (.c (Xxj k) (.c (Iv k) (.c (Xyg k) (.c (Xz1 k) .n))))))) _ _ _ _) Ah Tryz.func326 rfl rfl (Xpo k _ _ _ _ some), .of (by kernel_rfl)⟩
abbrev Xxt (k : Nat) : Env := Bc (Az [Xlr k]) An .own [] k
abbrev Xkz : List PA := [.agg (.pair mI (.sl .ro B6)), .agg (.pair mI C1), .one mI, .one mI]
abbrev F264_O : RO := ⟨[.a], [Xor]⟩
def X0 (k : Nat) (v : (den sta)) (w : (den Ac)) (p q : Int) : Option ((den Pa)) := (Yf k w v.1 p q).bind fun b1 => cond (!b1.2) (some (0, 0, [])) (some (3, 0, [b1.1]))
theorem Xq3 {β : Type} (k : Nat) (v : (den sta)) (w : (den Ac)) (p q : Int) (K : KT β) : Ag (Xxt k) Tryz.f264 (PsT.put Xkz (v, w, p, q, ())) K = (X0 k v w p q).bind fun r => K (F264_O.put r) :=
 Eq.trans (b := (Yf k w v.1 p q).bind fun b1 => cond (!b1.2) (K (F264_O.put (0, 0, []))) (K (F264_O.put (3, 0, [b1.1])))) (by kernel_rfl) (by simp only [X0, z1, z2, z3, z4, z5, z6, z7, z8, Aw])
def Xko (k : Nat) : FD := ⟨264, Xkz, F264_O, X0 k⟩
theorem Xy8 (k : Nat) : (Xko k).Ok Tryz.prog := ⟨fun x => Ab (Am (Aj (.c (X1x k) .n)) _ _ _ _) Ah Tryz.func264 rfl rfl (Xq3 k _ _ _ _ some), .of (by kernel_rfl)⟩
abbrev X3k : List PA := [.one (.sl .ro B6), .one mI, .one mI]
abbrev X2p : RO := ⟨[.a, .v], [m_2, mB]⟩
def F74 (k : Nat) (v : Ay) (w p : Int) : Option (den B6 × Bool) := Rt.to v w p
def Xjg (k : Nat) : FD := ⟨74, X3k, X2p, F74 k⟩
theorem Xuk (k : Nat) : (Xjg k).Ok Tryz.prog := ⟨fun x => Rt.con x.1 x.2.1 x.2.2.1, .of (by kernel_rfl)⟩
abbrev X0h (k : Nat) : Env := Bc Bv An .own [] k
abbrev Xn9 : List PA := [.one (.sl .own Ac)]
abbrev F266_O : RO := ⟨[.v], [.sl .own Ac]⟩
def Up {β : Type} (RET : Ak → Option β) (k : Nat) (v : Ak) : Option β := cond (decide (0 ≤ (v.length : Int)) && decide ((v.length : Int) ≤ (v.length : Int))) (cond (decide ((v.length : Int) = (v.length : Int))) (RET ((v.take ((v.length : Int).toNat)).drop 0)) none) none
def Yi := Up (β := Ak) some
theorem Xrk {β : Type} (k : Nat) (v : Ak) (K : KT β) : Ag (X0h k) Tryz.f266 (PsT.put Xn9 (v, ())) K = (Yi k v).bind fun r => K (F266_O.put r) :=
 Eq.trans (b := Up (fun r => K (F266_O.put r)) k v) (by kernel_rfl) (by simp only [Yi, Up, z1, z2, z3, z4, z5, z6, z7, z8])
def Xcn (k : Nat) : FD := ⟨266, Xn9, F266_O, Yi k⟩
theorem Xno (k : Nat) : (Xcn k).Ok Tryz.prog := ⟨fun x => Ab (Am .none _ _ _ _) Ah Tryz.func266 rfl rfl (Xrk k _ some), .of (by kernel_rfl)⟩
def Xwh : Nat → Hint
 | 0 => ⟨pl 2 1 (pl 6 2 []), pl 2000 9 ((6000, .own .own Ac []) :: (pl 7000 1 []))⟩
 | _ => ⟨[], []⟩
abbrev Dw (k : Nat) : Env := Bc (Az [Oj k, Qk k, Xcn k]) Xwh .own [] k
abbrev Xaw : List PA := [.agg (.pair mI C1), .one mI]
abbrev F265_O : RO := ⟨[.v, .v], [.sl .own Ac, mB]⟩
noncomputable def Rk {β : Type} (k : Nat) (v : (den Ac)) (w : Int) (K : KT β) : Ex → St → Option β := Br (Dw k) Tryz.f265 (PsT.put Xaw (v, w, ())) K
def Le (v : (den Ac)) (w : Int) (m6000_0 : Ak) (m7000_0 : Int) : St := ⟨(.one .d) :: (.one .d) :: (.one (.ptr (.cell 2000) 9 0)) :: dz 3 ((.one (.ptr (.cell 6000) 1 0)) :: (.one (.ptr (.cell 7000) 1 0)) :: dz 54 []), A7 2000 (Ce (.pair mI C1) v) [eM 6000 (.s .own Ac m6000_0), iM 7000 m7000_0]⟩
def Fj (k : Nat) (v : (den Ac)) (w : Int) : List Aa → Ak → Int → Option (Ak × Bool)
 | [], m6000_0, m7000_0 => A1 (i64.wrap ((m6000_0.length : Int) - 1)) m6000_0 ((sto (m6000_0.set ((i64.wrap ((m6000_0.length : Int) - 1)).toNat) ((Ap m6000_0 (i64.wrap ((m6000_0.length : Int) - 1))).1, (Ap m6000_0 (i64.wrap ((m6000_0.length : Int) - 1))).2.1, (Ap m6000_0 (i64.wrap ((m6000_0.length : Int) - 1))).2.2.1, (Ap m6000_0 (i64.wrap ((m6000_0.length : Int) - 1))).2.2.2.1, (Ap m6000_0 (i64.wrap ((m6000_0.length : Int) - 1))).2.2.2.2.1, (Ap m6000_0 (i64.wrap ((m6000_0.length : Int) - 1))).2.2.2.2.2.1, v.2.2.2.2.2.2.1, (Ap m6000_0 (i64.wrap ((m6000_0.length : Int) - 1))).2.2.2.2.2.2.2))).bind fun b3 => cond v.2.2.2.2.2.2.2.1 (some ([], false)) (cond (decide ((Ap b3 (i64.wrap ((m6000_0.length : Int) - 1))).2.2.2.2.2.1 > 255)) (some ([], false)) ((Yi k b3).bind fun b4 => some (b4, true))))
 | z0_0 :: r, m6000_0, m7000_0 => Aw v fun v0 v1 v2 v3 v4 _ _ v7 _ => (Q8 k z0_0).bind fun b2 => Bh (m6000_0.length) ([(v0, v1, v2, v3, v4, m7000_0, true, v7, b2)].length) 80 (Fj k v w r (m6000_0 ++ [(v0, v1, v2, v3, v4, m7000_0, true, v7, b2)]) (i64.wrap (m7000_0 + (z0_0.length : Int))))
theorem Xca {β : Type} (k : Nat) (v : (den Ac)) (w : Int) (m6000_0 : Ak) (m7000_0 : Int) (K : KT β) :
  Es (Dw k) Tryz.f265 [1, 1, 1, 1, 0, 1, 0] 0 25 (Ai (Dw k) [1, 1, 1, 1, 0, 1, 0] (Al Tryz.f265) 0 (Rk k v w K)) ([] : List Aa) (Le v w m6000_0 m7000_0) =
  A1 (i64.wrap ((m6000_0.length : Int) - 1)) m6000_0 ((sto (m6000_0.set ((i64.wrap ((m6000_0.length : Int) - 1)).toNat) ((Ap m6000_0 (i64.wrap ((m6000_0.length : Int) - 1))).1, (Ap m6000_0 (i64.wrap ((m6000_0.length : Int) - 1))).2.1, (Ap m6000_0 (i64.wrap ((m6000_0.length : Int) - 1))).2.2.1, (Ap m6000_0 (i64.wrap ((m6000_0.length : Int) - 1))).2.2.2.1, (Ap m6000_0 (i64.wrap ((m6000_0.length : Int) - 1))).2.2.2.2.1, (Ap m6000_0 (i64.wrap ((m6000_0.length : Int) - 1))).2.2.2.2.2.1, v.2.2.2.2.2.2.1, (Ap m6000_0 (i64.wrap ((m6000_0.length : Int) - 1))).2.2.2.2.2.2.2))).bind fun b3 => cond v.2.2.2.2.2.2.2.1 (K (F265_O.put ([], false))) (cond (decide ((Ap b3 (i64.wrap ((m6000_0.length : Int) - 1))).2.2.2.2.2.1 > 255)) (K (F265_O.put ([], false))) ((Yi k b3).bind fun b4 => K (F265_O.put (b4, true))))) := by kernel_rfl
theorem Xc7 {β : Type} (k : Nat) (v : (den Ac)) (w : Int) (z0_0 : Aa) (r : List Aa) (m6000_0 : Ak) (m7000_0 : Int) (K : KT β) :
  Es (Dw k) Tryz.f265 [1, 1, 1, 1, 0, 1, 0] 0 25 (Ai (Dw k) [1, 1, 1, 1, 0, 1, 0] (Al Tryz.f265) 0 (Rk k v w K)) (z0_0 :: r) (Le v w m6000_0 m7000_0) =
  Aw v fun v0 v1 v2 v3 v4 _ _ v7 _ => (Q8 k z0_0).bind fun b2 => Bh (m6000_0.length) ([(v0, v1, v2, v3, v4, m7000_0, true, v7, b2)].length) 80 (Es (Dw k) Tryz.f265 [1, 1, 1, 1, 0, 1, 0] 0 25 (Ai (Dw k) [1, 1, 1, 1, 0, 1, 0] (Al Tryz.f265) 0 (Rk k v w K)) r (Le v w (m6000_0 ++ [(v0, v1, v2, v3, v4, m7000_0, true, v7, b2)]) (i64.wrap (m7000_0 + (z0_0.length : Int))))) := by kernel_rfl
theorem Xcb {β : Type} (k : Nat) (v : (den Ac)) (w : Int) (K : KT β) (l : List Aa) : ∀ (m6000_0 : Ak) (m7000_0 : Int), Es (Dw k) Tryz.f265 [1, 1, 1, 1, 0, 1, 0] 0 25 (Ai (Dw k) [1, 1, 1, 1, 0, 1, 0] (Al Tryz.f265) 0 (Rk k v w K)) l (Le v w m6000_0 m7000_0) =
  (Fj k v w l m6000_0 m7000_0).bind fun r => K (F265_O.put r) := by
 induction l with
 | nil => intros; rw [Xca, Fj]; simp only [z1, z2, z3, z4, z5, z6, z7, z8, Aw]
 | cons z r ih =>
  intros
  rw [Xc7, Fj]
  simp only [z1, z2, z3, z4, z5, z6, z7, z8, Aw, ih]
def X3 (k : Nat) (v : (den Ac)) (w : Int) : Option (Ak × Bool) := cond (decide ((v.2.2.2.2.2.2.2.2.length : Int) ≤ w)) ((O9 k v).bind fun b1 => some ([b1], true)) (cond (decide (1 ≤ w) && decide (w ≤ 9223372036854775807) && decide (v.2.2.2.2.2.2.2.2.length ≤ 140737488355328)) (Fj k v w (B0 ((w : Int).toNat) v.2.2.2.2.2.2.2.2) [] v.2.2.2.2.2.1) none)
theorem Xr6 {β : Type} (k : Nat) (v : (den Ac)) (w : Int) (K : KT β) : Ag (Dw k) Tryz.f265 (PsT.put Xaw (v, w, ())) K = (X3 k v w).bind fun r => K (F265_O.put r) :=
 Eq.trans (b := cond (decide ((v.2.2.2.2.2.2.2.2.length : Int) ≤ w)) ((O9 k v).bind fun b1 => K (F265_O.put ([b1], true))) (cond (decide (1 ≤ w) && decide (w ≤ 9223372036854775807) && decide (v.2.2.2.2.2.2.2.2.length ≤ 140737488355328)) (Es (Dw k) Tryz.f265 [1, 1, 1, 1, 0, 1, 0] 0 25 (Ai (Dw k) [1, 1, 1, 1, 0, 1, 0] (Al Tryz.f265) 0 (Rk k v w K)) (B0 ((w : Int).toNat) v.2.2.2.2.2.2.2.2) (Le v w [] v.2.2.2.2.2.1)) none)) (by kernel_rfl) (by simp only [X3, z1, z2, z3, z4, z5, z6, z7, z8, Aw, Xcb])
def Xjy (k : Nat) : FD := ⟨265, Xaw, F265_O, X3 k⟩
theorem Xyb (k : Nat) : (Xjy k).Ok Tryz.prog := ⟨fun x => Ab (Am (Aj (.c (Rl k) (.c (Uw k) (.c (Xno k) .n)))) _ _ _ _) Ah Tryz.func265 rfl rfl (Xr6 k _ _ some), .of (by kernel_rfl)⟩
end
end Go.Proofs.YtdmepjjepogddaaGreat.Gn
end

section
set_option linter.unusedVariables false
set_option linter.unusedSimpArgs false
namespace Go.Proofs.YtdmepjjepogddaaGreat.Gn
open Go.Rf IntKind
noncomputable section
def Xw5 : Nat → Hint
 | 1 => ⟨pl 4 2 (pl 7 1 (pl 66 2 [])), pl 4000 3 (pl 5000 4 (pl 59000 1 []))⟩
 | _ => ⟨[], []⟩
abbrev T7 (k : Nat) : Env := Bc (Az [Oj k, Xko k, Xjg k, Xjy k]) Xw5 .own [] k
abbrev Xbb : List PA := [.agg (.pair mI (.sl .ro B6)), .agg (.pair mI C1)]
abbrev F208_O : RO := ⟨[.a], [Xor]⟩
noncomputable def Xw6 {β : Type} (k : Nat) (v : (den sta)) (w : (den Ac)) (K : KT β) : Ex → St → Option β := Br (T7 k) Tryz.f208 (PsT.put Xbb (v, w, ())) K
def Xr9 (v : (den sta)) (w : (den Ac)) (x66_1 x67_1 : Int) (m5000_1 : (den B6)) (m59000_1 : Ak) : St := ⟨dz 4 ((.one (.ptr (.cell 4000) 3 0)) :: (.one (.ptr (.cell 5000) 4 0)) :: (.one .d) :: (.one (.a (.cell 59000) 0 0 none)) :: dz 58 ((.one (vI x66_1)) :: (.one (vI x67_1)) :: dz 15 [])), A7 4000 (Ce Xor (0, 0, [])) (A7 5000 (Ce m_2 m5000_1) [eM 59000 (.s .own Ac m59000_1)])⟩
noncomputable def M8 {β : Type} (k : Nat) (v : (den sta)) (w : (den Ac)) (K : KT β) (n : Nat) (x66_1 x67_1 : Int) (m5000_1 : (den B6)) (m59000_1 : Ak) : Option β := A3 (T7 k) Tryz.f208 [1, 1, 1, 1, 1, 1, 1, 0, 1, 0] 1 (Ai (T7 k) [1, 1, 1, 1, 1, 1, 1, 0, 1, 0] (Al Tryz.f208) 0 (Xw6 k v w K)) n (Xr9 v w x66_1 x67_1 m5000_1 m59000_1)
def F0 {β : Type} (NX : Int → Int → (den B6) → Ak → Option β) (RET : (den Pa) → Option β) (k : Nat) (v : (den sta)) (w : (den Ac)) (x66_1 x67_1 : Int) (m5000_1 : (den B6)) (m59000_1 : Ak) : Option β := cond (decide (x67_1 < x66_1)) (A1 x67_1 m59000_1 (A1 x67_1 m59000_1 (NX x66_1 (i64.wrap (x67_1 + 1)) m5000_1 (m59000_1.set x67_1.toNat ((Ap m59000_1 x67_1).1, (Ap m59000_1 x67_1).2.1, (Ap m59000_1 x67_1).2.2.1, i64.wrap ((Ap m59000_1 x67_1).2.2.2.1 - 1), (Ap m59000_1 x67_1).2.2.2.2))))) (RET (2, m5000_1.2.2.1, m59000_1))
def D6 (k : Nat) (v : (den sta)) (w : (den Ac)) : Nat → Int → Int → (den B6) → Ak → Option ((den Pa))
 | 0, _, _, _, _ => none
 | n + 1, x66_1, x67_1, m5000_1, m59000_1 => F0 (D6 k v w n) some k v w x66_1 x67_1 m5000_1 m59000_1
theorem Xcy {β : Type} (k : Nat) (v : (den sta)) (w : (den Ac)) (K : KT β) (n : Nat) : ∀ (x66_1 x67_1 : Int) (m5000_1 : (den B6)) (m59000_1 : Ak), M8 k v w K n x66_1 x67_1 m5000_1 m59000_1 =
  (D6 k v w n x66_1 x67_1 m5000_1 m59000_1).bind fun r => K (F208_O.put r) := by
 induction n with
 | zero => intros; rfl
 | succ n ih =>
  intro x66_1 x67_1 m5000_1 m59000_1
  refine Eq.trans (b := F0 (M8 k v w K n) (fun r => K (F208_O.put r)) k v w x66_1 x67_1 m5000_1 m59000_1) (by kernel_rfl) ?_
  rw [D6]
  simp only [F0, z1, z2, z3, z4, z5, z6, z7, z8, Aw, ih]
def Rs {β : Type} (LP1 : Int → Int → (den B6) → Ak → Option β) (RET : (den Pa) → Option β) (k : Nat) (v : (den sta)) (w : (den Ac)) : Option β := cond (w.2.1 == v.1) ((O9 k w).bind fun b1 => RET (1, 0, [b1])) (cond (decide (w.2.2.2.1 < 2)) ((X0 k v w 4 0).bind fun b2 => RET b2) ((F74 k v.2 w.2.1 17).bind fun b3 => cond (!b3.2) ((X0 k v w 3 0).bind fun b4 => RET b4) (cond (decide ((w.2.2.2.2.2.2.2.2.length : Int) > b3.1.2.2.2)) (cond w.2.2.2.2.2.2.2.1 ((X0 k v w 6 b3.1.2.2.2).bind fun b5 => RET b5) ((X3 k w b3.1.2.2.2).bind fun b6 => cond (!b6.2) (RET (0, 0, [])) (LP1 (b6.1.length : Int) 0 b3.1 b6.1))) ((X3 k w b3.1.2.2.2).bind fun b7 => cond (!b7.2) (RET (0, 0, [])) (LP1 (b7.1.length : Int) 0 b3.1 b7.1)))))
def Wb (k : Nat) (v : (den sta)) (w : (den Ac)) : Option ((den Pa)) := Rs (D6 k v w k) some k v w
theorem Xt0 {β : Type} (k : Nat) (v : (den sta)) (w : (den Ac)) (K : KT β) : Ag (T7 k) Tryz.f208 (PsT.put Xbb (v, w, ())) K = (Wb k v w).bind fun r => K (F208_O.put r) :=
 Eq.trans (b := Rs (M8 k v w K k) (fun r => K (F208_O.put r)) k v w) (by kernel_rfl) (by simp only [Wb, Rs, z1, z2, z3, z4, z5, z6, z7, z8, Aw, Xcy])
def Xkt (k : Nat) : FD := ⟨208, Xbb, F208_O, Wb k⟩
theorem Xy0 (k : Nat) : (Xkt k).Ok Tryz.prog := ⟨fun x => Ab (Am (Aj (.c (Rl k) (.c (Xy8 k) (.c (Xuk k) (.c (Xyb k) .n))))) _ _ _ _) Ah Tryz.func208 rfl rfl (Xt0 k _ _ some), .of (by kernel_rfl)⟩
def Xws : Nat → Hint
 | 0 => ⟨(3, .own .own Ac []) :: (pl 6 3 []), []⟩
 | _ => ⟨[], []⟩
abbrev Wx (k : Nat) : Env := Bc (Az [Oj k, Xcn k]) Xws .own [] k
abbrev Xbx : List PA := [.one (.sl .ro Ac)]
abbrev F209_O : RO := ⟨[.v], [.sl .own Ac]⟩
noncomputable def Xye {β : Type} (k : Nat) (v : Ak) (K : KT β) : Ex → St → Option β := Br (Wx k) Tryz.f209 (PsT.put Xbx (v, ())) K
def Xqp (v : Ak) (x8_0 : Int) (m3900_0 : Ak) : St := ⟨dz 3 ((.one (.a (.cell 3900) 0 0 none)) :: (.one .d) :: (.one .d) :: (.one (.s .ro Ac v)) :: (.one (vI (v.length : Int))) :: (.one (vI x8_0)) :: dz 11 []), [eM 3900 (.s .own Ac m3900_0)]⟩
noncomputable def Nt {β : Type} (k : Nat) (v : Ak) (K : KT β) (n : Nat) (x8_0 : Int) (m3900_0 : Ak) : Option β := A3 (Wx k) Tryz.f209 [1, 1, 0, 1, 0] 0 (Ai (Wx k) [1, 1, 0, 1, 0] (Al Tryz.f209) 0 (Xye k v K)) n (Xqp v x8_0 m3900_0)
def J0 {β : Type} (NX : Int → Ak → Option β) (RET : Ak → Option β) (k : Nat) (v : Ak) (x8_0 : Int) (m3900_0 : Ak) : Option β := cond (decide (x8_0 < (v.length : Int))) (A1 x8_0 v ((O9 k (Ap v x8_0)).bind fun b1 => Bh (m3900_0.length) ([b1].length) 80 (NX (i64.wrap (x8_0 + 1)) (m3900_0 ++ [b1])))) ((Yi k m3900_0).bind fun b2 => RET b2)
def J1 (k : Nat) (v : Ak) : Nat → Int → Ak → Option (Ak)
 | 0, _, _ => none
 | n + 1, x8_0, m3900_0 => J0 (J1 k v n) some k v x8_0 m3900_0
theorem Xc6 {β : Type} (k : Nat) (v : Ak) (K : KT β) (n : Nat) : ∀ (x8_0 : Int) (m3900_0 : Ak), Nt k v K n x8_0 m3900_0 =
  (J1 k v n x8_0 m3900_0).bind fun r => K (F209_O.put r) := by
 induction n with
 | zero => intros; rfl
 | succ n ih =>
  intro x8_0 m3900_0
  refine Eq.trans (b := J0 (Nt k v K n) (fun r => K (F209_O.put r)) k v x8_0 m3900_0) (by kernel_rfl) ?_
  rw [J1]
  simp only [J0, z1, z2, z3, z4, z5, z6, z7, z8, ih]
def V3 {β : Type} (LP0 : Int → Ak → Option β) (k : Nat) (v : Ak) : Option β := LP0 0 []
def Pc (k : Nat) (v : Ak) : Option (Ak) := V3 (J1 k v k) k v
theorem Xr0 {β : Type} (k : Nat) (v : Ak) (K : KT β) : Ag (Wx k) Tryz.f209 (PsT.put Xbx (v, ())) K = (Pc k v).bind fun r => K (F209_O.put r) :=
 Eq.trans (b := V3 (Nt k v K k) k v) (by kernel_rfl) (by simp only [Pc, V3, z1, z2, z3, z4, z5, z6, z7, z8, Xc6])
def Xcm (k : Nat) : FD := ⟨209, Xbx, F209_O, Pc k⟩
theorem Xky (k : Nat) : (Xcm k).Ok Tryz.prog := ⟨fun x => Ab (Am (Aj (.c (Rl k) (.c (Xno k) .n))) _ _ _ _) Ah Tryz.func209 rfl rfl (Xr0 k _ some), .of (by kernel_rfl)⟩
def Xwq : Nat → Hint
 | 0 => ⟨pl 0 1 (pl 6 2 ((8, .own .sown (.pair (.int .i64) Ac) []) :: [])), pl 6000 3 ((7000, .own .own Ac []) :: (7001, .own .own Ac []) :: (pl 7002 1 []))⟩
 | 3 => ⟨pl 0 1 (pl 6 2 ((8, .own .sown (.pair (.int .i64) Ac) []) :: (pl 11 1 (pl 65 3 [])))), pl 6000 3 (pl 7000 3 ((37002, .own .sown Ac []) :: []))⟩
 | _ => ⟨[], []⟩
abbrev Ev (k : Nat) : Env := Bc (Az [Xkt k, Xfl k, Xcm k]) Xwq .own [] k
abbrev Xcg : List PA := [.one (.sl .ro sta), .one mI, .agg (.pair mI C1)]
abbrev F140_O : RO := ⟨[.a], [J7]⟩
noncomputable def Xdy {β : Type} (k : Nat) (v : Af) (w : Int) (p : (den Ac)) (K : KT β) : Ex → St → Option β := Br (Ev k) Tryz.f140 (PsT.put Xcg (v, w, p, ())) K
def Xqj (v : Af) (w : Int) (p : (den Ac)) (x11_3 x66_3 x67_3 : Int) (m7000_3 : (den Cy)) (m37002_3 : Ak) (m8900_3 : Cb) : St := ⟨(.one (.s .ro sta v)) :: dz 5 ((.one (.ptr (.cell 6000) 3 0)) :: (.one (.ptr (.cell 7000) 3 0)) :: (.one (.a (.cell 8900) 0 0 none)) :: (.one .d) :: (.one .d) :: (.one (vI x11_3)) :: dz 53 ((.one (.a (.cell 37002) 0 0 none)) :: (.one (vI x66_3)) :: (.one (vI x67_3)) :: dz 19 [])), A7 6000 (Ce J7 ([], [], 0)) (A7 7000 (Ce J7 m7000_3) [eM 37002 (.s .sown Ac m37002_3), eM 8900 (.s .sown (.pair (.int .i64) Ac) m8900_3)])⟩
noncomputable def Ob {β : Type} (k : Nat) (v : Af) (w : Int) (p : (den Ac)) (KK : Ex → St → Option β) (n : Nat) (x11_3 x66_3 x67_3 : Int) (m7000_3 : (den Cy)) (m37002_3 : Ak) (m8900_3 : Cb) : Option β := A3 (Ev k) Tryz.f140 [1, 1, 0, 1, 0, 0, 1, 0, 1, 1, 1, 1, 1, 0, 1, 1, 1, 1, 1, 0, 1, 1, 0, 1, 0] 3 KK n (Xqj v w p x11_3 x66_3 x67_3 m7000_3 m37002_3 m8900_3)
def Jb {β : Type} (NX : Int → Int → Int → (den Cy) → Ak → Cb → Option β) (EX0 : (Int × Int × Int × (den Cy) × Ak × Cb) → Option β) (k : Nat) (v : Af) (w : Int) (p : (den Ac)) (x11_3 x66_3 x67_3 : Int) (m7000_3 : (den Cy)) (m37002_3 : Ak) (m8900_3 : Cb) : Option β := cond (decide (x67_3 < x66_3)) (A1 x67_3 m37002_3 (Bh (m8900_3.length) ([(x11_3, (Ap m37002_3 x67_3))].length) 88 (NX x11_3 x66_3 (i64.wrap (x67_3 + 1)) m7000_3 m37002_3 (m8900_3 ++ [(x11_3, (Ap m37002_3 x67_3))])))) (EX0 (x11_3, x66_3, x67_3, m7000_3, m37002_3, m8900_3))
def Jm (k : Nat) (v : Af) (w : Int) (p : (den Ac)) : Nat → Int → Int → Int → (den Cy) → Ak → Cb → Option ((Int × Int × Int × (den Cy) × Ak × Cb))
 | 0, _, _, _, _, _, _ => none
 | n + 1, x11_3, x66_3, x67_3, m7000_3, m37002_3, m8900_3 => Jb (Jm k v w p n) (fun y3 => some y3) k v w p x11_3 x66_3 x67_3 m7000_3 m37002_3 m8900_3
theorem Xbv {β : Type} (k : Nat) (v : Af) (w : Int) (p : (den Ac)) (KK : Ex → St → Option β) (n : Nat) : ∀ (x11_3 x66_3 x67_3 : Int) (m7000_3 : (den Cy)) (m37002_3 : Ak) (m8900_3 : Cb), Ob k v w p KK n x11_3 x66_3 x67_3 m7000_3 m37002_3 m8900_3 =
  (Jm k v w p n x11_3 x66_3 x67_3 m7000_3 m37002_3 m8900_3).bind fun y3 => KK (.exit 3) ⟨(.one (.s .ro sta v)) :: dz 5 ((.one (.ptr (.cell 6000) 3 0)) :: (.one (.ptr (.cell 7000) 3 0)) :: (.one (.a (.cell 8900) 0 0 none)) :: (.one .d) :: (.one .d) :: (.one (vI y3.1)) :: dz 53 ((.one (.a (.cell 37002) 0 0 none)) :: (.one (vI y3.2.1)) :: (.one (vI y3.2.2.1)) :: (.one (vB false)) :: dz 18 [])), A7 6000 (Ce J7 ([], [], 0)) (A7 7000 (Ce J7 y3.2.2.2.1) [eM 37002 (.s .sown Ac y3.2.2.2.2.1), eM 8900 (.s .sown (.pair (.int .i64) Ac) y3.2.2.2.2.2)])⟩ := by
 induction n with
 | zero => intros; rfl
 | succ n ih =>
  intro x11_3 x66_3 x67_3 m7000_3 m37002_3 m8900_3
  refine Eq.trans (b := Jb (Ob k v w p KK n) (fun y3 => KK (.exit 3) ⟨(.one (.s .ro sta v)) :: dz 5 ((.one (.ptr (.cell 6000) 3 0)) :: (.one (.ptr (.cell 7000) 3 0)) :: (.one (.a (.cell 8900) 0 0 none)) :: (.one .d) :: (.one .d) :: (.one (vI y3.1)) :: dz 53 ((.one (.a (.cell 37002) 0 0 none)) :: (.one (vI y3.2.1)) :: (.one (vI y3.2.2.1)) :: (.one (vB false)) :: dz 18 [])), A7 6000 (Ce J7 ([], [], 0)) (A7 7000 (Ce J7 y3.2.2.2.1) [eM 37002 (.s .sown Ac y3.2.2.2.2.1), eM 8900 (.s .sown (.pair (.int .i64) Ac) y3.2.2.2.2.2)])⟩) k v w p x11_3 x66_3 x67_3 m7000_3 m37002_3 m8900_3) (by kernel_rfl) ?_
  rw [Jm]
  simp only [Jb, z1, z2, z3, z4, z5, z6, z7, z8, Aw, ih]
def Xqc (v : Af) (w : Int) (p : (den Ac)) (m7000_0 : (den Cy)) (m8900_0 : Cb) : St := ⟨(.one (.s .ro sta v)) :: dz 5 ((.one (.ptr (.cell 6000) 3 0)) :: (.one (.ptr (.cell 7000) 3 0)) :: (.one (.a (.cell 8900) 0 0 none)) :: dz 78 []), A7 6000 (Ce J7 ([], [], 0)) (A7 7000 (Ce J7 m7000_0) [eM 8900 (.s .sown (.pair (.int .i64) Ac) m8900_0)])⟩
noncomputable def Dd {β : Type} (k : Nat) (v : Af) (w : Int) (p : (den Ac)) (K : KT β) (n : Nat) (m7000_0 : (den Cy)) (m8900_0 : Cb) : Option β := A3 (Ev k) Tryz.f140 [1, 1, 0, 1, 0] 0 (Ai (Ev k) [1, 1, 0, 1, 0] (Al Tryz.f140) 0 (Xdy k v w p K)) n (Xqc v w p m7000_0 m8900_0)
def Bf (k : Nat) (v : Af) (w : Int) (p : (den Ac)) : Nat → (den Cy) → Cb → Option ((den Cy))
 | 0, _, _ => none
 | n + 1, m7000_0, m8900_0 => cond (decide ((m8900_0.length : Int) > 0)) (cond (decide (0 < (m8900_0.length : Int))) (cond (decide (0 ≤ 1) && decide (1 ≤ (m8900_0.length : Int))) (A1 (Ap m8900_0 0).1 v ((Wb k (Ap v (Ap m8900_0 0).1) (Ap m8900_0 0).2).bind fun b1 => cond (b1.1 == 1) (Bh (m7000_0.1.length) (b1.2.2.length) 80 (Bf k v w p n (m7000_0.1 ++ b1.2.2, m7000_0.2.1, i64.wrap (m7000_0.2.2 + 1)) ((m8900_0.take (((m8900_0.length : Int)).toNat)).drop 1))) (cond (b1.1 == 3) (Bh (m7000_0.2.1.length) (b1.2.2.length) 80 (Bf k v w p n (m7000_0.1, m7000_0.2.1 ++ b1.2.2, i64.wrap (m7000_0.2.2 + 1)) ((m8900_0.take (((m8900_0.length : Int)).toNat)).drop 1))) (cond (b1.1 == 2) ((F75 k v b1.2.1).bind fun b2 => cond (decide (b2 ≥ 0)) ((Jm k v w p k b2 (b1.2.2.length : Int) 0 (m7000_0.1, m7000_0.2.1, i64.wrap (m7000_0.2.2 + 1)) b1.2.2 ((m8900_0.take (((m8900_0.length : Int)).toNat)).drop 1)).bind fun y3 => Bf k v w p n y3.2.2.2.1 y3.2.2.2.2.2) (Bf k v w p n (m7000_0.1, m7000_0.2.1, i64.wrap (m7000_0.2.2 + 1)) ((m8900_0.take (((m8900_0.length : Int)).toNat)).drop 1))) (Bf k v w p n (m7000_0.1, m7000_0.2.1, i64.wrap (m7000_0.2.2 + 1)) ((m8900_0.take (((m8900_0.length : Int)).toNat)).drop 1)))))) none) none) ((Pc k m7000_0.1).bind fun b3 => (Pc k m7000_0.2.1).bind fun b4 => some (b3, b4, m7000_0.2.2))
theorem Tz {β : Type} (k n : Nat) (v : Af) (w : Int) (p : (den Ac)) (y3 : Int × Int × Int × (den Cy) × Ak × Cb) (K : KT β) :
  (Ai (Ev k) [1, 0, 1, 1, 1, 1, 1, 0, 1, 1, 1, 1, 1, 0, 1, 1, 0, 1, 0] (Bo [1, 1, 0, 1, 0, 0] (Al Tryz.f140)) 0 (Dx (Ev k) Tryz.f140 [1, 1, 0, 1, 0] 0 (Ai (Ev k) [1, 1, 0, 1, 0] (Al Tryz.f140) 0 (Xdy k v w p K)) n)) (.exit 3) ⟨(.one (.s .ro sta v)) :: dz 5 ((.one (.ptr (.cell 6000) 3 0)) :: (.one (.ptr (.cell 7000) 3 0)) :: (.one (.a (.cell 8900) 0 0 none)) :: (.one .d) :: (.one .d) :: (.one (vI y3.1)) :: dz 53 ((.one (.a (.cell 37002) 0 0 none)) :: (.one (vI y3.2.1)) :: (.one (vI y3.2.2.1)) :: (.one (vB false)) :: dz 18 [])), A7 6000 (Ce J7 ([], [], 0)) (A7 7000 (Ce J7 y3.2.2.2.1) [eM 37002 (.s .sown Ac y3.2.2.2.2.1), eM 8900 (.s .sown (.pair (.int .i64) Ac) y3.2.2.2.2.2)])⟩ =
  Dd k v w p K n y3.2.2.2.1 y3.2.2.2.2.2 := by kernel_rfl
theorem Xci {β : Type} (k : Nat) (v : Af) (w : Int) (p : (den Ac)) (K : KT β) (n : Nat) : ∀ (m7000_0 : (den Cy)) (m8900_0 : Cb), Dd k v w p K n m7000_0 m8900_0 =
  (Bf k v w p n m7000_0 m8900_0).bind fun r => K (F140_O.put r) := by
 induction n with
 | zero => intros; rfl
 | succ n ih =>
  intro m7000_0 m8900_0
  refine Eq.trans (b := cond (decide ((m8900_0.length : Int) > 0)) (cond (decide (0 < (m8900_0.length : Int))) (cond (decide (0 ≤ 1) && decide (1 ≤ (m8900_0.length : Int))) (A1 (Ap m8900_0 0).1 v ((Wb k (Ap v (Ap m8900_0 0).1) (Ap m8900_0 0).2).bind fun b1 => cond (b1.1 == 1) (Bh (m7000_0.1.length) (b1.2.2.length) 80 (Dd k v w p K n (m7000_0.1 ++ b1.2.2, m7000_0.2.1, i64.wrap (m7000_0.2.2 + 1)) ((m8900_0.take (((m8900_0.length : Int)).toNat)).drop 1))) (cond (b1.1 == 3) (Bh (m7000_0.2.1.length) (b1.2.2.length) 80 (Dd k v w p K n (m7000_0.1, m7000_0.2.1 ++ b1.2.2, i64.wrap (m7000_0.2.2 + 1)) ((m8900_0.take (((m8900_0.length : Int)).toNat)).drop 1))) (cond (b1.1 == 2) ((F75 k v b1.2.1).bind fun b2 => cond (decide (b2 ≥ 0)) (Ob k v w p (Ai (Ev k) [1, 0, 1, 1, 1, 1, 1, 0, 1, 1, 1, 1, 1, 0, 1, 1, 0, 1, 0] (Bo [1, 1, 0, 1, 0, 0] (Al Tryz.f140)) 0 (Dx (Ev k) Tryz.f140 [1, 1, 0, 1, 0] 0 (Ai (Ev k) [1, 1, 0, 1, 0] (Al Tryz.f140) 0 (Xdy k v w p K)) n)) k b2 (b1.2.2.length : Int) 0 (m7000_0.1, m7000_0.2.1, i64.wrap (m7000_0.2.2 + 1)) b1.2.2 ((m8900_0.take (((m8900_0.length : Int)).toNat)).drop 1)) (Dd k v w p K n (m7000_0.1, m7000_0.2.1, i64.wrap (m7000_0.2.2 + 1)) ((m8900_0.take (((m8900_0.length : Int)).toNat)).drop 1))) (Dd k v w p K n (m7000_0.1, m7000_0.2.1, i64.wrap (m7000_0.2.2 + 1)) ((m8900_0.take (((m8900_0.length : Int)).toNat)).drop 1)))))) none) none) ((Pc k m7000_0.1).bind fun b3 => (Pc k m7000_0.2.1).bind fun b4 => K (F140_O.put (b3, b4, m7000_0.2.2)))) (by kernel_rfl) ?_
  rw [Bf]
  simp only [z1, z2, z3, z4, z5, z6, z7, z8, Aw, Xbv, Tz k n v w p _ K, ih, A1, Bh]
def Tv {β : Type} (LP0 : (den Cy) → Cb → Option β) (k : Nat) (v : Af) (w : Int) (p : (den Ac)) : Option β := Aw p fun p0 p1 p2 p3 p4 p5 p6 p7 p8 => LP0 ([], [], 0) [(w, p0, p1, p2, p3, p4, p5, p6, p7, p8)]
def Xgk (k : Nat) (v : Af) (w : Int) (p : (den Ac)) : Option ((den Cy)) := Tv (Bf k v w p k) k v w p
theorem Xsx {β : Type} (k : Nat) (v : Af) (w : Int) (p : (den Ac)) (K : KT β) : Ag (Ev k) Tryz.f140 (PsT.put Xcg (v, w, p, ())) K = (Xgk k v w p).bind fun r => K (F140_O.put r) :=
 Eq.trans (b := Tv (Dd k v w p K k) k v w p) (by kernel_rfl) (by simp only [Xgk, Tv, z1, z2, z3, z4, z5, z6, z7, z8, Aw, Xci])
def Xkp (k : Nat) : FD := ⟨140, Xcg, F140_O, Xgk k⟩
theorem Xy4 (k : Nat) : (Xkp k).Ok Tryz.prog := ⟨fun x => Ab (Am (Aj (.c (Xy0 k) (.c (Xm4 k) (.c (Xky k) .n)))) _ _ _ _) Ah Tryz.func140 rfl rfl (Xsx k _ _ _ some), .of (by kernel_rfl)⟩
abbrev X0s (k : Nat) : Env := Bc Bv An .own [] k
abbrev Xjm : List PA := [.agg (.pair mI C1), .agg (.pair mI C1)]
abbrev F217_O : RO := ⟨[.v], [mB]⟩
def Z8 {β : Type} (RET : Bool → Option β) (k : Nat) (v w : (den Ac)) : Option β := cond (v.1 == w.1) (cond (v.2.1 == w.2.1) (cond (v.2.2.1 == w.2.2.1) (RET (v.2.2.2.2.1 == w.2.2.2.2.1)) (RET false)) (RET false)) (RET false)
def Xdn := Z8 (β := Bool) some
theorem Xqy {β : Type} (k : Nat) (v w : (den Ac)) (K : KT β) : Ag (X0s k) Tryz.f217 (PsT.put Xjm (v, w, ())) K = (Xdn k v w).bind fun r => K (F217_O.put r) :=
 Eq.trans (b := Z8 (fun r => K (F217_O.put r)) k v w) (by kernel_rfl) (by simp only [Xdn, Z8, z1, z2, z3, z4, z5, z6, z7, z8, Aw])
def U4 (k : Nat) : FD := ⟨217, Xjm, F217_O, Xdn k⟩
theorem Xdt (k : Nat) : (U4 k).Ok Tryz.prog := ⟨fun x => Ab (Am .none _ _ _ _) Ah Tryz.func217 rfl rfl (Xqy k _ _ some), .of (by kernel_rfl)⟩
def Xwn : Nat → Hint
 | 0 => ⟨pl 1 1 (pl 3 1 (pl 8 3 [])), pl 1000 2 []⟩
 | _ => ⟨[], []⟩
abbrev Vw (k : Nat) : Env := Bc (Az [Xd8 k, U4 k, Hq k]) Xwn .own [] k
abbrev Xa7 : List PA := [.agg (.pair (.sl .ro Ac) mI)]
abbrev F267_O : RO := ⟨[.v], [mB]⟩
noncomputable def X1y {β : Type} (k : Nat) (v : (den Ax)) (K : KT β) : Ex → St → Option β := Br (Vw k) Tryz.f267 (PsT.put Xa7 (v, ())) K
def Xsl (v : (den Ax)) (x3_0 x10_0 : Int) : St := ⟨(.one .d) :: (.one (.ptr (.cell 1000) 2 0)) :: (.one .d) :: (.one (vI x3_0)) :: dz 4 ((.one (.s .ro Ac v.1)) :: (.one (vI (v.1.length : Int))) :: (.one (vI x10_0)) :: dz 57 []), A7 1000 (Ce (.pair (.sl .ro Ac) mI) v) []⟩
noncomputable def Nu {β : Type} (k : Nat) (v : (den Ax)) (K : KT β) (n : Nat) (x3_0 x10_0 : Int) : Option β := A3 (Vw k) Tryz.f267 [1, 1, 0, 1, 0] 0 (Ai (Vw k) [1, 1, 0, 1, 0] (Al Tryz.f267) 0 (X1y k v K)) n (Xsl v x3_0 x10_0)
def Gj {β : Type} (NX : Int → Int → Option β) (RET : Bool → Option β) (k : Nat) (v : (den Ax)) (x3_0 x10_0 : Int) : Option β := Bb v fun v0 v1 => cond (decide (x10_0 < (v0.length : Int))) (A1 x10_0 v0 ((F89 k (Ap v0 x10_0)).bind fun b1 => cond (!b1) (RET false) (cond (decide (0 < (v0.length : Int))) ((Xdn k (Ap v0 x10_0) (Ap v0 0)).bind fun b2 => cond (!b2) (RET false) (cond (decide (x10_0 > 0)) (A1 (i64.wrap (x10_0 - 1)) v0 (cond (decide ((Ap v0 x10_0).2.2.2.2.2.1 < (i64.wrap ((Ap v0 (i64.wrap (x10_0 - 1))).2.2.2.2.2.1 + ((Ap v0 (i64.wrap (x10_0 - 1))).2.2.2.2.2.2.2.2.length : Int))))) (RET false) (cond (!(Ap v0 (i64.wrap (x10_0 - 1))).2.2.2.2.2.2.1) (RET false) (NX (i64.wrap (x3_0 + ((Ap v0 x10_0).2.2.2.2.2.2.2.2.length : Int))) (i64.wrap (x10_0 + 1)))))) (NX (i64.wrap (x3_0 + ((Ap v0 x10_0).2.2.2.2.2.2.2.2.length : Int))) (i64.wrap (x10_0 + 1))))) none))) (cond (decide ((v0.length : Int) > 0)) (cond (decide (x3_0 ≤ 48)) ((R6 k v1 0 1000000).bind fun b3 => RET b3) (RET false)) (RET false))
def Ea (k : Nat) (v : (den Ax)) : Nat → Int → Int → Option (Bool)
 | 0, _, _ => none
 | n + 1, x3_0, x10_0 => Gj (Ea k v n) some k v x3_0 x10_0
theorem Xdk {β : Type} (k : Nat) (v : (den Ax)) (K : KT β) (n : Nat) : ∀ (x3_0 x10_0 : Int), Nu k v K n x3_0 x10_0 =
  (Ea k v n x3_0 x10_0).bind fun r => K (F267_O.put r) := by
 induction n with
 | zero => intros; rfl
 | succ n ih =>
  intro x3_0 x10_0
  refine Eq.trans (b := Gj (Nu k v K n) (fun r => K (F267_O.put r)) k v x3_0 x10_0) (by kernel_rfl) ?_
  rw [Ea]
  simp only [Gj, z1, z2, z3, z4, z5, z6, z7, z8, Bb, ih]
def Xa6 {β : Type} (LP0 : Int → Int → Option β) (k : Nat) (v : (den Ax)) : Option β := LP0 0 0
def Xbe (k : Nat) (v : (den Ax)) : Option (Bool) := Xa6 (Ea k v k) k v
theorem Xp4 {β : Type} (k : Nat) (v : (den Ax)) (K : KT β) : Ag (Vw k) Tryz.f267 (PsT.put Xa7 (v, ())) K = (Xbe k v).bind fun r => K (F267_O.put r) :=
 Eq.trans (b := Xa6 (Nu k v K k) k v) (by kernel_rfl) (by simp only [Xbe, Xa6, z1, z2, z3, z4, z5, z6, z7, z8, Bb, Xdk])
def Xad (k : Nat) : FD := ⟨267, Xa7, F267_O, Xbe k⟩
theorem Xmt (k : Nat) : (Xad k).Ok Tryz.prog := ⟨fun x => Ab (Am (Aj (.c (Xke k) (.c (Xdt k) (.c (Iv k) .n)))) _ _ _ _) Ah Tryz.func267 rfl rfl (Xp4 k _ some), .of (by kernel_rfl)⟩
abbrev X17 (k : Nat) : Env := Bc (Az [U4 k]) An .own [(false, 1000), (false, 1001)] k
abbrev Xo5 : List PA := [.agg (.pair (.sl .ro Ac) mI), .p (.pair (.sl .ro Ac) mI)]
abbrev F269_O : RO := ⟨[.v], [mB, .pair (.sl .ro Ac) mI]⟩
def Xaa {β : Type} (RET : (Bool × (den Ax)) → Option β) (k : Nat) (v w : (den Ax)) : Option β := cond (decide (0 < (v.1.length : Int))) (cond (decide (0 < (w.1.length : Int))) ((Xdn k (Ap v.1 0) (Ap w.1 0)).bind fun b1 => RET (b1, w)) none) none
def Xp5 := Xaa (β := Bool × (den Ax)) some
theorem Xsr {β : Type} (k : Nat) (v w : (den Ax)) (K : KT β) : Ag (X17 k) Tryz.f269 (PsT.put Xo5 (v, w, ())) K = (Xp5 k v w).bind fun r => K (F269_O.put r) :=
 Eq.trans (b := Xaa (fun r => K (F269_O.put r)) k v w) (by kernel_rfl) (by simp only [Xp5, Xaa, z1, z2, z3, z4, z5, z6, z7, z8, Bb])
def Xjn (k : Nat) : FD := ⟨269, Xo5, F269_O, Xp5 k⟩
theorem Xx8 (k : Nat) : (Xjn k).Ok Tryz.prog := ⟨fun x => Ab (Am (Aj (.c (Xdt k) .n)) _ _ _ _) Ah Tryz.func269 rfl rfl (Xsr k _ _ some), .of (by kernel_rfl)⟩
def Xvt : Nat → Hint
 | 0 => ⟨pl 0 2 (pl 7 2 []), pl 1100 2 []⟩
 | _ => ⟨[], []⟩
abbrev We (k : Nat) : Env := { Bc (Az [Xjn k]) Xvt .own [(false, 1100), (false, 1101)] k with frz := [15] }
abbrev Xb8 : List PA := [.one (.sl .ro Ax), .fc 269 [.pair (.sl .ro Ac) mI]]
abbrev F215_O : RO := ⟨[.v], [mI, .pair (.sl .ro Ac) mI]⟩
noncomputable def Xwo {β : Type} (k : Nat) (v : Ad) (wx : (den Ax)) (K : KT β) : Ex → St → Option β := Br (We k) Tryz.f215 (PsT.put Xb8 (v, (wx, ()), ())) K
def Xs1 (v : Ad) (wx : (den Ax)) (x8_0 : Int) (m1100_0 : (den Ax)) : St := ⟨(.one (.s .ro Ax v)) :: (.one (.fn 269 [((.cell 1100), 2, 0)])) :: dz 5 ((.one (vI (v.length : Int))) :: (.one (vI x8_0)) :: dz 10 []), A7 1100 (Ce (.pair (.sl .ro Ac) mI) m1100_0) []⟩
noncomputable def Nx {β : Type} (k : Nat) (v : Ad) (wx : (den Ax)) (K : KT β) (n : Nat) (x8_0 : Int) (m1100_0 : (den Ax)) : Option β := A3 (We k) Tryz.f215 [1, 0, 1, 0] 0 (Ai (We k) [1, 0, 1, 0] (Al Tryz.f215) 0 (Xwo k v wx K)) n (Xs1 v wx x8_0 m1100_0)
def Ol {β : Type} (NX : Int → (den Ax) → Option β) (RET : (Int × (den Ax)) → Option β) (k : Nat) (v : Ad) (wx : (den Ax)) (x8_0 : Int) (m1100_0 : (den Ax)) : Option β := cond (decide (x8_0 < (v.length : Int))) (A1 x8_0 v ((Xp5 k (Ap v x8_0) m1100_0).bind fun b1 => cond b1.1 (RET (x8_0, b1.2)) (NX (i64.wrap (x8_0 + 1)) b1.2))) (RET ((-1), m1100_0))
def Ju (k : Nat) (v : Ad) (wx : (den Ax)) : Nat → Int → (den Ax) → Option (Int × (den Ax))
 | 0, _, _ => none
 | n + 1, x8_0, m1100_0 => Ol (Ju k v wx n) some k v wx x8_0 m1100_0
theorem Xdc {β : Type} (k : Nat) (v : Ad) (wx : (den Ax)) (K : KT β) (n : Nat) : ∀ (x8_0 : Int) (m1100_0 : (den Ax)), Nx k v wx K n x8_0 m1100_0 =
  (Ju k v wx n x8_0 m1100_0).bind fun r => K (F215_O.put r) := by
 induction n with
 | zero => intros; rfl
 | succ n ih =>
  intro x8_0 m1100_0
  refine Eq.trans (b := Ol (Nx k v wx K n) (fun r => K (F215_O.put r)) k v wx x8_0 m1100_0) (by kernel_rfl) ?_
  rw [Ju]
  simp only [Ol, z1, z2, z3, z4, z5, z6, z7, z8, Bb, ih]
def Uq {β : Type} (LP0 : Int → (den Ax) → Option β) (k : Nat) (v : Ad) (wx : (den Ax)) : Option β := LP0 0 wx
def Xfy (k : Nat) (v : Ad) (wx : (den Ax)) : Option (Int × (den Ax)) := Uq (Ju k v wx k) k v wx
theorem Xq0 {β : Type} (k : Nat) (v : Ad) (wx : (den Ax)) (K : KT β) : Ag (We k) Tryz.f215 (PsT.put Xb8 (v, (wx, ()), ())) K = (Xfy k v wx).bind fun r => K (F215_O.put r) :=
 Eq.trans (b := Uq (Nx k v wx K k) k v wx) (by kernel_rfl) (by simp only [Xfy, Uq, z1, z2, z3, z4, z5, z6, z7, z8, Bb, Xdc])
def Xks (k : Nat) : FD := ⟨215, Xb8, F215_O, Xfy k⟩
theorem Xze (k : Nat) : (Xks k).Ok Tryz.prog := ⟨fun x => Ab (W5 [15] (Aj (.c (Xx8 k) .n)) _ _ _ _) Ah Tryz.func215 rfl rfl (Xq0 k _ _ some), .of (by kernel_rfl)⟩
abbrev Xvm (k : Nat) : Env := Bc (Az [Xks k]) An .own [(false, 1100), (false, 1101)] k
abbrev Xkm : List PA := [.one (.sl .ro Ax), .fc 269 [.pair (.sl .ro Ac) mI]]
abbrev F268_O : RO := ⟨[.v], [mB, .pair (.sl .ro Ac) mI]⟩
def Xg5 (k : Nat) (v : Ad) (wx : (den Ax)) : Option (Bool × (den Ax)) := (Xfy k v wx).bind fun b1 => some (decide (b1.1 ≥ 0), b1.2)
theorem Xp9 {β : Type} (k : Nat) (v : Ad) (wx : (den Ax)) (K : KT β) : Ag (Xvm k) Tryz.f268 (PsT.put Xkm (v, (wx, ()), ())) K = (Xg5 k v wx).bind fun r => K (F268_O.put r) :=
 Eq.trans (b := (Xfy k v wx).bind fun b1 => K (F268_O.put (decide (b1.1 ≥ 0), b1.2))) (by kernel_rfl) (by simp only [Xg5, z1, z2, z3, z4, z5, z6, z7, z8, Bb])
def Xj9 (k : Nat) : FD := ⟨268, Xkm, F268_O, Xg5 k⟩
theorem Xzk (k : Nat) : (Xj9 k).Ok Tryz.prog := ⟨fun x => Ab (Am (Aj (.c (Xze k) .n)) _ _ _ _) Ah Tryz.func268 rfl rfl (Xp9 k _ _ some), .of (by kernel_rfl)⟩
def X0d : Nat → Hint
 | 0 => ⟨pl 0 1 (pl 5 3 []), []⟩
 | _ => ⟨[], []⟩
abbrev Wo (k : Nat) : Env := Bc (Az [Xad k, Xj9 k]) X0d .own [] k
abbrev Xbo : List PA := [.one (.sl .ro Ax)]
abbrev F210_O : RO := ⟨[.v], [mB]⟩
noncomputable def Xw4 {β : Type} (k : Nat) (v : Ad) (K : KT β) : Ex → St → Option β := Br (Wo k) Tryz.f210 (PsT.put Xbo (v, ())) K
def Xrx (v : Ad) (x7_0 : Int) : St := ⟨(.one (.s .ro Ax v)) :: dz 4 ((.one (.s .ro Ax v)) :: (.one (vI (v.length : Int))) :: (.one (vI x7_0)) :: dz 18 []), []⟩
noncomputable def Mt {β : Type} (k : Nat) (v : Ad) (K : KT β) (n : Nat) (x7_0 : Int) : Option β := A3 (Wo k) Tryz.f210 [1, 0, 1, 0] 0 (Ai (Wo k) [1, 0, 1, 0] (Al Tryz.f210) 0 (Xw4 k v K)) n (Xrx v x7_0)
def Gc {β : Type} (NX : Int → Option β) (RET : Bool → Option β) (k : Nat) (v : Ad) (x7_0 : Int) : Option β := cond (decide (x7_0 < (v.length : Int))) (A1 x7_0 v ((Xbe k (Ap v x7_0)).bind fun b1 => cond (!b1) (RET false) (cond (decide (0 ≤ x7_0) && decide (x7_0 ≤ (v.length : Int))) ((Xg5 k (v.take x7_0.toNat) (Ap v x7_0)).bind fun b2 => cond b2.1 (RET false) (NX (i64.wrap (x7_0 + 1)))) none))) (RET (decide ((v.length : Int) ≤ 3)))
def Gw (k : Nat) (v : Ad) : Nat → Int → Option (Bool)
 | 0, _ => none
 | n + 1, x7_0 => Gc (Gw k v n) some k v x7_0
theorem Xdv {β : Type} (k : Nat) (v : Ad) (K : KT β) (n : Nat) : ∀ (x7_0 : Int), Mt k v K n x7_0 =
  (Gw k v n x7_0).bind fun r => K (F210_O.put r) := by
 induction n with
 | zero => intros; rfl
 | succ n ih =>
  intro x7_0
  refine Eq.trans (b := Gc (Mt k v K n) (fun r => K (F210_O.put r)) k v x7_0) (by kernel_rfl) ?_
  rw [Gw]
  simp only [Gc, z1, z2, z3, z4, z5, z6, z7, z8, ih]
def Ro {β : Type} (LP0 : Int → Option β) (k : Nat) (v : Ad) : Option β := LP0 0
def X6 (k : Nat) (v : Ad) : Option (Bool) := Ro (Gw k v k) k v
theorem Xrl {β : Type} (k : Nat) (v : Ad) (K : KT β) : Ag (Wo k) Tryz.f210 (PsT.put Xbo (v, ())) K = (X6 k v).bind fun r => K (F210_O.put r) :=
 Eq.trans (b := Ro (Mt k v K k) k v) (by kernel_rfl) (by simp only [X6, Ro, z1, z2, z3, z4, z5, z6, z7, z8, Xdv])
def Xjq (k : Nat) : FD := ⟨210, Xbo, F210_O, X6 k⟩
theorem Xx9 (k : Nat) : (Xjq k).Ok Tryz.prog := ⟨fun x => Ab (Am (Aj (.c (Xmt k) (.c (Xzk k) .n))) _ _ _ _) Ah Tryz.func210 rfl rfl (Xrl k _ some), .of (by kernel_rfl)⟩
abbrev X0x (k : Nat) : Env := Bc (Az [Xcm k]) An .own [] k
abbrev Xki : List PA := [.agg (.pair (.sl .ro Ac) mI)]
abbrev F270_O : RO := ⟨[.a], [.pair (.sl .own Ac) mI]⟩
def Rr (k : Nat) (v : (den Ax)) : Option ((den Ax)) := (Pc k v.1).bind fun b1 => some (b1, v.2)
theorem Xpr {β : Type} (k : Nat) (v : (den Ax)) (K : KT β) : Ag (X0x k) Tryz.f270 (PsT.put Xki (v, ())) K = (Rr k v).bind fun r => K (F270_O.put r) :=
 Eq.trans (b := (Pc k v.1).bind fun b1 => K (F270_O.put (b1, v.2))) (by kernel_rfl) (by simp only [Rr, z1, z2, z3, z4, z5, z6, z7, z8, Bb])
def Xbl (k : Nat) : FD := ⟨270, Xki, F270_O, Rr k⟩
theorem Xip (k : Nat) : (Xbl k).Ok Tryz.prog := ⟨fun x => Ab (Am (Aj (.c (Xky k) .n)) _ _ _ _) Ah Tryz.func270 rfl rfl (Xpr k _ some), .of (by kernel_rfl)⟩
abbrev X1q (k : Nat) : Env := Bc Bv An .own [] k
abbrev Xl2 : List PA := [.one (.sl .own Ax)]
abbrev F271_O : RO := ⟨[.v], [.sl .own Ax]⟩
def Xao {β : Type} (RET : Ad → Option β) (k : Nat) (v : Ad) : Option β := cond (decide (0 ≤ (v.length : Int)) && decide ((v.length : Int) ≤ (v.length : Int))) (cond (decide ((v.length : Int) = (v.length : Int))) (RET ((v.take ((v.length : Int).toNat)).drop 0)) none) none
def Xr1 := Xao (β := Ad) some
theorem Xpn {β : Type} (k : Nat) (v : Ad) (K : KT β) : Ag (X1q k) Tryz.f271 (PsT.put Xl2 (v, ())) K = (Xr1 k v).bind fun r => K (F271_O.put r) :=
 Eq.trans (b := Xao (fun r => K (F271_O.put r)) k v) (by kernel_rfl) (by simp only [Xr1, Xao, z1, z2, z3, z4, z5, z6, z7, z8])
def Xlb (k : Nat) : FD := ⟨271, Xl2, F271_O, Xr1 k⟩
theorem Xys (k : Nat) : (Xlb k).Ok Tryz.prog := ⟨fun x => Ab (Am .none _ _ _ _) Ah Tryz.func271 rfl rfl (Xpn k _ some), .of (by kernel_rfl)⟩
end
end Go.Proofs.YtdmepjjepogddaaGreat.Gn
end
