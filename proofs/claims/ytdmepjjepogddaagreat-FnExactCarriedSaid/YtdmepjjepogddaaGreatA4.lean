/-
  What the proof of this row needs, part 4: the typed evaluator of the translated code, the functions that the law reaches as plain functions, and what they answer.
-/
import Derived.RangeFuncBox
import Derived.RangeFuncLeaves
import Derived.Shelf.Abstract
import Derived.WalkKit
import Derived.OwnWalkIn
import Derived.TacticsInMore
import Derived.LoopNIn
import Derived.LoopIn
import Derived.Test.YtdmepjjepogddaaGreatChecked
import Derived.KernelRfl
import Derived.RangeFuncNested
import Derived.Shelf.Spec.SlicesInsertGrow
import Derived.Shelf.RegionOpenPlain
import Derived.Deep.LoopGhost
import Derived.Deep.RegionLaw
import Derived.Lib.Walk
import Derived.Lib.SliceRun
import Derived.Lib.SlicesDelete
import Derived.Test.YtdmepjjepogddaaGreatA3
section
namespace Go.Proofs.YtdmepjjepogddaaGreat.It
open Go.RowKit Go.Shelf Go.Rf
attribute [local go_sem] Oper.semAt_some
set_option linter.unusedVariables false
set_option maxRecDepth 100000 in
set_option maxHeartbeats 2000000 in
theorem mk (w : World) (a : Option Addr) (len cap : Nat) (n : Int) (hn : 1 ≤ n) : CallsIn Fence.wide 1 Tryz.prog 164 #[.slice a len cap, .int .i64 n] w fun e w' =>
  e = .returned (.func (.func 229) #[] #[.pointer (some ⟨w.heap.size, 0, none⟩), .pointer (some ⟨w.heap.size + 1, 0, none⟩)]) ∧ w' = (w.alloc (.cells #[.slice a len cap] 23)).alloc (.cells #[.int .i64 n] 3) := by
 have hlt : (decide (n < 1)) = false := decide_eq_false (by omega)
 refine callsIn_of_wp Tryz.func164 rfl trivial ?_ rfl
 simp only [Tryz.ntmps164, List.size_toArray, List.length_cons, List.length_nil, Nat.reduceAdd, Nat.reduceSub, Array.replicate_succ, Array.replicate_zero, List.push_toArray, List.append_toArray, List.nil_append, List.cons_append]
 gi_wp2
 go_ret
 exact ⟨rfl, rfl⟩
set_option maxRecDepth 100000 in
set_option maxHeartbeats 4000000 in
theorem it (lp N : Nat) (a : Option Addr) (len cap b1 b2 : Nat) (J : Nat → World → Prop) (W : World) (hN : 1 ≤ N) (hl : len ≤ 140737488355328) (hN2 : (N : Int) ≤ 9223372036854775807) (hc : len ≤ cap) (ha : a = none → len = 0)
    (hJ : ∀ j W, J j W → W.cell? ⟨b1, 0, none⟩ = some (.slice a len cap) ∧ W.cell? ⟨b2, 0, none⟩ = some (.int .i64 (N : Int))) (hd : ∀ j W, J j W → J j { W with drawn := W.drawn + 1 })
    (hY : ∀ j W, j * N < len → J j W → YieldAt Fence.wide 0 Tryz.prog lp #[.slice (a.map (·.add (j * N * 1))) (min N (len - j * N)) (min N (len - j * N))] W fun e W' => e = .returned (.bool true) ∧ J (j + 1) W') (h0 : J 0 W) :
    CallsIn Fence.wide 1 Tryz.prog 229 #[.func (.yield lp) #[] #[], .pointer (some ⟨b1, 0, none⟩), .pointer (some ⟨b2, 0, none⟩)] W fun e W' => (∃ v, e = .returned v) ∧ J ((len + N - 1) / N) W' := by
  refine callsIn_of_wp Tryz.func229 rfl trivial ?_ rfl
  simp only [Tryz.ntmps229, List.size_toArray, List.length_cons, List.length_nil, Nat.reduceAdd, Nat.reduceSub, Array.replicate_succ, Array.replicate_zero, List.push_toArray, List.append_toArray, List.nil_append, List.cons_append]
  gi_wp2
  gi_loopw [4] (fun i wr => ∃ k : Nat, i = .int .i64 ((k * N : Nat) : Int) ∧ (k = 0 ∨ (k - 1) * N < len) ∧ J k wr) (fun i _ => len + N - (intOf i).toNat)
  case atStart => exact ⟨0, by simp, .inl rfl, h0⟩
  case round =>
    obtain ⟨k, rfl, hk, hJs⟩ := hrel
    obtain ⟨hc1, hc2⟩ := hJ k wr hJs
    by_cases hlt : k * N < len
    · obtain ⟨⟨ab, ao, asp⟩, rfl⟩ : ∃ ad, a = some ad := by
        cases a with
        | none => exact absurd (ha rfl) (by omega)
        | some ad => exact ⟨ad, rfl⟩
      have hkn : ((k : Int) * (N : Int)) < (len : Int) := by exact_mod_cast hlt
      have hkc : ((k : Int) * (N : Int)) ≤ (cap : Int) := by omega
      have hk0 : (0 : Int) ≤ (k : Int) * (N : Int) := by exact_mod_cast Nat.zero_le (k * N)
      gi_wp2
      gi_region
      have hm : (if len - k * N < N then ((len - k * N : Nat) : Int) else ((N : Nat) : Int)) = ((min N (len - k * N) : Nat) : Int) := by split <;> omega
      first | rw [hm] | rw [show min (N : Int) ((len - k * N : Nat) : Int) = ((min N (len - k * N) : Nat) : Int) by omega]
      obtain ⟨hc3, hc4⟩ := hJ k wr.drew (hd k wr hJs)
      obtain ⟨fn, tmps, assign, body, hy, hR⟩ := hY k wr.drew hlt (hd k wr hJs)
      simp only [Option.map_some, Nat.mul_one] at hy
      have he1 : 1 ≤ min N (len - k * N) := by omega
      have he2 : k * N + min N (len - k * N) ≤ len := by omega
      have he3 : min N (len - k * N) ≤ N := by omega
      generalize min N (len - k * N) = e at *
      have he4 : ((k : Int) * (N : Int)) + (e : Int) ≤ (cap : Int) := by have : ((k * N + e : Nat) : Int) ≤ (len : Int) := by exact_mod_cast he2
                                                                         push_cast at this; omega
      gi_wp2
      refine hR.mono ?_
      rintro e' W3 ⟨rfl, hJ3⟩
      obtain ⟨hc5, hc6⟩ := hJ (k + 1) W3 hJ3
      have hk2 : k = 0 ∨ ((k : Int) * (N : Int)) + (N : Int) ≤ 9223372036854775807 := by
        rcases Nat.eq_zero_or_pos k with h | h
        · exact .inl h
        · right
          have : N ≤ k * N := Nat.le_mul_of_pos_left N h
          have : ((k * N : Nat) : Int) + (N : Int) ≤ 9223372036854775807 := by omega
          push_cast at this
          exact this
      have hk3 : ((k : Int) * (N : Int)) + (N : Int) ≤ 9223372036854775807 := by
        rcases hk2 with rfl | h
        · simpa using hN2
        · exact h
      gi_wp2
      go_roundw
      case rel =>
        refine ⟨k + 1, ?_, .inr (by simpa using hlt), hJ3⟩
        congr 1
        rw [Nat.add_mul]
        push_cast
        omega
      case measure =>
        simp [RowKit.intOf]
        have e1 : ((k : Int) * (N : Int)) = ((k * N : Nat) : Int) := by push_cast; rfl
        rw [e1]
        generalize k * N = q at *
        omega
    · have hkn : ¬ ((k : Int) * (N : Int)) < (len : Int) := by exact_mod_cast hlt
      gi_wp2
      go_end0
      refine ⟨⟨_, rfl⟩, ?_⟩
      have : (len + N - 1) / N = k := by
        rcases hk with rfl | hk
        · have : len = 0 := by omega
          subst this
          rw [Nat.zero_add]
          exact Nat.div_eq_of_lt (by omega)
        · have h1 : 1 ≤ k := by
            rcases Nat.eq_zero_or_pos k with rfl | h
            · simp at hk hlt; omega
            · exact h
          obtain ⟨m, rfl⟩ : ∃ m, k = m + 1 := ⟨k - 1, by omega⟩
          rw [Nat.add_sub_cancel] at hk
          have h2 : (m + 1) * N = m * N + N := Nat.succ_mul m N
          rw [h2] at hlt
          refine Nat.div_eq_of_lt_le ?_ ?_
          · rw [h2]; omega
          · rw [Nat.succ_mul, h2]; omega
      rw [this]
      exact hJs
theorem mkOk : ItMk Tryz.prog 164 229 := ⟨FnOk.of (by kernel_rfl), fun w a len cap n hn => Calls.mono (callsIn_wide.1 (mk w a len cap n hn)) fun e w' ⟨h1, h2⟩ => by
 subst h2
 have hs : ((w.alloc (.cells #[.slice a len cap] 23)).alloc (.cells #[.int .i64 n] 3)).heap.size = w.heap.size + 2 := by simp
 have c1 : (w.alloc (.cells #[.slice a len cap] 23)).heap[w.heap.size]? = some (.cells #[.slice a len cap] 23) := World.alloc_heap_new w _
 have c2 : ((w.alloc (.cells #[.slice a len cap] 23)).alloc (.cells #[.int .i64 n] 3)).heap[w.heap.size + 1]? = some (.cells #[.int .i64 n] 3) := by
  have := World.alloc_heap_new (w.alloc (.cells #[.slice a len cap] 23)) (.cells #[.int .i64 n] 3); rwa [World.size_alloc] at this
 have c3 : ((w.alloc (.cells #[.slice a len cap] 23)).alloc (.cells #[.int .i64 n] 3)).heap[w.heap.size]? = some (.cells #[.slice a len cap] 23) := (Below.heap_alloc _ _ _ (by simp)).trans c1
 refine ⟨w.heap.size, w.heap.size + 1, h1, ⟨by omega, by omega⟩, ⟨by omega, by omega⟩, by simp only [cellAt, World.cell?]; rw [c3]; rfl, by simp only [cellAt, World.cell?]; rw [c2]; rfl, fun q hq => (Below.heap_alloc _ _ _ (by simp; omega)).trans (Below.heap_alloc _ _ _ hq), by omega, ⟨rfl, rfl, rfl⟩⟩⟩
theorem itOk : ItOk Tryz.prog 229 (.int .u8) := ⟨FnOk.of (by kernel_rfl), fun lp n a len cap b1 b2 J W hn hl hc ha hJ hd hY h0 => by
 obtain ⟨N, rfl⟩ := Int.eq_ofNat_of_zero_le (show 0 ≤ n by have := hn.1; omega)
 exact it lp N a len cap b1 b2 J W (by have := hn.1; omega) hl hn.2 hc ha hJ hd hY h0⟩
end Go.Proofs.YtdmepjjepogddaaGreat.It
end

section
set_option linter.unusedVariables false
set_option linter.unusedSimpArgs false
namespace Go.Proofs.YtdmepjjepogddaaGreat.Gr
open Go.Rf IntKind
noncomputable section
abbrev B4 : Ty := (.pair (.int .i64) (.pair (.int .i64) (.pair (.int .i64) (.int .i64))))
abbrev m_1 : MT := .pair mI (.pair mI (.pair mI mI))
abbrev Gf {β : Type} (e : (den B4)) (f : Int → Int → Int → Int → β) : β := f e.1 e.2.1 e.2.2.1 e.2.2.2
def tyT : List (Nat × TyI) := [(3, ⟨(.int .i64), false, 0⟩), (4, ⟨.bool, false, 0⟩), (114, ⟨B4, true, 0⟩)]
def Xdm : Xgx := [(114, [(0, 1, false), (1, 1, false), (2, 1, false), (3, 1, false)])]
def eqT : List Nat := []
def Ba (tab : Tab) (hint : Nat → Hint) (rm : Rf.Mode) (pins : List (Bool × Nat)) (k : Nat) : Env :=
 { tab := tab, lend := (fun _ => []), lent := (fun _ => []), pins := pins, ty := asc tyT, fld := Lm Xdm, pw := fun _ => none, cw := fun _ => [], hint := hint, eqt := B6 eqT, rm := rm, fuel := k }
theorem tyOk : AllT (TyOk Tryz.prog) tyT :=
 ⟨.ofInt (b := 8) (by kernel_rfl) (by kernel_rfl), .ofBool (b := 1) (by kernel_rfl) (by kernel_rfl), .ofAgg (b := 32) (by kernel_rfl) (by kernel_rfl), trivial⟩
theorem fldOk : AllF Tryz.prog Xdm :=
 ⟨⟨⟨by kernel_rfl, by kernel_rfl⟩, ⟨by kernel_rfl, by kernel_rfl⟩, ⟨by kernel_rfl, by kernel_rfl⟩, ⟨by kernel_rfl, by kernel_rfl⟩, trivial⟩, trivial⟩
theorem Ah : Tryz.prog.follows .mixedOrders = true := by kernel_rfl
theorem bldOk : AllT (fun t i => i.agg = true → BldOk Tryz.prog t (Lm Xdm t)) tyT :=
 ⟨nofun, nofun, fun _ => Ez (row := [(0, 1, false), (1, 1, false), (2, 1, false), (3, 1, false)]) rfl (by kernel_rfl) (by kernel_rfl), trivial⟩
theorem eqOkT : AllT (fun t i => B6 eqT t = true → EqOk Tryz.prog t i.ty) tyT :=
 ⟨fun h => absurd h (by decide), fun h => absurd h (by decide), fun h => absurd h (by decide), trivial⟩
theorem Xl4 (tab : Tab) (hint : Nat → Hint) (rm : Rf.Mode) (pins : List (Bool × Nat)) (k : Nat) : TysOk Tryz.prog (Ba tab hint rm pins k) :=
 ⟨fun t i h => tyOk.get h, fun s f z h => fldOk.get h, fun t i h => bldOk.get h, fun t i h h2 => eqOkT.get h2 h, fun _ h => by cases h⟩
theorem Aj {tab : Tab} (h : TabFn Tryz.prog tab) (hint : Nat → Hint) (rm : Rf.Mode) (pins : List (Bool × Nat)) (k : Nat) : EnvOk Tryz.prog (Ba tab hint rm pins k) := EnvOk.of (Xl4 tab hint rm pins k) h
def Bl : Tab := fun _ _ => none
def Ap : Nat → Hint := fun _ => ⟨[], []⟩
abbrev X0e (k : Nat) : Env := Ba Bl Ap .own [] k
abbrev Xpc : List PA := [.agg m_1, .one mI]
abbrev F146_O : RO := ⟨[.v], [mB]⟩
def Wh {β : Type} (RET : Bool → Option β) (k : Nat) (v : (den B4)) (w : Int) : Option β := Gf v fun v0 v1 _ _ => cond (decide ((i64.wrap (16 - v1)) < 0)) none (cond (decide ((i64.wrap (16 - v1)) < 0)) none (RET ((w.fdiv (2 ^ (min (i64.wrap (16 - v1)).toNat 64))) == (v0.fdiv (2 ^ (min (i64.wrap (16 - v1)).toNat 64))))))
def Xho := Wh (β := Bool) some
theorem Xqr {β : Type} (k : Nat) (v : (den B4)) (w : Int) (K : KT β) : Ag (X0e k) Tryz.f146 (PsT.put Xpc (v, w, ())) K = (Xho k v w).bind fun r => K (F146_O.put r) :=
 Eq.trans (b := Wh (fun r => K (F146_O.put r)) k v w) (by kernel_rfl) (by simp only [Xho, Wh, z1, z2, z3, z4, z5, z6, z7, z8, Gf])
def X23 (k : Nat) : FD := ⟨146, Xpc, F146_O, Xho k⟩
theorem X24 (k : Nat) : (X23 k).Ok Tryz.prog := ⟨fun x => Aa (Aj .none _ _ _ _) Ah Tryz.func146 rfl rfl (Xqr k _ _ some), .of (by kernel_rfl)⟩
end
end Go.Proofs.YtdmepjjepogddaaGreat.Gr
end

section
namespace Go.Proofs.YtdmepjjepogddaaGreat.Rt
open Go.RowKit Go.Shelf Go.Rf
attribute [local go_sem] Oper.semAt_some
set_option linter.unusedVariables false
abbrev E : Ty := .pair (.int .i64) (.pair (.int .i64) (.pair (.int .i64) (.int .i64)))
def okB (r : den E) : Bool := decide (0 ≤ (r.2.1 : Int)) && decide ((r.2.1 : Int) ≤ 16)
def Sw (w : Int) (r : den E) : Bool := w.fdiv (2 ^ (16 - r.2.1 : Int).toNat) == (r.1 : Int).fdiv (2 ^ (16 - r.2.1 : Int).toNat)
def B5 (w p : Int) : List (den E) → den E × Bool
 | [] => ((0, 0, 0, 0), false)
 | r :: l => cond (decide ((r.2.1 : Int) < p) && Sw w r) (r, true) (B5 w p l)
def to (v : List (den E)) (w p : Int) : Option (den E × Bool) := cond (v.all okB && decide (v.length ≤ 1000000)) (some (B5 w p v.reverse)) none
set_option maxRecDepth 100000 in
set_option maxHeartbeats 1000000 in
theorem mk (F : Fence) (n : Nat) (hF : F.fn 145) (hro : F.round = none) (w : World) (a : Option Addr) (len cap : Nat) : CallsIn F n Tryz.prog 145 #[.slice a len cap] w fun e w' =>
  e = .returned (.func (.func 223) #[] #[.pointer (some ⟨w.heap.size, 0, none⟩)]) ∧ w' = w.alloc (.cells #[.slice a len cap] 50) := by
 refine callsIn_of_wp Tryz.func145 rfl hF ?_ hro
 simp only [Tryz.ntmps145, List.size_toArray, List.length_cons, List.length_nil, Nat.reduceAdd, Nat.reduceSub, Array.replicate_succ, Array.replicate_zero, List.push_toArray, List.append_toArray, List.nil_append, List.cons_append]
 gi_wp2
 go_ret
 exact ⟨rfl, rfl⟩
def rv (r : den E) : Value := .agg #[.int .i64 r.1, .int .i64 r.2.1, .int .i64 r.2.2.1, .int .i64 r.2.2.2]
def zr : den E := (0, 0, 0, 0)
def Lz {α : Type} (f : Nat → α) (k : Nat) : List α := (List.range k).map f
theorem Tk {α : Type} (f : Nat → α) (k : Nat) : Lz f (k + 1) = Lz f k ++ [f k] := by simp [Lz, List.range_succ]
theorem Y1 {α : Type} (f : Nat → α) (k : Nat) : (Lz f k).length = k := by simp [Lz]
def bk (zs : List (den E)) (j : Nat) : Nat × den E := (zs.length - 1 - j, zs[zs.length - 1 - j]?.getD zr)
abbrev RT : Type := { x : Nat × den E // okB x.2 = true }
theorem X30 {zs : List (den E)} (h : zs.all okB = true) (j : Nat) : okB (bk zs j).2 = true := by
 unfold bk
 by_cases hj : zs.length - 1 - j < zs.length
 ·rw [List.getElem?_eq_getElem hj, Option.getD_some]
  exact List.all_eq_true.1 h _ (List.getElem_mem hj)
 ·rw [List.getElem?_eq_none (by omega)]; rfl
def bks (zs : List (den E)) (h : zs.all okB = true) (j : Nat) : RT := ⟨bk zs j, X30 h j⟩
set_option maxRecDepth 100000 in
set_option maxHeartbeats 2000000 in
theorem X4v (F : Fence) (n : Nat) (hF : F.fn 223) (hro : F.round = none) (hn : 1 ≤ n) (l Bs n₀ b off cap : Nat) (zs : List (den E)) (hz : zs.all okB = true) (hreach : zs.length ≤ 1000000) (hcap : zs.length ≤ cap) (hb : b < n₀) (J Jx : List RT → World → Prop)
  (hY : ∀ pre x W, J pre W → pre.length < zs.length → YieldAt F (n - 1) Tryz.prog l #[.int .i64 (x.1.1 : Int), rv x.1.2] W fun e W' =>
   (e = .returned (.bool true) ∧ J (pre ++ [x]) W' ∧ (Below n₀ W W' ∧ W'.cell? ⟨Bs, 0, none⟩ = W.cell? ⟨Bs, 0, none⟩)) ∨ (e = .returned (.bool false) ∧ Jx (pre ++ [x]) W'))
  (W : World) (hBs : W.cell? ⟨Bs, 0, none⟩ = some (.slice (some ⟨b, off, none⟩) zs.length cap))
  (hc : ∀ i, i < zs.length → W.cell? ⟨b, off + i * 4, none⟩ = some (.int .i64 (zs[i]?.getD zr).1) ∧ W.cell? ⟨b, off + i * 4 + 1, none⟩ = some (.int .i64 (zs[i]?.getD zr).2.1) ∧ W.cell? ⟨b, off + i * 4 + 2, none⟩ = some (.int .i64 (zs[i]?.getD zr).2.2.1) ∧ W.cell? ⟨b, off + i * 4 + 3, none⟩ = some (.int .i64 (zs[i]?.getD zr).2.2.2)) (h0 : J [] W) :
  CallsIn F n Tryz.prog 223 #[.func (.yield l) #[] #[], .pointer (some ⟨Bs, 0, none⟩)] W fun e W' => (∃ v, e = .returned v) ∧
   ((∃ ys, ys = Lz (bks zs hz) zs.length ∧ J ys W') ∨ (∃ pre, (∃ k, k ≤ zs.length ∧ pre = Lz (bks zs hz) k) ∧ Jx pre W')) := by
 refine callsIn_of_wp Tryz.func223 rfl hF ?_ hro
 simp only [Tryz.ntmps223, List.size_toArray, List.length_cons, List.length_nil, Nat.reduceAdd, Nat.reduceSub, Array.replicate_succ, Array.replicate_zero, List.push_toArray, List.append_toArray, List.nil_append, List.cons_append]
 gi_wp2
 gi_loopw [3] (fun i wr => ∃ k : Nat, k ≤ zs.length ∧ i = .int .i64 ((zs.length : Int) - 1 - k) ∧ J (Lz (bks zs hz) k) wr ∧ (Below n₀ W wr ∧ wr.cell? ⟨Bs, 0, none⟩ = W.cell? ⟨Bs, 0, none⟩))
  (fun i _ => (RowKit.intOf i + 1).toNat)
 case atStart => exact ⟨0, Nat.zero_le _, by simp, h0, Below.refl _ _, rfl⟩
 case round =>
  obtain ⟨k, hk, rfl, hJs, hnx, hbs⟩ := hrel
  rw [hBs] at hbs
  by_cases hlt : k < zs.length
  ·obtain ⟨fn, tmps, assign, body, hy, hR⟩ := hY _ (bks zs hz k) wr hJs (by rw [Y1]; exact hlt)
   obtain ⟨c0, c1, c2, c3⟩ := hc (zs.length - 1 - k) (by omega)
   have d0 := (hnx.cell (p := ⟨b, off + (zs.length - 1 - k) * 4, none⟩) hb).trans c0
   have d1 := (hnx.cell (p := ⟨b, off + (zs.length - 1 - k) * 4 + 1, none⟩) hb).trans c1
   have d2 := (hnx.cell (p := ⟨b, off + (zs.length - 1 - k) * 4 + 2, none⟩) hb).trans c2
   have d3 := (hnx.cell (p := ⟨b, off + (zs.length - 1 - k) * 4 + 3, none⟩) hb).trans c3
   have e1 : ((zs.length : Int) - 1 - (k : Int)) = ((zs.length - 1 - k : Nat) : Int) := by omega
   rw [e1]
   simp only [bks, bk] at hy
   have hj : zs.length - 1 - k < zs.length := by omega
   generalize hjj : zs.length - 1 - k = j at *
   simp only [rv, List.getElem?_eq_getElem hj, Option.getD_some] at hy
   gi_wp2
   refine hR.mono ?_
   rintro e W3 (⟨rfl, hJ3, hk3, hk4⟩ | ⟨rfl, hJx3⟩)
   ·gi_wp2
    go_roundw
    case rel => exact ⟨k + 1, by omega, by congr 1; omega, by rw [Tk]; exact hJ3, hnx.trans hk3, by rw [hk4, hbs, hBs]⟩
    case measure => simp [RowKit.intOf]
   ·gi_wp2
    refine bodyPost_ret (results_none rfl _ _ _) rfl ?_
    exact ⟨⟨_, rfl⟩, .inr ⟨_, ⟨k + 1, by omega, (Tk _ _).symm⟩, hJx3⟩⟩
  ·obtain rfl : k = zs.length := by omega
   gi_wp2
   go_end0
   exact ⟨⟨_, rfl⟩, .inl ⟨_, rfl, hJs⟩⟩
set_option maxRecDepth 100000 in
set_option maxHeartbeats 1000000 in
theorem X54 (F : Fence) (n : Nat) (hF : F.fn 223) (hro : F.round = none) (l Bs cap : Nat) (ad : Option Addr) (J : List RT → World → Prop) (W : World) (hBs : W.cell? ⟨Bs, 0, none⟩ = some (.slice ad 0 cap)) (h0 : J [] W) :
  CallsIn F n Tryz.prog 223 #[.func (.yield l) #[] #[], .pointer (some ⟨Bs, 0, none⟩)] W fun e W' => (∃ v, e = .returned v) ∧ J [] W' := by
 refine callsIn_of_wp Tryz.func223 rfl hF ?_ hro
 simp only [Tryz.ntmps223, List.size_toArray, List.length_cons, List.length_nil, Nat.reduceAdd, Nat.reduceSub, Array.replicate_succ, Array.replicate_zero, List.push_toArray, List.append_toArray, List.nil_append, List.cons_append]
 gi_wp2
 gi_loopw [3] (fun i wr => i = .int .i64 (-1) ∧ J [] wr) (fun _ _ => 0)
 case atStart => exact ⟨rfl, h0⟩
 case round =>
  obtain ⟨rfl, hJs⟩ := hrel
  gi_wp2
  go_end0
  exact ⟨⟨_, rfl⟩, hJs⟩
def Rts (n₀ : Nat) (W : World) (sv : Value) (zs : List (den E)) : Prop :=
 (∃ ad c, sv = .slice ad 0 c ∧ zs = []) ∨ ∃ b off cap, sv = .slice (some ⟨b, off, none⟩) zs.length cap ∧ zs.length ≤ cap ∧ b < n₀ ∧
  ∀ i, i < zs.length → W.cell? ⟨b, off + i * 4, none⟩ = some (.int .i64 (zs[i]?.getD zr).1) ∧ W.cell? ⟨b, off + i * 4 + 1, none⟩ = some (.int .i64 (zs[i]?.getD zr).2.1) ∧ W.cell? ⟨b, off + i * 4 + 2, none⟩ = some (.int .i64 (zs[i]?.getD zr).2.2.1) ∧ W.cell? ⟨b, off + i * 4 + 3, none⟩ = some (.int .i64 (zs[i]?.getD zr).2.2.2)
theorem Rts.below {n₀ : Nat} {A B : World} (h : Below n₀ A B) {sv : Value} {zs : List (den E)} : Rts n₀ A sv zs → Rts n₀ B sv zs
 | .inl e => .inl e
 | .inr ⟨b, off, cap, e, hl, hb, hc⟩ => .inr ⟨b, off, cap, e, hl, hb, fun i hi => by
  obtain ⟨c0, c1, c2, c3⟩ := hc i hi
  exact ⟨(h.cell (p := ⟨b, _, none⟩) hb).trans c0, (h.cell (p := ⟨b, _, none⟩) hb).trans c1, (h.cell (p := ⟨b, _, none⟩) hb).trans c2, (h.cell (p := ⟨b, _, none⟩) hb).trans c3⟩⟩
def KP (n₀ Bs : Nat) (A B : World) : Prop := Below n₀ A B ∧ B.cell? ⟨Bs, 0, none⟩ = A.cell? ⟨Bs, 0, none⟩
theorem KP.t {n₀ Bs : Nat} {A B C : World} (h : KP n₀ Bs A B) (k : KP n₀ Bs B C) : KP n₀ Bs A C := ⟨h.1.trans k.1, k.2.trans h.2⟩
theorem Xlz {W : World} {l q : Nat} {o' : Obj} (h : q ≠ l) : (W.putObj l o').cell? ⟨q, 0, none⟩ = W.cell? ⟨q, 0, none⟩ := by
 simp only [World.cell?, World.putObj_heap_other h]
theorem KP.b {n₀ Bs : Nat} {w : World} (hn : n₀ ≤ w.heap.size) (hB : Bs < w.heap.size) (W : World) (l : Nat) (o o' : Obj) (hl : w.heap.size ≤ l) (h : W.heap[l]? = some o) (h1 : o.isCells = false) (h2 : o.isWalk = false) : KP n₀ Bs W (W.putObj l o') :=
 ⟨belowK_b hn W l o o' hl h h1 h2, Xlz (by omega)⟩
theorem stops (F : Fence) (n : Nat) (hF : F.fn 223) (hro : F.round = none) (hn : 1 ≤ n) (Bs n₀ : Nat) (sv : Value) (zs : List (den E)) (hz : zs.all okB = true) (hreach : zs.length ≤ 1000000) (w : World) (hBs : Bs < w.heap.size) (hn₀ : n₀ ≤ w.heap.size)
  (hc : w.cell? ⟨Bs, 0, none⟩ = some sv) (hI : Rts n₀ w sv zs) :
  SeqStopsK F n Tryz.prog 223 #[.pointer (some ⟨Bs, 0, none⟩)] (fun x : RT => #[Value.int .i64 (x.1.1 : Int), rv x.1.2]) (KP n₀ Bs) (fun ys => ys = Lz (bks zs hz) zs.length)
   (fun pre => ∃ k, k ≤ zs.length ∧ pre = Lz (bks zs hz) k) zs.length w := fun l J Jx W hW _ _ hY h0 => by
 have hc' := (hW.cell (p := ⟨Bs, 0, none⟩) hBs).trans hc
 rcases hI.below (hW.mono hn₀) with ⟨ad, c, rfl, rfl⟩ | ⟨b, off, cap, rfl, hl, hb, hcs⟩
 ·exact (X54 F n hF hro l Bs c ad J W hc' h0).mono fun e W' ⟨he, hj⟩ => ⟨he, .inl ⟨_, rfl, hj⟩⟩
 ·exact X4v F n hF hro hn l Bs n₀ b off cap zs hz hreach hl hb J Jx hY W hc' hcs h0
theorem c146 (r : den E) (w : Int) : Contract Tryz.prog 146 [.agg [.l (.v (.int .i64 r.1)), .l (.v (.int .i64 r.2.1)), .l (.v (.int .i64 r.2.2.1)), .l (.v (.int .i64 r.2.2.2))], .one (.l (.v (.int .i64 w)))] ⟨Gr.Xho 0 r w, fun b => (.one (.v (.bool b)), [])⟩ := (Gr.X24 0).con (r, w, ())
theorem Kv (F : Fence) (hF : Fw F) (n : Nat) (r : den E) (w : Int) (hr : okB r = true) (W : World) : CallsIn F n Tryz.prog 146 #[rv r, .int .i64 w] W fun e W' => e = .returned (.bool (Sw w r)) ∧ Below W.heap.size W W' := by
 obtain ⟨r0, r1, r2, r3⟩ := r
 simp only [okB, Bool.and_eq_true, decide_eq_true_eq] at hr
 obtain ⟨q0, q1⟩ := hr
 have q0 : @LE.le Int _ 0 r1 := q0
 have q1 : @LE.le Int _ r1 16 := q1
 have hF146 : Gr.Xho 0 (r0, r1, r2, r3) w = some (Sw w (r0, r1, r2, r3)) := by
  unfold Gr.Xho Gr.Wh Sw
  dsimp only [Gr.Gf]
  have e : IntKind.i64.wrap (16 - r1) = 16 - r1 := by rw [IntKind.wrap_i64]; omega
  rw [e, decide_eq_false (by omega), cond_false, cond_false, Nat.min_eq_left (by omega)]
 have c := c146 (r0, r1, r2, r3) w W (fun _ => False) [rv (r0, r1, r2, r3), .int .i64 w] [[], []]
  ⟨⟨[.int .i64 r0, .int .i64 r1, .int .i64 r2, .int .i64 r3], [[], [], [], []], rfl, ⟨⟨rfl, rfl⟩, ⟨rfl, rfl⟩, ⟨rfl, rfl⟩, ⟨rfl, rfl⟩, trivial⟩, rfl⟩, ⟨rfl, rfl⟩, trivial⟩
  (by simp) (by simp) (fun _ h => h.elim) (List.nodup_nil (α := Nat × Nat)) (fun a ha => by cases ha) (Sw w (r0, r1, r2, r3)) hF146
 have c2 : Calls Tryz.prog 146 #[rv (r0, r1, r2, r3), .int .i64 w] W fun e W' => e = .returned (.bool (Sw w (r0, r1, r2, r3))) ∧ Below W.heap.size W W' := by
  refine Calls.mono c ?_
  rintro e W' ⟨v, rfl, hP⟩
  obtain ⟨S', bs, bbs, h1, _⟩ := hP.ex
  obtain ⟨rfl, _⟩ := (h1 : v = .bool (Sw w (r0, r1, r2, r3)) ∧ bs = [])
  refine ⟨rfl, hP.io.os, hP.io.tape, hP.io.output, hP.sz, fun q hq => ?_⟩
  exact (hP.frm q hq (by simp)).eq fun o ho => by cases ho
 exact hF.calls c2
def Row4 (W : World) (B : Nat) (r : den E) : Prop := W.heap[B]? = some (.cells #[.int .i64 r.1, .int .i64 r.2.1, .int .i64 r.2.2.1, .int .i64 r.2.2.2] 114 (0, 0))
theorem Row4.lt {W : World} {B : Nat} {r : den E} (h : Row4 W B r) : B < W.heap.size := (Array.getElem?_eq_some_iff.1 h).1
theorem Row4.c {W : World} {B : Nat} {r : den E} (h : Row4 W B r) : W.cell? ⟨B, 0, none⟩ = some (.int .i64 r.1) ∧ W.cell? ⟨B, 1, none⟩ = some (.int .i64 r.2.1) ∧ W.cell? ⟨B, 2, none⟩ = some (.int .i64 r.2.2.1) ∧ W.cell? ⟨B, 3, none⟩ = some (.int .i64 r.2.2.2) := by
 unfold Row4 at h
 simp [World.cell?, h]
theorem Row4.f {W : World} {B : Nat} {r : den E} (h : Row4 W B r) : W.frozen? ⟨B, 0, none⟩ = false ∧ W.frozen? ⟨B, 1, none⟩ = false ∧ W.frozen? ⟨B, 2, none⟩ = false ∧ W.frozen? ⟨B, 3, none⟩ = false := by
 unfold Row4 at h
 simp [World.frozen?, h]
theorem Tj (w p : Int) : ∀ (l : List (den E)), (∀ r ∈ l, (decide ((r.2.1 : Int) < p) && Sw w r) = false) → B5 w p l = ((0, 0, 0, 0), false)
 | [], _ => rfl
 | r :: l, h => by
  rw [B5, h r List.mem_cons_self, cond_false]
  exact Tj w p l fun x hx => h x (List.mem_cons_of_mem _ hx)
theorem Td (w p : Int) (r : den E) (b : List (den E)) (hr : (decide ((r.2.1 : Int) < p) && Sw w r) = true) : ∀ (a : List (den E)), (∀ r ∈ a, (decide ((r.2.1 : Int) < p) && Sw w r) = false) → B5 w p (a ++ r :: b) = (r, true)
 | [], _ => by rw [List.nil_append, B5, hr]; rfl
 | x :: a, h => by
  rw [List.cons_append, B5, h x List.mem_cons_self, cond_false]
  exact Td w p r b hr a fun y hy => h y (List.mem_cons_of_mem _ hy)
theorem Yv (v : List (den E)) (hz : v.all okB = true) (k : Nat) (hk : k ≤ v.length) : (Lz (bks v hz) k).map (fun x => x.1.2) = v.reverse.take k := by
 apply List.ext_getElem
 ·simp [Lz]; omega
 ·intro i h1 h2
  have hi : i < k := by simpa [Lz] using h1
  simp only [Lz, List.map_map, List.getElem_map, List.getElem_range, Function.comp_apply, bks, bk, List.getElem_take, List.getElem_reverse]
  rw [List.getElem?_eq_getElem (by omega), Option.getD_some]
theorem J1 {W : World} {B : Nat} {cs : Array Value} {te : TypeId} {fr : Nat × Nat} (h : W.heap[B]? = some (.cells cs te fr)) (o : Nat) (v : Value) : (W.setCell ⟨B, o, none⟩ v).heap[B]? = some (.cells (cs.setIfInBounds o v) te fr) := by
 show (W.heap.modify B _)[B]? = _
 rw [Array.getElem?_modify, if_pos rfl, h]
 rfl
theorem Row4.set {W : World} {B : Nat} {r : den E} (h : Row4 W B r) (r' : den E) : Row4 ((((W.setCell ⟨B, 0, none⟩ (.int .i64 r'.1)).setCell ⟨B, 1, none⟩ (.int .i64 r'.2.1)).setCell ⟨B, 2, none⟩ (.int .i64 r'.2.2.1)).setCell ⟨B, 3, none⟩ (.int .i64 r'.2.2.2)) B r' := by
 have := J1 (J1 (J1 (J1 h 0 (.int .i64 r'.1)) 1 (.int .i64 r'.2.1)) 2 (.int .i64 r'.2.2.1)) 3 (.int .i64 r'.2.2.2)
 simpa [Row4] using this
structure Inv (A : Nat) (w p : Int) (W : World) (sv : Value) (X : World) : Prop where
 b0 : Boxed X A 3 (.int .i64 w)
 b1 : Boxed X (A + 1) 3 (.int .i64 p)
 b2 : ∃ r, Row4 X (A + 1 + 1) r
 b3 : ∃ c, Boxed X (A + 1 + 1 + 1) 4 (.bool c)
 b4 : Boxed X (A + 1 + 1 + 1 + 1) 50 sv
 bel : Below A W X
theorem Inv.heap {A : Nat} {w p : Int} {W : World} {sv : Value} {X Y : World} (h : Inv A w p W sv X) (hs : ∀ k, A ≤ k → k < A + 5 → Y.heap[k]? = X.heap[k]?) (hb : Below A W Y) : Inv A w p W sv Y :=
 ⟨(hs _ (by omega) (by omega)).trans h.b0, (hs _ (by omega) (by omega)).trans h.b1, h.b2.imp fun _ h => (hs _ (by omega) (by omega)).trans h, h.b3.imp fun _ h => (hs _ (by omega) (by omega)).trans h, (hs _ (by omega) (by omega)).trans h.b4, hb⟩
theorem Inv.lt {A : Nat} {w p : Int} {W : World} {sv : Value} {X : World} (h : Inv A w p W sv X) : A + 5 ≤ X.heap.size := by have := h.b4.lt; omega
theorem Inv.own {A : Nat} {w p : Int} {W : World} {sv : Value} (hA : A ≤ W.heap.size) {β : Type} (B : Nat) (hB : A + 5 ≤ B) : OwnFrom B (fun (_ : β) X => Inv A w p W sv X) := fun s X Y row hs hg hr =>
 hs.heap (fun k _ hk => hg.block k (by have := hs.lt; omega) (fun e => by have := (hr k e.symm).1; omega)) (hs.bel.grown hg (by have := hs.lt; omega) (fun k e => by have := (hr k e).1; omega))
theorem Inv.alloc {A : Nat} {w p : Int} {W : World} {sv : Value} {X : World} (h : Inv A w p W sv X) (o : Obj) : Inv A w p W sv (X.alloc o) :=
 h.heap (fun k _ hk => Below.heap_alloc _ _ _ (by have := h.lt; omega)) (h.bel.trans ((Below.refl A X).alloc (by have := h.lt; omega) o))
theorem Inv.call {A : Nat} {w p : Int} {W : World} {sv : Value} {X Y : World} (h : Inv A w p W sv X) (hB : Below X.heap.size X Y) : Inv A w p W sv Y :=
 h.heap (fun k _ hk => hB.block k (by have := h.lt; omega)) (h.bel.trans (hB.mono (by have := h.lt; omega)))
set_option maxRecDepth 100000 in
set_option maxHeartbeats 4000000 in
theorem X5w (v : List (den E)) (hv : v.length ≤ 1000000) (hok : v.all okB = true) (sv : Value) (w p : Int) (ad : Option Addr) (cap : Nat) (hsv : sv = .slice ad v.length cap) (W : World) (hI : Rts W.heap.size W sv v) :
  CallsIn Fence.wide 3 Tryz.prog 74 #[sv, .int .i64 w, .int .i64 p] W fun e W' => e = .returned (.tuple #[rv (B5 w p v.reverse).1, .bool (B5 w p v.reverse).2]) ∧ Below W.heap.size W W' := by
 subst hsv
 have h1 : 1 ≤ 3 := by omega
 refine callsIn_of_wp_marks Tryz.func74 rfl trivial ?_ rfl
 simp only [Tryz.ntmps74, List.size_toArray, List.length_cons, List.length_nil, Nat.reduceAdd, Nat.reduceSub, Array.replicate_succ, Array.replicate_zero, List.push_toArray, List.append_toArray, List.nil_append, List.cons_append]
 gi_wp2
 refine ⟨trivial, (mk Fence.wide 2 trivial rfl _ _ _ _).mono ?_⟩
 rintro e w' ⟨rfl, rfl⟩
 dsimp only
 gi_wp2
 have hIw := hI
 obtain ⟨w1, hw1⟩ : ∃ w1, (((((W.alloc (Obj.cells #[Value.int IntKind.i64 w] 3)).alloc (Obj.cells #[Value.int IntKind.i64 p] 3)).alloc (Obj.cells #[Value.int IntKind.i64 0, Value.int IntKind.i64 0, Value.int IntKind.i64 0, Value.int IntKind.i64 0] 114)).alloc (Obj.cells #[Value.bool false] 4)).alloc (Obj.cells #[Value.slice ad v.length cap] 50)) = w1 := ⟨_, rfl⟩
 have b0 := Boxed.new W 3 (.int .i64 w)
 have b1 := Boxed.new (W.alloc (Obj.cells #[Value.int IntKind.i64 w] 3)) 3 (.int .i64 p)
 have b2 : Row4 (((W.alloc (Obj.cells #[Value.int IntKind.i64 w] 3)).alloc (Obj.cells #[Value.int IntKind.i64 p] 3)).alloc (Obj.cells #[Value.int IntKind.i64 0, Value.int IntKind.i64 0, Value.int IntKind.i64 0, Value.int IntKind.i64 0] 114)) _ zr := World.alloc_heap_new _ _
 have b3 := Boxed.new (((W.alloc (Obj.cells #[Value.int IntKind.i64 w] 3)).alloc (Obj.cells #[Value.int IntKind.i64 p] 3)).alloc (Obj.cells #[Value.int IntKind.i64 0, Value.int IntKind.i64 0, Value.int IntKind.i64 0, Value.int IntKind.i64 0] 114)) 4 (.bool false)
 have b4 := Boxed.new ((((W.alloc (Obj.cells #[Value.int IntKind.i64 w] 3)).alloc (Obj.cells #[Value.int IntKind.i64 p] 3)).alloc (Obj.cells #[Value.int IntKind.i64 0, Value.int IntKind.i64 0, Value.int IntKind.i64 0, Value.int IntKind.i64 0] 114)).alloc (Obj.cells #[Value.bool false] 4)) 50 (.slice ad v.length cap)
 simp only [World.size_alloc] at b1 b2 b3 b4
 have hB0 : Below W.heap.size W w1 := by
  rw [← hw1]
  exact ((((((Below.refl _ W).alloc (Nat.le_refl _) _).alloc (by simp) _).alloc (by simp; omega) _).alloc (by simp; omega) _).alloc (by simp; omega) _)
 have hs1 : w1.heap.size = W.heap.size + 5 := by rw [← hw1]; simp
 have c0 := (((b0.alloc (Obj.cells #[Value.int IntKind.i64 p] 3)).alloc (Obj.cells #[Value.int IntKind.i64 0, Value.int IntKind.i64 0, Value.int IntKind.i64 0, Value.int IntKind.i64 0] 114)).alloc (Obj.cells #[Value.bool false] 4)).alloc (Obj.cells #[Value.slice ad v.length cap] 50)
 have c1 := ((b1.alloc (Obj.cells #[Value.int IntKind.i64 0, Value.int IntKind.i64 0, Value.int IntKind.i64 0, Value.int IntKind.i64 0] 114)).alloc (Obj.cells #[Value.bool false] 4)).alloc (Obj.cells #[Value.slice ad v.length cap] 50)
 have c3 := b3.alloc (Obj.cells #[Value.slice ad v.length cap] 50)
 have c2 : Row4 w1 (W.heap.size + 1 + 1) zr := by
  rw [← hw1]
  exact (Below.heap_alloc _ _ _ (by simp)).trans ((Below.heap_alloc _ _ _ (by simp)).trans b2)
 rw [hw1] at c0 c1 c3 b4
 rw [hw1]
 simp only [World.size_alloc]
 clear hw1 b0 b1 b2 b3 hI
 generalize hA : W.heap.size = A at *
 have fin : ∀ {r : den E} {c : Bool} {D : Nat} {Y : World} {t8 t9 t12 t13 t14 t15 t16 t17 t18 t19 t20 t21 t22 t23 t24 : Value}, B5 w p v.reverse = (r, c) → A + 5 ≤ D → Row4 Y (A + 1 + 1) r → Boxed Y (A + 1 + 1 + 1) 4 (.bool c) → Y.heap[D]? = some (.deferred (some [])) → Below W.heap.size W Y →
   bodyPostM Fence.wide 3 Tryz.prog Tryz.f74 (fun e W' => e = .returned (.tuple #[rv (B5 w p v.reverse).1, .bool (B5 w p v.reverse).2]) ∧ Below W.heap.size W W') .ret
    { tmps := #[.slice ad v.length cap, .int .i64 w, .int .i64 p, undef, .pointer (some ⟨A, 0, none⟩), .pointer (some ⟨A + 1, 0, none⟩), .pointer (some ⟨A + 1 + 1, 0, none⟩), .pointer (some ⟨A + 1 + 1 + 1, 0, none⟩), t8, t9, .slice ad v.length cap, .func (.func 223) #[] #[.pointer (some ⟨A + 1 + 1 + 1 + 1, 0, none⟩)], t12, t13, t14, t15, t16, t17, t18, t19, t20, t21, t22, t23, t24], defers := [{ target := .collected D, args := #[] }] } Y := by
  intro r c D Y t8 t9 t12 t13 t14 t15 t16 t17 t18 t19 t20 t21 t22 t23 t24 hf hD h4 h3 hK hb
  rw [hf]
  refine ⟨by simp, .inl ⟨_, _, rfl, run_takeDeferred hK, ?_⟩⟩
  have r4 : Row4 (Y.putObj D (.deferred none)) (A + 1 + 1) r := (World.putObj_heap_other (by omega)).trans h4
  have r3 : Boxed (Y.putObj D (.deferred none)) (A + 1 + 1 + 1) 4 (.bool c) := (World.putObj_heap_other (by omega)).trans h3
  obtain ⟨q0, q1, q2, q3⟩ := r4.c
  have q4 := r3.cell
  refine ⟨.tuple #[rv r, .bool c], ?_, rfl, hb.trans (belowK_b (w := W) (Nat.le_refl _) Y D _ _ (by omega) hK rfl rfl)⟩
  simp [results, Tryz.f74, go_sem, q0, q1, q2, q3, q4, rv]
 refine wpIn_rangeFunc_ownH rfl h1 (gf := 223) (lb := #[.pointer (some ⟨A + 1 + 1 + 1 + 1, 0, none⟩)]) rfl trivial (enters_of Tryz.func223 (by kernel_rfl) rfl)
  (stops Fence.wide 2 trivial rfl (by omega) (A + 1 + 1 + 1 + 1) A (.slice ad v.length cap) v hok hv w1 (by omega) (by omega) b4.cell (hIw.below hB0)) KP.t (KP.b (by omega) (by omega)) (Below.refl _ _) (fun _ => rfl)
  (fun pre X => (∀ x ∈ pre, (decide ((x.1.2.2.1 : Int) < p) && Sw w x.1.2) = false) ∧ Inv A w p W (.slice ad v.length cap) X)
  (fun c pre X => c = .ret ∧ ∃ ini last, pre = ini ++ [last] ∧ (∀ x ∈ ini, (decide ((x.1.2.2.1 : Int) < p) && Sw w x.1.2) = false) ∧ (decide ((last.1.2.2.1 : Int) < p) && Sw w last.1.2) = true ∧ Row4 X (A + 1 + 1) last.1.2 ∧ Boxed X (A + 1 + 1 + 1) 4 (.bool true) ∧ Below A W X)
  ?ownI ?ownX ?h0
  (fun x a' X => ∃ R, A + 5 ≤ R ∧ Row4 X R x.1.2 ∧ a' = { tmps := #[.slice ad v.length cap, .int .i64 w, .int .i64 p, undef, .pointer (some ⟨A, 0, none⟩), .pointer (some ⟨A + 1, 0, none⟩), .pointer (some ⟨A + 1 + 1, 0, none⟩), .pointer (some ⟨A + 1 + 1 + 1, 0, none⟩), undef, .pointer (some ⟨R, 0, none⟩), .slice ad v.length cap, .func (.func 223) #[] #[.pointer (some ⟨A + 1 + 1 + 1 + 1, 0, none⟩)], .int .i64 (x.1.1 : Int), rv x.1.2, undef, undef, undef, undef, undef, undef, undef, undef, undef, undef, undef], defers := [] }) ?ownA ?assign ?body ?done ?stop
 case ownI => exact OwnFrom.and (ownFrom_pure _ _) (Inv.own (by omega) _ (by omega))
 case ownX =>
  intro c s X Y row ⟨h0, ini, last, h1, h2, h3, h4, h5, h6⟩ hg hr
  have l4 := h4.lt
  have l5 := h5.lt
  exact ⟨h0, ini, last, h1, h2, h3, (hg.block _ l4 (fun e => by have := (hr _ e.symm).1; omega)).trans h4, (hg.block _ l5 (fun e => by have := (hr _ e.symm).1; omega)).trans h5, h6.grown hg (by omega) (fun k e => by have := (hr k e).1; omega)⟩
 case h0 => exact ⟨by simp, c0, c1, ⟨_, c2⟩, ⟨_, c3⟩, b4, hB0⟩
 case ownA =>
  intro x a' s X Y row ⟨R, h1, h2, h3⟩ hg hr
  have l2 := h2.lt
  refine ⟨R, h1, (hg.block _ l2 (fun e => ?_)).trans h2, h3⟩
  obtain ⟨_, o, h4, h5⟩ := hr _ e.symm
  rw [show X.heap[R]? = _ from h2] at h4
  cases h4; cases h5
 case assign =>
  intro l pre x X K ⟨hX0, hX⟩ hK
  simp only [rv]
  gi_wp2
  have hl := hX.lt
  refine hK _ _ (KeepsFrom.of_grownBy (World.grownBy_alloc X _ none) (fun j e => by cases e)) ⟨(Below.refl A X).alloc (by omega) _, ?_⟩ ⟨hX0, hX.alloc _⟩ ⟨X.heap.size, hl, World.alloc_heap_new X _, rfl⟩
  rw [(hX.alloc _).b4.cell, hX.b4.cell]
 case body =>
  rintro l pre x a' X hl hr ⟨i0, hX⟩ ⟨R, hR, hRr, rfl⟩ hlen
  obtain ⟨d0, d1, d2, d3⟩ := hRr.c
  have k1 := hX.b0.cell
  have k2 := hX.b1.cell
  have hlX := hX.lt
  have hRX := hRr.lt
  have stay : ∀ {Y : World} (a' : Act), Below X.heap.size X Y → (decide ((x.1.2.2.1 : Int) < p) && Sw w x.1.2) = false → ownPostG w1.heap.size (KP A (A + 1 + 1 + 1 + 1)) (fun pre X => (∀ x ∈ pre, (decide ((x.1.2.2.1 : Int) < p) && Sw w x.1.2) = false) ∧ Inv A w p W (.slice ad v.length cap) X) (fun c pre X => c = .ret ∧ ∃ ini last, pre = ini ++ [last] ∧ (∀ x ∈ ini, (decide ((x.1.2.2.1 : Int) < p) && Sw w x.1.2) = false) ∧ (decide ((last.1.2.2.1 : Int) < p) && Sw w last.1.2) = true ∧ Row4 X (A + 1 + 1) last.1.2 ∧ Boxed X (A + 1 + 1 + 1) 4 (.bool true) ∧ Below A W X) (pre ++ [x]) X .normal a' Y := fun {Y} a' hB hc =>
   ⟨⟨hB.size, fun k o _ h0 _ => (hB.block k (Array.getElem?_eq_some_iff.1 h0).1).trans h0⟩, ⟨hB.mono (by omega), by rw [(hX.call hB).b4.cell, hX.b4.cell]⟩, fun y hy => (List.mem_append.1 hy).elim (i0 y) (fun e => by rw [List.mem_singleton.1 e]; exact hc), hX.call hB⟩
  simp only [rv]
  gi_wp2
  ·refine ⟨trivial, (Kv _ (.inr ⟨l, rfl⟩) 0 x.1.2 w x.2 X).mono ?_⟩
   rintro e w' ⟨rfl, hB⟩
   dsimp only
   have hRr' : Row4 w' R x.1.2 := (hB.block _ hRX).trans hRr
   obtain ⟨e0, e1, e2, e3⟩ := hRr'.c
   have hX' := hX.call hB
   obtain ⟨r0, hr0⟩ := hX'.b2
   obtain ⟨f0, f1, f2, f3⟩ := hr0.c
   obtain ⟨g0, g1, g2, g3⟩ := hr0.f
   obtain ⟨cb, hcb⟩ := hX'.b3
   have m0 := hcb.cell
   have m1 := hcb.frozen
   cases hf : Sw w x.1.2 with
   | false =>
    gi_wp2
    exact stay _ hB (by rw [hf, Bool.and_false])
   | true =>
    gi_wp2
    rename_i hlt
    have h5 := hr0.set x.1.2
    have nb : ∀ (q : Nat), q ≠ A + 1 + 1 → ((((w'.setCell ⟨A + 1 + 1, 0, none⟩ (.int .i64 x.1.2.1)).setCell ⟨A + 1 + 1, 1, none⟩ (.int .i64 x.1.2.2.1)).setCell ⟨A + 1 + 1, 2, none⟩ (.int .i64 x.1.2.2.2.1)).setCell ⟨A + 1 + 1, 3, none⟩ (.int .i64 x.1.2.2.2.2)).heap[q]? = w'.heap[q]? := fun q hq => by
     rw [Ao hq, Ao hq, Ao hq, Ao hq]
    have h6 : Boxed ((((w'.setCell ⟨A + 1 + 1, 0, none⟩ (.int .i64 x.1.2.1)).setCell ⟨A + 1 + 1, 1, none⟩ (.int .i64 x.1.2.2.1)).setCell ⟨A + 1 + 1, 2, none⟩ (.int .i64 x.1.2.2.2.1)).setCell ⟨A + 1 + 1, 3, none⟩ (.int .i64 x.1.2.2.2.2)) (A + 1 + 1 + 1) 4 (.bool cb) := (nb _ (by omega)).trans hcb
    refine ⟨(KeepsFrom.mk hB.size fun k o _ h0 _ => (hB.block k (Array.getElem?_eq_some_iff.1 h0).1).trans h0).trans ((((((KeepsOthers.setCell _ _ _).from _).trans ((KeepsOthers.setCell _ _ _).from _)).trans ((KeepsOthers.setCell _ _ _).from _)).trans ((KeepsOthers.setCell _ _ _).from _)).trans ((KeepsOthers.setCell _ _ _).from _)), rfl, pre, x, rfl, i0, by rw [hf, Bool.and_true]; exact decide_eq_true hlt, ?_, h6.set _, ?_⟩
    ·exact (Ao (by omega)).trans h5
    ·exact ((((hX'.bel.setCell (p := ⟨A + 1 + 1, 0, none⟩) (by show A ≤ A + 1 + 1; omega) _).setCell (p := ⟨A + 1 + 1, 1, none⟩) (by show A ≤ A + 1 + 1; omega) _).setCell (p := ⟨A + 1 + 1, 2, none⟩) (by show A ≤ A + 1 + 1; omega) _).setCell (p := ⟨A + 1 + 1, 3, none⟩) (by show A ≤ A + 1 + 1; omega) _).setCell (p := ⟨A + 1 + 1 + 1, 0, none⟩) (by show A ≤ A + 1 + 1 + 1; omega) _
  ·refine ⟨trivial, ?_⟩
   gi_wp2
   rename_i hge
   exact stay _ (Below.refl _ _) (by rw [decide_eq_false (Int.not_lt.2 hge), Bool.false_and])
 case done =>
  rintro D xs X hD rfl ⟨hne, hX⟩ hK
  obtain ⟨r0, hr0⟩ := hX.b2
  obtain ⟨f0, f1, f2, f3⟩ := hr0.c
  obtain ⟨g0, g1, g2, g3⟩ := hr0.f
  obtain ⟨cb, hcb⟩ := hX.b3
  have m0 := hcb.cell
  have m1 := hcb.frozen
  have hfd : B5 w p v.reverse = ((0, 0, 0, 0), false) := Tj w p _ fun r hr => by
   rw [← List.take_length (l := v.reverse), List.length_reverse, ← Yv v hok _ (Nat.le_refl _)] at hr
   obtain ⟨x, hx, rfl⟩ := List.mem_map.1 hr
   exact hne x hx
  gi_wp2
  have nb : ∀ (q : Nat), q ≠ A + 1 + 1 → ((((X.setCell ⟨A + 1 + 1, 0, none⟩ (.int .i64 0)).setCell ⟨A + 1 + 1, 1, none⟩ (.int .i64 0)).setCell ⟨A + 1 + 1, 2, none⟩ (.int .i64 0)).setCell ⟨A + 1 + 1, 3, none⟩ (.int .i64 0)).heap[q]? = X.heap[q]? := fun q hq => by
   rw [Ao hq, Ao hq, Ao hq, Ao hq]
  have h6 : Boxed ((((X.setCell ⟨A + 1 + 1, 0, none⟩ (.int .i64 0)).setCell ⟨A + 1 + 1, 1, none⟩ (.int .i64 0)).setCell ⟨A + 1 + 1, 2, none⟩ (.int .i64 0)).setCell ⟨A + 1 + 1, 3, none⟩ (.int .i64 0)) (A + 1 + 1 + 1) 4 (.bool cb) := (nb _ (by omega)).trans hcb
  have h5 := hr0.set zr
  have hbel := ((((hX.bel.setCell (p := ⟨A + 1 + 1, 0, none⟩) (by show A ≤ A + 1 + 1; omega) (.int .i64 0)).setCell (p := ⟨A + 1 + 1, 1, none⟩) (by show A ≤ A + 1 + 1; omega) (.int .i64 0)).setCell (p := ⟨A + 1 + 1, 2, none⟩) (by show A ≤ A + 1 + 1; omega) (.int .i64 0)).setCell (p := ⟨A + 1 + 1, 3, none⟩) (by show A ≤ A + 1 + 1; omega) (.int .i64 0)).setCell (p := ⟨A + 1 + 1 + 1, 0, none⟩) (by show A ≤ A + 1 + 1 + 1; omega) (.bool false)
  exact fin hfd (by omega) ((Ao (by omega)).trans h5) (h6.set _) ((Ao (by omega)).trans ((nb D (by omega)).trans hK)) (by rw [hA]; exact hbel)
 case stop =>
  rintro D c pre X hD ⟨k, hk, rfl⟩ ⟨rfl, ini, last, e1, e2, e3, hr4, hb3, hbel⟩ hK
  have hfd : B5 w p v.reverse = (last.1.2, true) := by
   have h2 := Yv v hok k hk
   rw [e1, List.map_append, List.map_singleton] at h2
   have h3 : v.reverse = ini.map (fun x => x.1.2) ++ last.1.2 :: v.reverse.drop k := by
    conv => lhs; rw [← List.take_append_drop k v.reverse, ← h2]
    simp
   rw [h3]
   refine Td w p _ _ e3 _ fun r hr => ?_
   obtain ⟨x, hx, rfl⟩ := List.mem_map.1 hr
   exact e2 x hx
  gi_wp2
  exact fin hfd (by omega) hr4 hb3 hK (by rw [hA]; exact hbel)
theorem Xln {w : World} {S : Nat → Prop} {a b c : Arg} {vals : List Value} {bss : List (List Nat)} (h : ArgsV w S [a, b, c] vals bss) :
  ∃ y iv z bl bi bv, vals = [y, iv, z] ∧ bss = [bl, bi, bv] ∧ ArgV w S a y bl ∧ ArgV w S b iv bi ∧ ArgV w S c z bv := by
 rcases vals with _ | ⟨y, _ | ⟨iv, _ | ⟨z, _ | _⟩⟩⟩ <;> rcases bss with _ | ⟨bl, _ | ⟨bi, _ | ⟨bv, _ | _⟩⟩⟩ <;> simp only [ArgsV, and_false] at h
 exact ⟨_, _, _, _, _, _, rfl, rfl, h.1, h.2.1, h.2.2.1⟩
theorem X3x {w : World} {S : Nat → Prop} {m : Rf.Mode} {x : den E} {u : List Value} {b : List Nat} (h : Rd w S E m x u b) : u = [.int .i64 x.1, .int .i64 x.2.1, .int .i64 x.2.2.1, .int .i64 x.2.2.2] := by
 obtain ⟨_, _, _, _, rfl, rfl, ⟨rfl, rfl⟩, _, _, _, _, rfl, rfl, ⟨rfl, rfl⟩, _, _, _, _, rfl, rfl, ⟨rfl, rfl⟩, ⟨rfl, rfl⟩⟩ := h
 rfl
theorem Xwy {w : World} {S : Nat → Prop} {v : List (den E)} {y : Value} {bs : List Nat} (h : Rd w S (.sl E) .ro v [y] bs) (hS : ∀ b, S b → b < w.heap.size) :
  (∃ ad cap, y = .slice ad v.length cap) ∧ Rts w.heap.size w y v ∧ bs = [] := by
 obtain ⟨y', hy, ad, c, rfl, hc, _, hr⟩ := h
 simp only [List.cons.injEq, and_true] at hy
 subst hy
 refine ⟨⟨_, _, rfl⟩, ?_, ?_⟩
 ·cases v with
  | nil => exact .inl ⟨_, _, rfl, rfl⟩
  | cons r0 v =>
   rcases hr with ⟨_, h, _⟩ | ⟨b, o, bss, rfl, hl, _, h2, _, hel⟩
   ·cases h
   ·obtain ⟨_, _, h3⟩ := h2 rfl
    refine .inr ⟨b, o, c, rfl, hc, hS _ (h3 (by simp)), fun i hi => ?_⟩
    obtain ⟨vs, hvl, hcell, hrd⟩ := hel i ((r0 :: v)[i]) (bss[i]'(by omega)) (by simp) (List.getElem?_eq_getElem hi) (List.getElem?_eq_getElem (by omega))
    have he := X3x hrd
    subst he
    rw [List.getElem?_eq_getElem hi, Option.getD_some]
    exact ⟨hcell 0 (by decide), hcell 1 (by decide), hcell 2 (by decide), hcell 3 (by decide)⟩
 ·rcases hr with ⟨_, _, _, h⟩ | ⟨b, o, bss, rfl, hl, _, h2, _, hel⟩
  ·exact h
  ·exact (h2 rfl).1
set_option maxRecDepth 100000 in
theorem con (v : List (den E)) (w p : Int) : Contract Tryz.prog 74 [.one (.l (.s .ro E v)), .one (.l (.v (.int .i64 w))), .one (.l (.v (.int .i64 p)))]
  ⟨to v w p, fun r => (.tup [(true, enc .own E r.1), (false, [.v (.bool r.2)])], [])⟩ := by
 intro W S vals bss hA hnd hown hS _ _ r hr
 obtain ⟨y, iv, z, bl, bi, bv, rfl, rfl, h1, h2, h3⟩ := Xln hA
 obtain ⟨rfl, rfl⟩ : iv = .int .i64 w ∧ bi = [] := h2
 obtain ⟨rfl, rfl⟩ : z = .int .i64 p ∧ bv = [] := h3
 have hr : to v w p = some r := hr
 unfold to at hr
 cases hk : (v.all okB && decide (v.length ≤ 1000000)) with
 | false => rw [hk] at hr; cases hr
 | true =>
  rw [hk, cond_true, Option.some.injEq] at hr
  simp only [Bool.and_eq_true, decide_eq_true_eq] at hk
  obtain ⟨⟨ad, cap, hy⟩, hI, rfl⟩ := Xwy (show Rd W S (.sl E) .ro v [y] bl from h1) hS
  have c := callsIn_wide.1 (X5w v hk.2 hk.1 y w p ad cap hy W hI)
  rw [hr] at c
  refine c.mono ?_
  rintro e W' ⟨rfl, hB⟩
  refine ⟨_, rfl, ⟨S, [], [], ⟨[rv r.1, .bool r.2], [[], []], rfl, ⟨⟨_, [[], [], [], []], rfl, ⟨⟨rfl, rfl⟩, ⟨rfl, rfl⟩, ⟨rfl, rfl⟩, ⟨rfl, rfl⟩, trivial⟩, rfl⟩, ⟨rfl, rfl⟩, trivial⟩, rfl⟩, trivial, by simp, by simp, fun _ h => h, fun q h => Nat.lt_of_lt_of_le (hS q h) hB.size, fun q h => .inl h, by simp, by simp [resBk, Rv]⟩, hB.size, ⟨hB.os, hB.tape, hB.output⟩, fun q h1 h2 => .inl (hB.block q h1).symm⟩
#print axioms con
end Go.Proofs.YtdmepjjepogddaaGreat.Rt
end

section
namespace Go.Proofs.YtdmepjjepogddaaGreat.De
open Go.RowKit Go.Shelf Go.Lib Go.Proofs
set_option linter.unusedVariables false
set_option linter.unusedSimpArgs false
theorem u100 : Tryz.prog.underlying 100 = some (.slice 196) := by kernel_rfl
theorem u3 : Tryz.prog.underlying 3 = some (.int .i64) := by kernel_rfl
abbrev Z : Value := .agg #[.slice none 0 0, .int .i64 0]
theorem Xfc : ∃ i, Tryz.prog.info? 196 = some i ∧ i.zero = some Z ∧ i.size = 2 ∧ i.bytes = 32 := info_parts (by kernel_rfl)
theorem X57 (w : World) : (zeroValue 196).run Tryz.prog w = .ok Z w := by
 obtain ⟨i, h1, h2, _⟩ := Xfc
 simp [zeroValue, typeInfo, h1, h2]
abbrev zz : List Value := [.slice none 0 0, .int .i64 0]
theorem X1b (w : World) (ty : TypeId) (b o c : Nat) (hc : ∀ j, j < 2 → (w.cell? ⟨b, o + j, none⟩).isSome = true) (hf : ∀ j, j < 2 → w.frozen? ⟨b, o + j, none⟩ = false) :
  (Builtin.clear_ #[100] ty #[.slice (some ⟨b, o, none⟩) 1 c]).run Tryz.prog w = .ok (.tuple #[]) (w.setCells b o zz) := by
 have hst := run_storeCells_cells (P := Tryz.prog) b o zz 0 w (by simpa using hc) (by simpa using hf) (by intro v hv; simp at hv; rcases hv with rfl | rfl <;> rfl)
 simp only [Nat.add_zero] at hst
 have hzc : (Builtin.zeroCells Z.cells 1).toList = zz := by
  simp [Builtin.zeroCells, Value.cells]
  rfl
 simp [Builtin.clear_, run_underlying u100, X57, hzc, hst]
set_option maxHeartbeats 4000000 in
set_option maxRecDepth 1000000 in
theorem del1 (b o c : Nat) (w : World) (hc1 : 1 ≤ c) (hc : ∀ j, j < 2 → (w.cell? ⟨b, o + j, none⟩).isSome = true) (hf : ∀ j, j < 2 → w.frozen? ⟨b, o + j, none⟩ = false) :
  Calls Tryz.prog 219 #[.slice (some ⟨b, o, none⟩) 1 c, .int .i64 0, .int .i64 1] w fun e w' => e = .returned (.slice (some ⟨b, o, none⟩) 0 c) ∧ w' = w.drew.setCells b o zz := by
 have Ah : Tryz.prog.follows .mixedOrders = true := by kernel_rfl
 obtain ⟨i0, hi0, hz0, hz1, hz2⟩ := Xfc
 have hcl := fun ty cc => X1b w.drew ty b o cc hc hf
 obtain ⟨A, hA⟩ : ∃ A : Addr, (if c = 1 then some (⟨b, o, none⟩ : Addr) else some ⟨b, o + 2, none⟩) = some A := by
  by_cases h : c = 1
  ·exact ⟨_, by rw [if_pos h]⟩
  ·exact ⟨_, by rw [if_neg h]⟩
 go_enter Tryz.func219, Tryz.ntmps219
 go_wp2_with fail
 go_region_law_o (refine step_append_room rfl (.tmp 22) (.tmp 25) 100 rfl 196 i0 2 u100 hi0 hz1 b o 0 c (by simp [Act.eval, Act.put]) A 0 (c - 1) [] (by simp [Act.eval, Act.put]; try exact hA) rfl (by intro j u h; simp at h) (by intro u h; cases h) (by omega) (by intro j h; simp at h) ?_)
 rw [show w.drew.setCells b o [] = w.drew from rfl]
 go_wp2
 go_ret
 exact ⟨rfl, rfl⟩
open Go.Rf
abbrev E : Ty := .pair (.sl (.pair (.int .i64) (.pair (.int .i64) (.pair (.int .i64) (.pair (.int .i64) (.pair (.int .i64) (.pair (.int .i64) (.pair .bool (.pair .bool (.sl (.int .u8))))))))))) (.int .i64)
def del (l : List (den E)) (i j : Int) : Option (List (den E)) := cond (decide (i = 0) && decide (j = 1) && decide (l.length = 1)) (some []) none
theorem Kk {b : Nat} : ∀ {vs : List Value} {o : Nat} {w : World}, BlkOk w b (o + vs.length) →
  (∀ q, q ≠ b → (w.setCells b o vs).heap[q]? = w.heap[q]?) ∧ (∀ n, BlkOk w b n → BlkOk (w.setCells b o vs) b n) ∧
   (∀ p, cellAt (w.setCells b o vs) b p = if o ≤ p ∧ p < o + vs.length then vs[p - o]? else cellAt w b p) ∧ (w.setCells b o vs).heap.size = w.heap.size ∧ Io w (w.setCells b o vs)
 | [], o, w, hb => ⟨fun _ _ => rfl, fun _ h => h, fun p => by rw [if_neg (by simp only [List.length_nil]; omega)]; rfl, rfl, Io.refl _⟩
 | v :: vs, o, w, hb => by
  have hb1 : BlkOk w b (o + 1) := by obtain ⟨cs, te, h2, h3⟩ := hb; exact ⟨cs, te, h2, by simp at h3; omega⟩
  obtain ⟨hq, hblk, hcell, hsz, hio⟩ := Kk (b := b) (vs := vs) (o := o + 1) (w := w.setCell ⟨b, o, none⟩ v)
   (B9 (by obtain ⟨cs, te, h2, h3⟩ := hb; exact ⟨cs, te, h2, by simp at h3; omega⟩))
  refine ⟨fun q hne => (hq q hne).trans (Ao hne), fun n hn => hblk n (B9 hn), fun p => ?_, hsz.trans (Bt _ _ _), (show Io w (w.setCell ⟨b, o, none⟩ v) from ⟨rfl, rfl, rfl⟩).trans hio⟩
  rw [World.setCells, hcell p]
  by_cases h2 : o + 1 ≤ p ∧ p < o + 1 + vs.length
  ·rw [if_pos h2, if_pos (by simp; omega)]
   rw [show p - o = (p - (o + 1)) + 1 by omega, List.getElem?_cons_succ]
  ·rw [if_neg h2, C6 hb1 (by omega)]
   by_cases h3 : p = o
   ·subst h3
    simp
   ·rw [if_neg (by simp [h3]), if_neg (by simp; omega)]
theorem Xln {w : World} {S : Nat → Prop} {a b c : Arg} {vals : List Value} {bss : List (List Nat)} (h : ArgsV w S [a, b, c] vals bss) :
  ∃ y iv z bl bi bv, vals = [y, iv, z] ∧ bss = [bl, bi, bv] ∧ ArgV w S a y bl ∧ ArgV w S b iv bi ∧ ArgV w S c z bv := by
 rcases vals with _ | ⟨y, _ | ⟨iv, _ | ⟨z, _ | _⟩⟩⟩ <;> rcases bss with _ | ⟨bl, _ | ⟨bi, _ | ⟨bv, _ | _⟩⟩⟩ <;> simp only [ArgsV, and_false] at h
 exact ⟨_, _, _, _, _, _, rfl, rfl, h.1, h.2.1, h.2.2.1⟩
theorem Xk1 {w : World} {b n p : Nat} (h : BlkOk w b n) (hp : p < n) : (w.cell? ⟨b, p, none⟩).isSome = true ∧ w.frozen? ⟨b, p, none⟩ = false := by
 obtain ⟨cs, te, h1, h2⟩ := h
 unfold World.cell? World.frozen?
 simp only [h1, Option.isSome_none, Bool.false_eq_true, if_false]
 rw [Array.getElem?_eq_getElem (by omega)]
 exact ⟨rfl, by simp⟩
theorem fin {w w' : World} {S : Nat → Prop} {l : List (den E)} {y : Value} {b : Nat} {own : List Nat} (hR : Rd w' S (.sl E) .own l [y] [b]) (hb : b ∈ own ∨ w.heap.size ≤ b) (hown : ∀ q ∈ own, ¬ S q) (hS : ∀ q, S q → q < w.heap.size)
  (hsz : w.heap.size ≤ w'.heap.size) (hio : Io w w') (hfr : ∀ q, q < w.heap.size → q ∉ own → w'.heap[q]? = w.heap[q]?) : Post w S [] own w' (.one (.s .own E l), []) y := by
 refine ⟨⟨S, [b], [], hR, trivial, by simp, ?_, fun _ h => h, fun q h => Nat.lt_of_lt_of_le (hS q h) hsz, fun q h => .inl h, ?_, ?_⟩, hsz, hio, fun q h1 h2 => .inl (hfr q h1 h2).symm⟩
 ·intro q hq
  simp only [List.flatten_nil, List.append_nil, List.mem_singleton] at hq
  subst hq
  rcases hb with hb | hb
  ·exact hown _ hb
  ·intro h; have := hS _ h; omega
 ·intro q hq
  simp only [List.flatten_nil, List.append_nil, List.mem_singleton] at hq
  subst hq
  exact hb
 ·intro a ha; simp [resBk, Rv] at ha
theorem con (l : List (den E)) (i j : Int) : Contract Tryz.prog 219 [.one (.l (.s .sown E l)), .one (.l (.v (.int .i64 i))), .one (.l (.v (.int .i64 j)))] ⟨del l i j, fun r => (.one (.s .own E r), [])⟩ := by
 intro w S vals bss hA hnd hown hS _ _ r hr
 obtain ⟨y, iv, jv, bl, bi, bj, rfl, rfl, h1, h2, h3⟩ := Xln hA
 obtain ⟨rfl, rfl⟩ : iv = .int .i64 i ∧ bi = [] := h2
 obtain ⟨rfl, rfl⟩ : jv = .int .i64 j ∧ bj = [] := h3
 have hr : del l i j = some r := hr
 unfold del at hr
 cases hk : (decide (i = 0) && decide (j = 1) && decide (l.length = 1)) with
 | false => rw [hk] at hr; cases hr
 | true =>
  rw [hk, cond_true, Option.some.injEq] at hr
  simp only [Bool.and_eq_true, decide_eq_true_eq] at hk
  obtain ⟨⟨rfl, rfl⟩, hl⟩ := hk
  subst hr
  obtain ⟨y', hy, ad, c, rfl, hlc, _, hh⟩ := (h1 : Rd w S (.sl E) .sown l [y] bl)
  obtain rfl : y = .slice ad l.length c := by simpa using hy
  rcases hh with ⟨_, e, _⟩ | ⟨b, o, bs', rfl, _, hb, _⟩
  ·rw [e] at hl; cases hl
  ·obtain ⟨rfl, hblk⟩ := hb rfl
   have hblk : BlkOk w b (o + c * 2) := hblk
   rw [hl] at hlc ⊢
   have hc : ∀ t, t < 2 → (w.cell? ⟨b, o + t, none⟩).isSome = true ∧ w.frozen? ⟨b, o + t, none⟩ = false := fun t ht => Xk1 hblk (by omega)
   have hd0 : BlkOk w.drew b (o + c * 2) := hblk
   obtain ⟨q1, b1, c1, s1, io1⟩ := Kk (vs := zz) (o := o) (w := w.drew) (b := b) (by obtain ⟨p1, p2, p3, p4⟩ := hd0; exact ⟨p1, p2, p3, by show o + 2 ≤ _; omega⟩)
   refine (del1 b o c w hlc (fun t ht => (hc t ht).1) (fun t ht => (hc t ht).2)).mono ?_
   rintro e w' ⟨rfl, rfl⟩
   refine ⟨_, rfl, ?_⟩
   have hin : b ∈ [b :: bs'.flatten, [], []].flatten := by simp
   have hR : Rd (w.drew.setCells b o zz) S (.sl E) .own [] [.slice (some ⟨b, o, none⟩) 0 c] [b] :=
    ⟨_, rfl, some ⟨b, o, none⟩, c, rfl, Nat.zero_le _, (by intro h; cases h), .inr ⟨b, o, [], rfl, rfl, fun _ => ⟨rfl, b1 _ hd0⟩, (by intro h; cases h), (by intro i h; cases h), (by intro i x b' _ hx; simp at hx)⟩⟩
   exact fin hR (.inl hin) hown hS (by rw [s1]; exact Nat.le_refl _) ((show Io w w.drew from ⟨rfl, rfl, rfl⟩).trans io1) (fun q h1 h2 => q1 q (fun e => h2 (by rw [e]; exact hin)))
#print axioms con
end Go.Proofs.YtdmepjjepogddaaGreat.De
end

section
set_option linter.unusedVariables false
set_option linter.unusedSimpArgs false
namespace Go.Proofs.YtdmepjjepogddaaGreat.Gn
open Go.Rf IntKind
noncomputable section
abbrev B4 : Ty := (.pair (.int .i64) (.pair (.int .i64) (.pair (.int .i64) (.int .i64))))
abbrev sta : Ty := (.pair (.int .i64) (.sl B4))
abbrev Ad : Ty := (.pair (.int .i64) (.pair (.int .i64) (.pair (.int .i64) (.pair (.int .i64) (.pair (.int .i64) (.pair (.int .i64) (.pair .bool (.pair .bool (.sl (.int .u8))))))))))
abbrev Ay : Ty := (.pair (.sl Ad) (.int .i64))
abbrev Pr : Ty := (.pair (.int .i64) (.pair (.int .i64) (.sl Ad)))
abbrev Cy : Ty := (.pair (.sl Ad) Ay)
abbrev Ac : Type := List (den (.int .u8))
abbrev Am : Type := List (den Ad)
abbrev Ae : Type := List (den Ay)
abbrev Au : Type := List (den B4)
abbrev Ab : Type := List (den sta)
abbrev Bc : Type := List (den (.int .i64))
abbrev Fe : Type := List (den (.sl (.int .u8)))
abbrev Ca : Type := List (den (.pair (.int .i64) Ad))
abbrev m_1 : MT := .pair mI (.pair mI (.pair mI mI))
abbrev m_2 : MT := .pair mB (.sl .ro (.int .u8))
abbrev m_3 : MT := .pair mI (.pair mI (.pair mB m_2))
abbrev C3 : MT := .pair mI (.pair mI (.pair mI m_3))
abbrev m_5 : MT := .pair mB (.sl .own (.int .u8))
abbrev m_6 : MT := .pair mI (.pair mI (.pair mB m_5))
abbrev m_7 : MT := .pair mI (.pair mI (.pair mI m_6))
abbrev m_8 : MT := .pair mI (.sl .ro (.int .u8))
abbrev m_9 : MT := .pair mI (.sl .own (.int .u8))
abbrev Xn8 : MT := .pair mI (.pair mI (.sl .own Ad))
abbrev m_11 : MT := .pair (.sl .ro Ad) (.pair (.sl .ro Ad) mI)
abbrev J7 : MT := .pair (.sl .own Ad) (.pair (.sl .own Ad) mI)
abbrev Xn5 : MT := .pair (.sl .sown Ad) (.pair (.sl .sown Ad) mI)
abbrev Xu0 : MT := .pair mI (.pair mI (.sl .sown Ad))
abbrev Gf {β : Type} (e : (den B4)) (f : Int → Int → Int → Int → β) : β := f e.1 e.2.1 e.2.2.1 e.2.2.2
abbrev Ax {β : Type} (e : (den Ad)) (f : Int → Int → Int → Int → Int → Int → Bool → Bool → Ac → β) : β := f e.1 e.2.1 e.2.2.1 e.2.2.2.1 e.2.2.2.2.1 e.2.2.2.2.2.1 e.2.2.2.2.2.2.1 e.2.2.2.2.2.2.2.1 e.2.2.2.2.2.2.2.2
abbrev u_2 {β : Type} (e : (Int × (Int × Ac))) (f : Int → Int → Ac → β) : β := f e.1 e.2.1 e.2.2
abbrev Bb {β : Type} (e : (den Ay)) (f : Am → Int → β) : β := f e.1 e.2
def tyT : List (Nat × TyI) := [(3, ⟨(.int .i64), false, 0⟩), (4, ⟨.bool, false, 0⟩), (5, ⟨(.int .u8), false, 0⟩), (9, ⟨.str, false, 0⟩), (22, ⟨(.sl sta), false, 32⟩), (23, ⟨(.sl (.int .u8)), false, 1⟩), (27, ⟨(.sl sta), false, 32⟩), (50, ⟨(.sl B4), false, 32⟩), (52, ⟨sta, true, 0⟩), (56, ⟨Ad, true, 0⟩), (92, ⟨(.sl B4), false, 32⟩), (94, ⟨sta, true, 0⟩), (96, ⟨(.sl Ad), false, 80⟩), (98, ⟨Cy, true, 0⟩), (100, ⟨(.sl Ay), false, 32⟩), (114, ⟨B4, true, 0⟩), (158, ⟨(.sl (.sl (.int .u8))), false, 24⟩), (190, ⟨(.sl (.int .i64)), false, 8⟩), (192, ⟨Pr, true, 0⟩), (196, ⟨Ay, true, 0⟩), (266, ⟨B4, true, 0⟩), (268, ⟨(.pair (.int .i64) Ad), true, 0⟩), (269, ⟨(.sl (.pair (.int .i64) Ad)), false, 88⟩), (346, ⟨(.pair (.int .i64) (.pair (.int .i64) (.sl (.int .u8)))), true, 0⟩)]
def Xdm : Xgx := [(52, [(0, 1, false), (1, 1, false)]), (56, [(0, 1, false), (1, 1, false), (2, 1, false), (3, 1, false), (4, 1, false), (5, 1, false), (6, 1, false), (7, 1, false), (8, 1, false)]), (94, [(0, 1, false), (1, 1, false)]), (98, [(0, 1, false), (1, 1, false), (2, 1, false)]), (114, [(0, 1, false), (1, 1, false), (2, 1, false), (3, 1, false)]), (192, [(0, 1, false), (1, 1, false), (2, 1, false)]), (196, [(0, 1, false), (1, 1, false)]), (266, [(0, 1, false), (1, 1, false), (2, 1, false), (3, 1, false)]), (268, [(0, 1, false), (1, 9, true)]), (346, [(0, 1, false), (1, 1, false), (2, 1, false)])]
def eqT : List Nat := []
def Ba (tab : Tab) (hint : Nat → Hint) (rm : Rf.Mode) (pins : List (Bool × Nat)) (k : Nat) : Env :=
 { tab := tab, lend := (fun f => cond (Nat.beq f 219) [true] (cond (Nat.beq f 276) [true] (cond (Nat.beq f 211) [true] (cond (Nat.beq f 271) [true] (cond (Nat.beq f 163) [true] (cond (Nat.beq f 197) [true] (cond (Nat.beq f 266) [true] ([])))))))), lent := (fun f => cond (Nat.beq f 215) [true] (cond (Nat.beq f 68) [true] (cond (Nat.beq f 20) [true] (cond (Nat.beq f 19) [true] ([]))))), pins := pins, ty := asc tyT, fld := Lm Xdm, pw := fun _ => none, cw := fun _ => [], hint := hint, eqt := B6 eqT, rm := rm, fuel := k, itr := [(164, 229, (.int .u8))] }
theorem tyOk : AllT (TyOk Tryz.prog) tyT :=
 ⟨.ofInt (b := 8) (by kernel_rfl) (by kernel_rfl), .ofBool (b := 1) (by kernel_rfl) (by kernel_rfl), .ofInt (b := 1) (by kernel_rfl) (by kernel_rfl), .ofStr (b := 16) (by kernel_rfl) (by kernel_rfl), .ofSl (te := 94) (b := 24) (by kernel_rfl) (by kernel_rfl) (by kernel_rfl) nofun, .ofSl (te := 5) (b := 24) (by kernel_rfl) (by kernel_rfl) (by kernel_rfl) (fun _ h => by cases h; kernel_rfl), .ofSl (te := 52) (b := 24) (by kernel_rfl) (by kernel_rfl) (by kernel_rfl) nofun, .ofSl (te := 114) (b := 24) (by kernel_rfl) (by kernel_rfl) (by kernel_rfl) nofun, .ofAgg (b := 32) (by kernel_rfl) (by kernel_rfl), .ofAgg (b := 80) (by kernel_rfl) (by kernel_rfl), .ofSl (te := 266) (b := 24) (by kernel_rfl) (by kernel_rfl) (by kernel_rfl) nofun, .ofAgg (b := 32) (by kernel_rfl) (by kernel_rfl), .ofSl (te := 56) (b := 24) (by kernel_rfl) (by kernel_rfl) (by kernel_rfl) nofun, .ofAgg (b := 56) (by kernel_rfl) (by kernel_rfl), .ofSl (te := 196) (b := 24) (by kernel_rfl) (by kernel_rfl) (by kernel_rfl) nofun, .ofAgg (b := 32) (by kernel_rfl) (by kernel_rfl), .ofSl (te := 23) (b := 24) (by kernel_rfl) (by kernel_rfl) (by kernel_rfl) nofun, .ofSl (te := 3) (b := 24) (by kernel_rfl) (by kernel_rfl) (by kernel_rfl) (fun _ h => by cases h; kernel_rfl), .ofAgg (b := 40) (by kernel_rfl) (by kernel_rfl), .ofAgg (b := 32) (by kernel_rfl) (by kernel_rfl), .ofAgg (b := 32) (by kernel_rfl) (by kernel_rfl), .ofAgg (b := 88) (by kernel_rfl) (by kernel_rfl), .ofSl (te := 268) (b := 24) (by kernel_rfl) (by kernel_rfl) (by kernel_rfl) nofun, .ofAgg (b := 40) (by kernel_rfl) (by kernel_rfl), trivial⟩
theorem fldOk : AllF Tryz.prog Xdm :=
 ⟨⟨⟨by kernel_rfl, by kernel_rfl⟩, ⟨by kernel_rfl, by kernel_rfl⟩, trivial⟩, ⟨⟨by kernel_rfl, by kernel_rfl⟩, ⟨by kernel_rfl, by kernel_rfl⟩, ⟨by kernel_rfl, by kernel_rfl⟩, ⟨by kernel_rfl, by kernel_rfl⟩, ⟨by kernel_rfl, by kernel_rfl⟩, ⟨by kernel_rfl, by kernel_rfl⟩, ⟨by kernel_rfl, by kernel_rfl⟩, ⟨by kernel_rfl, by kernel_rfl⟩, ⟨by kernel_rfl, by kernel_rfl⟩, trivial⟩, ⟨⟨by kernel_rfl, by kernel_rfl⟩, ⟨by kernel_rfl, by kernel_rfl⟩, trivial⟩, ⟨⟨by kernel_rfl, by kernel_rfl⟩, ⟨by kernel_rfl, by kernel_rfl⟩, ⟨by kernel_rfl, by kernel_rfl⟩, trivial⟩, ⟨⟨by kernel_rfl, by kernel_rfl⟩, ⟨by kernel_rfl, by kernel_rfl⟩, ⟨by kernel_rfl, by kernel_rfl⟩, ⟨by kernel_rfl, by kernel_rfl⟩, trivial⟩, ⟨⟨by kernel_rfl, by kernel_rfl⟩, ⟨by kernel_rfl, by kernel_rfl⟩, ⟨by kernel_rfl, by kernel_rfl⟩, trivial⟩, ⟨⟨by kernel_rfl, by kernel_rfl⟩, ⟨by kernel_rfl, by kernel_rfl⟩, trivial⟩, ⟨⟨by kernel_rfl, by kernel_rfl⟩, ⟨by kernel_rfl, by kernel_rfl⟩, ⟨by kernel_rfl, by kernel_rfl⟩, ⟨by kernel_rfl, by kernel_rfl⟩, trivial⟩, ⟨⟨by kernel_rfl, by kernel_rfl⟩, ⟨by kernel_rfl, by kernel_rfl⟩, trivial⟩, ⟨⟨by kernel_rfl, by kernel_rfl⟩, ⟨by kernel_rfl, by kernel_rfl⟩, ⟨by kernel_rfl, by kernel_rfl⟩, trivial⟩, trivial⟩
theorem Ah : Tryz.prog.follows .mixedOrders = true := by kernel_rfl
theorem bldOk : AllT (fun t i => i.agg = true → BldOk Tryz.prog t (Lm Xdm t)) tyT :=
 ⟨nofun, nofun, nofun, nofun, nofun, nofun, nofun, nofun, fun _ => Ez (row := [(0, 1, false), (1, 1, false)]) rfl (by kernel_rfl) (by kernel_rfl), fun _ => Ez (row := [(0, 1, false), (1, 1, false), (2, 1, false), (3, 1, false), (4, 1, false), (5, 1, false), (6, 1, false), (7, 1, false), (8, 1, false)]) rfl (by kernel_rfl) (by kernel_rfl), nofun, fun _ => Ez (row := [(0, 1, false), (1, 1, false)]) rfl (by kernel_rfl) (by kernel_rfl), nofun, fun _ => Ez (row := [(0, 1, false), (1, 1, false), (2, 1, false)]) rfl (by kernel_rfl) (by kernel_rfl), nofun, fun _ => Ez (row := [(0, 1, false), (1, 1, false), (2, 1, false), (3, 1, false)]) rfl (by kernel_rfl) (by kernel_rfl), nofun, nofun, fun _ => Ez (row := [(0, 1, false), (1, 1, false), (2, 1, false)]) rfl (by kernel_rfl) (by kernel_rfl), fun _ => Ez (row := [(0, 1, false), (1, 1, false)]) rfl (by kernel_rfl) (by kernel_rfl), fun _ => Ez (row := [(0, 1, false), (1, 1, false), (2, 1, false), (3, 1, false)]) rfl (by kernel_rfl) (by kernel_rfl), fun _ => Ez (row := [(0, 1, false), (1, 9, true)]) rfl (by kernel_rfl) (by kernel_rfl), nofun, fun _ => Ez (row := [(0, 1, false), (1, 1, false), (2, 1, false)]) rfl (by kernel_rfl) (by kernel_rfl), trivial⟩
theorem eqOkT : AllT (fun t i => B6 eqT t = true → EqOk Tryz.prog t i.ty) tyT :=
 ⟨fun h => absurd h (by decide), fun h => absurd h (by decide), fun h => absurd h (by decide), fun h => absurd h (by decide), fun h => absurd h (by decide), fun h => absurd h (by decide), fun h => absurd h (by decide), fun h => absurd h (by decide), fun h => absurd h (by decide), fun h => absurd h (by decide), fun h => absurd h (by decide), fun h => absurd h (by decide), fun h => absurd h (by decide), fun h => absurd h (by decide), fun h => absurd h (by decide), fun h => absurd h (by decide), fun h => absurd h (by decide), fun h => absurd h (by decide), fun h => absurd h (by decide), fun h => absurd h (by decide), fun h => absurd h (by decide), fun h => absurd h (by decide), fun h => absurd h (by decide), fun h => absurd h (by decide), trivial⟩
theorem Xl4 (tab : Tab) (hint : Nat → Hint) (rm : Rf.Mode) (pins : List (Bool × Nat)) (k : Nat) : TysOk Tryz.prog (Ba tab hint rm pins k) :=
 ⟨fun t i h => tyOk.get h, fun s f z h => fldOk.get h, fun t i h => bldOk.get h, fun t i h h2 => eqOkT.get h2 h, fun z hz => by obtain rfl := List.mem_singleton.1 hz; exact ⟨It.mkOk, It.itOk⟩⟩
theorem Aj {tab : Tab} (h : TabFn Tryz.prog tab) (hint : Nat → Hint) (rm : Rf.Mode) (pins : List (Bool × Nat)) (k : Nat) : EnvOk Tryz.prog (Ba tab hint rm pins k) := EnvOk.of (Xl4 tab hint rm pins k) h
theorem Vq (frz : List Nat) {tab : Tab} (h : TabFn Tryz.prog tab) (hint : Nat → Hint) (rm : Rf.Mode) (pins : List (Bool × Nat)) (k : Nat) : EnvOk Tryz.prog { Ba tab hint rm pins k with frz := frz } :=
 have e := Aj h hint rm pins k; ⟨e.ty, e.fld, e.bld, e.eq, e.tab, e.fn, e.itr⟩
def Bl : Tab := fun _ _ => none
def Ap : Nat → Hint := fun _ => ⟨[], []⟩
end
end Go.Proofs.YtdmepjjepogddaaGreat.Gn
end

section
set_option linter.unusedVariables false
set_option linter.unusedSimpArgs false
namespace Go.Proofs.YtdmepjjepogddaaGreat.Gn
open Go.Rf IntKind
noncomputable section
abbrev X4z (k : Nat) : Env := Ba Bl Ap .own [] k
abbrev Xvd : List PA := [.one mI, .one mI, .one mI]
abbrev F60_O : RO := ⟨[.v], [mB]⟩
def Ky (k : Nat) (v w p : Int) : Option (Bool) := cond (decide (v ≥ w)) (some (decide (v ≤ p))) (some false)
theorem X0p {β : Type} (k : Nat) (v w p : Int) (K : KT β) : Ag (X4z k) Tryz.f60 (PsT.put Xvd (v, w, p, ())) K = (Ky k v w p).bind fun r => K (F60_O.put r) :=
 Eq.trans (b := cond (decide (v ≥ w)) (K (F60_O.put (decide (v ≤ p)))) (K (F60_O.put false))) (by kernel_rfl) (by simp only [Ky, z1, z2, z3, z4, z5, z6, z7, z8])
def Fl (k : Nat) : FD := ⟨60, Xvd, F60_O, Ky k⟩
theorem F7 (k : Nat) : (Fl k).Ok Tryz.prog := ⟨fun x => Aa (Aj .none _ _ _ _) Ah Tryz.func60 rfl rfl (X0p k _ _ _ some), .of (by kernel_rfl)⟩
abbrev Xx1 (k : Nat) : Env := Ba Bl Ap .own [] k
abbrev Xmo : List PA := [.one mI]
abbrev F278_O : RO := ⟨[.v], [mI]⟩
def Wo {β : Type} (RET : Int → Option β) (k : Nat) (v : Int) : Option β := cond (decide ((i64.wrap (16 - v)) < 0)) none (RET (i64.wrap (1 * 2 ^ (min (i64.wrap (16 - v)).toNat 64))))
def Y5 := Wo (β := Int) some
theorem Xs6 {β : Type} (k : Nat) (v : Int) (K : KT β) : Ag (Xx1 k) Tryz.f278 (PsT.put Xmo (v, ())) K = (Y5 k v).bind fun r => K (F278_O.put r) :=
 Eq.trans (b := Wo (fun r => K (F278_O.put r)) k v) (by kernel_rfl) (by simp only [Y5, Wo, z1, z2, z3, z4, z5, z6, z7, z8])
def Xbk (k : Nat) : FD := ⟨278, Xmo, F278_O, Y5 k⟩
theorem Xmw (k : Nat) : (Xbk k).Ok Tryz.prog := ⟨fun x => Aa (Aj .none _ _ _ _) Ah Tryz.func278 rfl rfl (Xs6 k _ some), .of (by kernel_rfl)⟩
abbrev Xxq (k : Nat) : Env := Ba (A0 [Fl k, Xbk k]) Ap .own [] k
abbrev Xpx : List PA := [.agg m_1]
abbrev F222_O : RO := ⟨[.v], [mB]⟩
def Ux {β : Type} (RET : Bool → Option β) (k : Nat) (v : (den B4)) : Option β := Gf v fun v0 v1 v2 v3 => (Ky k v1 0 16).bind fun b1 => cond b1 ((Ky k v0 0 65535).bind fun b2 => cond b2 ((Y5 k v1).bind fun b3 => cond (decide (b3 = 0)) none (cond ((v0.tmod b3) == 0) ((Ky k v2 0 65535).bind fun b4 => cond b4 ((Ky k v3 1 48).bind fun b5 => RET b5) (RET false)) (RET false))) (RET false)) (RET false)
def Z9 := Ux (β := Bool) some
theorem Xst {β : Type} (k : Nat) (v : (den B4)) (K : KT β) : Ag (Xxq k) Tryz.f222 (PsT.put Xpx (v, ())) K = (Z9 k v).bind fun r => K (F222_O.put r) :=
 Eq.trans (b := Ux (fun r => K (F222_O.put r)) k v) (by kernel_rfl) (by simp only [Z9, Ux, z1, z2, z3, z4, z5, z6, z7, z8, Gf])
def Xch (k : Nat) : FD := ⟨222, Xpx, F222_O, Z9 k⟩
theorem Xi8 (k : Nat) : (Xch k).Ok Tryz.prog := ⟨fun x => Aa (Aj (Ak (.c (F7 k) (.c (Xmw k) .n))) _ _ _ _) Ah Tryz.func222 rfl rfl (Xst k _ some), .of (by kernel_rfl)⟩
def X2r : Nat → Hint
 | 0 => ⟨pl 0 1 (pl 3 1 []), []⟩
 | _ => ⟨[], []⟩
abbrev Xm (k : Nat) : Env := Ba (A0 [Xch k]) X2r .own [] k
abbrev Xaq : List PA := [.one (.sl .ro B4)]
abbrev F202_O : RO := ⟨[.v], [mB]⟩
noncomputable def X2i {β : Type} (k : Nat) (v : Au) (K : KT β) : Ex → St → Option β := Bi (Xm k) Tryz.f202 (PsT.put Xaq (v, ())) K
def Xrt (v : Au) (x3_0 : Int) : St := ⟨(.one (.s .ro B4 v)) :: (.one .d) :: (.one .d) :: (.one (vI x3_0)) :: dz 59 [], []⟩
noncomputable def Nt {β : Type} (k : Nat) (v : Au) (K : KT β) (n : Nat) (x3_0 : Int) : Option β := A1 (Xm k) Tryz.f202 [1, 0, 1, 0] 0 (Ai (Xm k) [1, 0, 1, 0] (Al Tryz.f202) 0 (X2i k v K)) n (Xrt v x3_0)
def Jk {β : Type} (NX : Int → Option β) (RET : Bool → Option β) (k : Nat) (v : Au) (x3_0 : Int) : Option β := cond (decide (x3_0 < (v.length : Int))) (Az x3_0 v ((Z9 k (An v x3_0)).bind fun b1 => cond (!b1) (RET false) (cond (decide (x3_0 > 0)) (Az (i64.wrap (x3_0 - 1)) v (Az x3_0 v (cond (decide ((An v (i64.wrap (x3_0 - 1))).2.1 > (An v x3_0).2.1)) (RET false) (Az (i64.wrap (x3_0 - 1)) v (Az x3_0 v (cond ((An v (i64.wrap (x3_0 - 1))).2.1 == (An v x3_0).2.1) (Az (i64.wrap (x3_0 - 1)) v (Az x3_0 v (cond (decide ((An v (i64.wrap (x3_0 - 1))).1 ≥ (An v x3_0).1)) (RET false) (NX (i64.wrap (x3_0 + 1)))))) (NX (i64.wrap (x3_0 + 1))))))))) (NX (i64.wrap (x3_0 + 1)))))) (RET (decide ((v.length : Int) ≤ 8)))
def J5 (k : Nat) (v : Au) : Nat → Int → Option (Bool)
 | 0, _ => none
 | n + 1, x3_0 => Jk (J5 k v n) some k v x3_0
theorem Xcw {β : Type} (k : Nat) (v : Au) (K : KT β) (n : Nat) : ∀ (x3_0 : Int), Nt k v K n x3_0 =
  (J5 k v n x3_0).bind fun r => K (F202_O.put r) := by
 induction n with
 | zero => intros; rfl
 | succ n ih =>
  intro x3_0
  refine Eq.trans (b := Jk (Nt k v K n) (fun r => K (F202_O.put r)) k v x3_0) (by kernel_rfl) ?_
  rw [J5]
  simp only [Jk, z1, z2, z3, z4, z5, z6, z7, z8, ih]
def Xdu {β : Type} (LP0 : Int → Option β) (k : Nat) (v : Au) : Option β := LP0 0
def F202 (k : Nat) (v : Au) : Option (Bool) := Xdu (J5 k v k) k v
theorem Xr9 {β : Type} (k : Nat) (v : Au) (K : KT β) : Ag (Xm k) Tryz.f202 (PsT.put Xaq (v, ())) K = (F202 k v).bind fun r => K (F202_O.put r) :=
 Eq.trans (b := Xdu (Nt k v K k) k v) (by kernel_rfl) (by simp only [F202, Xdu, z1, z2, z3, z4, z5, z6, z7, z8, Xcw])
def Xao (k : Nat) : FD := ⟨202, Xaq, F202_O, F202 k⟩
theorem Xla (k : Nat) : (Xao k).Ok Tryz.prog := ⟨fun x => Aa (Aj (Ak (.c (Xi8 k) .n)) _ _ _ _) Ah Tryz.func202 rfl rfl (Xr9 k _ some), .of (by kernel_rfl)⟩
abbrev Xyq (k : Nat) : Env := Ba (A0 [Fl k, Xao k]) Ap .own [] k
abbrev Xj6 : List PA := [.agg (.pair mI (.sl .ro B4))]
abbrev F129_O : RO := ⟨[.v], [mB]⟩
def F129 (k : Nat) (v : (den sta)) : Option (Bool) := (Ky k v.1 0 65535).bind fun b1 => cond b1 ((F202 k v.2).bind fun b2 => some b2) (some false)
theorem Xqd {β : Type} (k : Nat) (v : (den sta)) (K : KT β) : Ag (Xyq k) Tryz.f129 (PsT.put Xj6 (v, ())) K = (F129 k v).bind fun r => K (F129_O.put r) :=
 Eq.trans (b := (Ky k v.1 0 65535).bind fun b1 => cond b1 ((F202 k v.2).bind fun b2 => K (F129_O.put b2)) (K (F129_O.put false))) (by kernel_rfl) (by simp only [F129, z1, z2, z3, z4, z5, z6, z7, z8])
def Xdo (k : Nat) : FD := ⟨129, Xj6, F129_O, F129 k⟩
theorem Xli (k : Nat) : (Xdo k).Ok Tryz.prog := ⟨fun x => Aa (Aj (Ak (.c (F7 k) (.c (Xla k) .n))) _ _ _ _) Ah Tryz.func129 rfl rfl (Xqd k _ some), .of (by kernel_rfl)⟩
def X5o : Nat → Hint
 | 0 => ⟨pl 0 1 (pl 3 1 []), []⟩
 | 2 => ⟨pl 0 1 (pl 3 2 []), []⟩
 | _ => ⟨[], []⟩
abbrev Ff (k : Nat) : Env := Ba (A0 [Xdo k]) X5o .own [] k
abbrev Xn7 : List PA := [.one (.sl .ro sta)]
abbrev F59_O : RO := ⟨[.v], [mB]⟩
noncomputable def Xff {β : Type} (k : Nat) (v : Ab) (K : KT β) : Ex → St → Option β := Bi (Ff k) Tryz.f59 (PsT.put Xn7 (v, ())) K
def X1j (v : Ab) (x3_2 x4_2 : Int) : St := ⟨(.one (.s .ro sta v)) :: (.one .d) :: (.one .d) :: (.one (vI x3_2)) :: (.one (vI x4_2)) :: dz 31 [], []⟩
noncomputable def Qv {β : Type} (k : Nat) (v : Ab) (KK : Ex → St → Option β) (n : Nat) (x3_2 x4_2 : Int) : Option β := A1 (Ff k) Tryz.f59 [1, 0, 1, 0, 0, 1, 0, 0, 1, 1, 0] 2 KK n (X1j v x3_2 x4_2)
def Ma {β : Type} (NX : Int → Int → Option β) (EX0 : (Int × Int) → Option β) (EX1 : (Int × Int) → Option β) (k : Nat) (v : Ab) (x3_2 x4_2 : Int) : Option β := cond (decide (x4_2 < x3_2)) (Az x4_2 v (Az x3_2 v (cond ((An v x4_2).1 == (An v x3_2).1) (EX0 (x3_2, x4_2)) (NX x3_2 (i64.wrap (x4_2 + 1)))))) (EX1 (x3_2, x4_2))
def Kr (k : Nat) (v : Ab) : Nat → Int → Int → Option ((Sum (Int × Int) (Int × Int)))
 | 0, _, _ => none
 | n + 1, x3_2, x4_2 => Ma (Kr k v n) (fun y2 => some (.inl y2)) (fun y2 => some (.inr y2)) k v x3_2 x4_2
theorem Xh7 {β : Type} (k : Nat) (v : Ab) (KK : Ex → St → Option β) (n : Nat) : ∀ (x3_2 x4_2 : Int), Qv k v KK n x3_2 x4_2 =
  (Kr k v n x3_2 x4_2).bind fun z => Yq (fun y2 => KK .ret ⟨(.one (.s .ro sta v)) :: (.one .d) :: (.one (vB false)) :: (.one (vI y2.1)) :: (.one (vI y2.2)) :: dz 12 ((.one (vI y2.2)) :: (.one (vI y2.1)) :: (.one (vB true)) :: (.one .d) :: (.one .d) :: (.one (.s .ro sta v)) :: (.one (vI y2.2)) :: (.one (.ptr (.elem 24000 y2.2.toNat 0) 2 0)) :: (.one (.ptr (.elem 24000 y2.2.toNat 0) 2 0)) :: (.one (vI (An v y2.2).1)) :: (.one (.s .ro sta v)) :: (.one (vI y2.1)) :: (.one (.ptr (.elem 29000 y2.1.toNat 0) 2 0)) :: (.one (.ptr (.elem 29000 y2.1.toNat 0) 2 0)) :: (.one (vI (An v y2.1).1)) :: (.one (vB true)) :: dz 3 []), [eM 24000 (.s .ro sta v), eM 29000 (.s .ro sta v)]⟩) (fun y2 => KK (.exit 2) ⟨(.one (.s .ro sta v)) :: (.one .d) :: (.one .d) :: (.one (vI y2.1)) :: (.one (vI y2.2)) :: dz 12 ((.one (vI y2.2)) :: (.one (vI y2.1)) :: (.one (vB false)) :: dz 16 []), []⟩) z := by
 induction n with
 | zero => intros; rfl
 | succ n ih =>
  intro x3_2 x4_2
  refine Eq.trans (b := Ma (Qv k v KK n) (fun y2 => KK .ret ⟨(.one (.s .ro sta v)) :: (.one .d) :: (.one (vB false)) :: (.one (vI y2.1)) :: (.one (vI y2.2)) :: dz 12 ((.one (vI y2.2)) :: (.one (vI y2.1)) :: (.one (vB true)) :: (.one .d) :: (.one .d) :: (.one (.s .ro sta v)) :: (.one (vI y2.2)) :: (.one (.ptr (.elem 24000 y2.2.toNat 0) 2 0)) :: (.one (.ptr (.elem 24000 y2.2.toNat 0) 2 0)) :: (.one (vI (An v y2.2).1)) :: (.one (.s .ro sta v)) :: (.one (vI y2.1)) :: (.one (.ptr (.elem 29000 y2.1.toNat 0) 2 0)) :: (.one (.ptr (.elem 29000 y2.1.toNat 0) 2 0)) :: (.one (vI (An v y2.1).1)) :: (.one (vB true)) :: dz 3 []), [eM 24000 (.s .ro sta v), eM 29000 (.s .ro sta v)]⟩) (fun y2 => KK (.exit 2) ⟨(.one (.s .ro sta v)) :: (.one .d) :: (.one .d) :: (.one (vI y2.1)) :: (.one (vI y2.2)) :: dz 12 ((.one (vI y2.2)) :: (.one (vI y2.1)) :: (.one (vB false)) :: dz 16 []), []⟩) k v x3_2 x4_2) (by kernel_rfl) ?_
  rw [Kr]
  simp only [Ma, z1, z2, z3, z4, z5, z6, z7, z8, ih]
def X1r (v : Ab) (x3_0 : Int) : St := ⟨(.one (.s .ro sta v)) :: (.one .d) :: (.one .d) :: (.one (vI x3_0)) :: dz 32 [], []⟩
noncomputable def Qd {β : Type} (k : Nat) (v : Ab) (K : KT β) (n : Nat) (x3_0 : Int) : Option β := A1 (Ff k) Tryz.f59 [1, 0, 1, 0] 0 (Ai (Ff k) [1, 0, 1, 0] (Al Tryz.f59) 0 (Xff k v K)) n (X1r v x3_0)
def K5 (k : Nat) (v : Ab) : Nat → Int → Option (Bool)
 | 0, _ => none
 | n + 1, x3_0 => cond (decide (x3_0 < (v.length : Int))) (Az x3_0 v ((F129 k (An v x3_0)).bind fun b1 => cond (!b1) (some false) ((Kr k v k x3_0 0).bind fun z2 => Yq (fun y2 => some false) (fun y2 => K5 k v n (i64.wrap (y2.1 + 1))) z2))) (some (decide ((v.length : Int) ≤ 5)))
theorem Z0 {β : Type} (k n : Nat) (v : Ab) (y2 : Int × Int) (K : KT β) :
  (Ai (Ff k) [1, 0, 0, 1, 1, 0] (B1 [1, 0, 1, 0, 0] (Al Tryz.f59)) 0 (Fv (Ff k) Tryz.f59 [1, 0, 1, 0] 0 (Ai (Ff k) [1, 0, 1, 0] (Al Tryz.f59) 0 (Xff k v K)) n)) .ret ⟨(.one (.s .ro sta v)) :: (.one .d) :: (.one (vB false)) :: (.one (vI y2.1)) :: (.one (vI y2.2)) :: dz 12 ((.one (vI y2.2)) :: (.one (vI y2.1)) :: (.one (vB true)) :: (.one .d) :: (.one .d) :: (.one (.s .ro sta v)) :: (.one (vI y2.2)) :: (.one (.ptr (.elem 24000 y2.2.toNat 0) 2 0)) :: (.one (.ptr (.elem 24000 y2.2.toNat 0) 2 0)) :: (.one (vI (An v y2.2).1)) :: (.one (.s .ro sta v)) :: (.one (vI y2.1)) :: (.one (.ptr (.elem 29000 y2.1.toNat 0) 2 0)) :: (.one (.ptr (.elem 29000 y2.1.toNat 0) 2 0)) :: (.one (vI (An v y2.1).1)) :: (.one (vB true)) :: dz 3 []), [eM 24000 (.s .ro sta v), eM 29000 (.s .ro sta v)]⟩ =
  K (F59_O.put false) := by kernel_rfl
theorem Y0 {β : Type} (k n : Nat) (v : Ab) (y2 : Int × Int) (K : KT β) :
  (Ai (Ff k) [1, 0, 0, 1, 1, 0] (B1 [1, 0, 1, 0, 0] (Al Tryz.f59)) 0 (Fv (Ff k) Tryz.f59 [1, 0, 1, 0] 0 (Ai (Ff k) [1, 0, 1, 0] (Al Tryz.f59) 0 (Xff k v K)) n)) (.exit 2) ⟨(.one (.s .ro sta v)) :: (.one .d) :: (.one .d) :: (.one (vI y2.1)) :: (.one (vI y2.2)) :: dz 12 ((.one (vI y2.2)) :: (.one (vI y2.1)) :: (.one (vB false)) :: dz 16 []), []⟩ =
  Qd k v K n (i64.wrap (y2.1 + 1)) := by kernel_rfl
theorem Xhp {β : Type} (k : Nat) (v : Ab) (K : KT β) (n : Nat) : ∀ (x3_0 : Int), Qd k v K n x3_0 =
  (K5 k v n x3_0).bind fun r => K (F59_O.put r) := by
 induction n with
 | zero => intros; rfl
 | succ n ih =>
  intro x3_0
  refine Eq.trans (b := cond (decide (x3_0 < (v.length : Int))) (Az x3_0 v ((F129 k (An v x3_0)).bind fun b1 => cond (!b1) (K (F59_O.put false)) (Qv k v (Ai (Ff k) [1, 0, 0, 1, 1, 0] (B1 [1, 0, 1, 0, 0] (Al Tryz.f59)) 0 (Fv (Ff k) Tryz.f59 [1, 0, 1, 0] 0 (Ai (Ff k) [1, 0, 1, 0] (Al Tryz.f59) 0 (Xff k v K)) n)) k x3_0 0))) (K (F59_O.put (decide ((v.length : Int) ≤ 5))))) (by kernel_rfl) ?_
  rw [K5]
  simp only [z1, z2, z3, z4, z5, z6, z7, z8, Xh7, Z0 k n v _ K, Y0 k n v _ K, ih, Az, B3]
def Xmf {β : Type} (LP0 : Int → Option β) (k : Nat) (v : Ab) : Option β := LP0 0
def F59 (k : Nat) (v : Ab) : Option (Bool) := Xmf (K5 k v k) k v
theorem X1l {β : Type} (k : Nat) (v : Ab) (K : KT β) : Ag (Ff k) Tryz.f59 (PsT.put Xn7 (v, ())) K = (F59 k v).bind fun r => K (F59_O.put r) :=
 Eq.trans (b := Xmf (Qd k v K k) k v) (by kernel_rfl) (by simp only [F59, Xmf, z1, z2, z3, z4, z5, z6, z7, z8, Xhp])
def Xmx (k : Nat) : FD := ⟨59, Xn7, F59_O, F59 k⟩
theorem Xu3 (k : Nat) : (Xmx k).Ok Tryz.prog := ⟨fun x => Aa (Aj (Ak (.c (Xli k) .n)) _ _ _ _) Ah Tryz.func59 rfl rfl (X1l k _ some), .of (by kernel_rfl)⟩
abbrev Xy2 (k : Nat) : Env := Ba (A0 [Fl k]) Ap .own [] k
abbrev Xm5 : List PA := [.agg (.pair mI C3)]
abbrev F130_O : RO := ⟨[.v], [mB]⟩
def W9 {β : Type} (RET : Bool → Option β) (k : Nat) (v : (den Ad)) : Option β := Ax v fun v0 v1 v2 v3 v4 v5 v6 v7 v8 => (Ky k v0 0 65535).bind fun b1 => cond (!b1) (RET false) ((Ky k v1 0 65535).bind fun b2 => cond (!b2) (RET false) ((Ky k v2 0 255).bind fun b3 => cond (!b3) (RET false) ((Ky k v3 0 255).bind fun b4 => cond (!b4) (RET false) ((Ky k v4 0 255).bind fun b5 => cond (!b5) (RET false) ((Ky k v5 0 255).bind fun b6 => cond (!b6) (RET false) (cond (decide ((v8.length : Int) ≤ 48)) (cond (!v6) (cond (!v7) (RET true) (cond (v5 == 0) (RET (!v6)) (RET false))) (cond (decide ((v8.length : Int) > 0)) (cond (!v7) (RET true) (cond (v5 == 0) (RET (!v6)) (RET false))) (RET false))) (RET false)))))))
def Hi := W9 (β := Bool) some
theorem Xrv {β : Type} (k : Nat) (v : (den Ad)) (K : KT β) : Ag (Xy2 k) Tryz.f130 (PsT.put Xm5 (v, ())) K = (Hi k v).bind fun r => K (F130_O.put r) :=
 Eq.trans (b := W9 (fun r => K (F130_O.put r)) k v) (by kernel_rfl) (by simp only [Hi, W9, z1, z2, z3, z4, z5, z6, z7, z8, Ax])
def Gs (k : Nat) : FD := ⟨130, Xm5, F130_O, Hi k⟩
theorem Ie (k : Nat) : (Gs k).Ok Tryz.prog := ⟨fun x => Aa (Aj (Ak (.c (F7 k) .n)) _ _ _ _) Ah Tryz.func130 rfl rfl (Xrv k _ some), .of (by kernel_rfl)⟩
abbrev X22 (k : Nat) : Env := Ba Bl Ap .own [] k
abbrev Xo3 : List PA := [.agg (.pair mI C3)]
abbrev F138_O : RO := ⟨[.a], [.pair mI m_7]⟩
def Ml (k : Nat) (v : (den Ad)) : Option ((den Ad)) := Ax v fun v0 v1 v2 v3 v4 v5 v6 v7 v8 => B3 (([] : Ac).length) (v8.length) 1 (some (v0, v1, v2, v3, v4, v5, v6, v7, [] ++ v8))
theorem Xqs {β : Type} (k : Nat) (v : (den Ad)) (K : KT β) : Ag (X22 k) Tryz.f138 (PsT.put Xo3 (v, ())) K = (Ml k v).bind fun r => K (F138_O.put r) :=
 Eq.trans (b := B3 (([] : Ac).length) (v.2.2.2.2.2.2.2.2.length) 1 (K (F138_O.put (v.1, v.2.1, v.2.2.1, v.2.2.2.1, v.2.2.2.2.1, v.2.2.2.2.2.1, v.2.2.2.2.2.2.1, v.2.2.2.2.2.2.2.1, [] ++ v.2.2.2.2.2.2.2.2)))) (by kernel_rfl) (by simp only [Ml, z1, z2, z3, z4, z5, z6, z7, z8, Ax])
def Qr (k : Nat) : FD := ⟨138, Xo3, F138_O, Ml k⟩
theorem Vr (k : Nat) : (Qr k).Ok Tryz.prog := ⟨fun x => Aa (Aj .none _ _ _ _) Ah Tryz.func138 rfl rfl (Xqs k _ some), .of (by kernel_rfl)⟩
def X1g : Nat → Hint
 | 0 => ⟨pl 0 1 ((5, .own .own (.int .u8) []) :: (pl 6 1 [])), []⟩
 | _ => ⟨[], []⟩
abbrev U2 (k : Nat) : Env := Ba (A0 [Fl k]) X1g .own [] k
abbrev Xas : List PA := [.one mI, .one mI]
abbrev F153_O : RO := ⟨[.v], [.sl .own (.int .u8)]⟩
noncomputable def Xy4 {β : Type} (k : Nat) (v w : Int) (K : KT β) : Ex → St → Option β := Bi (U2 k) Tryz.f153 (PsT.put Xas (v, w, ())) K
def Xsj (v w : Int) (x6_0 : Int) (m5900_0 : Ac) : St := ⟨(.one (vI v)) :: dz 4 ((.one (.a (.cell 5900) 0 0 none)) :: (.one (vI x6_0)) :: dz 30 []), [eM 5900 (.s .own (.int .u8) m5900_0)]⟩
noncomputable def Np {β : Type} (k : Nat) (v w : Int) (K : KT β) (n : Nat) (x6_0 : Int) (m5900_0 : Ac) : Option β := A1 (U2 k) Tryz.f153 [1, 1, 1, 0, 1, 0] 0 (Ai (U2 k) [1, 1, 1, 0, 1, 0] (Al Tryz.f153) 0 (Xy4 k v w K)) n (Xsj v w x6_0 m5900_0)
def Ee {β : Type} (NX : Int → Ac → Option β) (RET : Ac → Option β) (k : Nat) (v w : Int) (x6_0 : Int) (m5900_0 : Ac) : Option β := cond (decide (x6_0 ≥ 0)) (cond (decide ((i64.wrap (8 * x6_0)) < 0)) none (B3 (m5900_0.length) ([u8.wrap ((v.fdiv (2 ^ (min (i64.wrap (8 * x6_0)).toNat 64))).tmod 256)].length) 1 (NX (i64.wrap (x6_0 - 1)) (m5900_0 ++ [u8.wrap ((v.fdiv (2 ^ (min (i64.wrap (8 * x6_0)).toNat 64))).tmod 256)])))) (RET m5900_0)
def Fg (k : Nat) (v w : Int) : Nat → Int → Ac → Option (Ac)
 | 0, _, _ => none
 | n + 1, x6_0, m5900_0 => Ee (Fg k v w n) some k v w x6_0 m5900_0
theorem Xal {β : Type} (k : Nat) (v w : Int) (K : KT β) (n : Nat) : ∀ (x6_0 : Int) (m5900_0 : Ac), Np k v w K n x6_0 m5900_0 =
  (Fg k v w n x6_0 m5900_0).bind fun r => K (F153_O.put r) := by
 induction n with
 | zero => intros; rfl
 | succ n ih =>
  intro x6_0 m5900_0
  refine Eq.trans (b := Ee (Np k v w K n) (fun r => K (F153_O.put r)) k v w x6_0 m5900_0) (by kernel_rfl) ?_
  rw [Fg]
  simp only [Ee, z1, z2, z3, z4, z5, z6, z7, z8, ih]
def Uf {β : Type} (LP0 : Int → Ac → Option β) (RET : Ac → Option β) (k : Nat) (v w : Int) : Option β := (Ky k w 1 4).bind fun b1 => cond (!b1) (RET []) (cond (decide ((i64.wrap (8 * w)) < 0)) none ((Ky k v 0 (i64.wrap ((i64.wrap (1 * 2 ^ (min (i64.wrap (8 * w)).toNat 64))) - 1))).bind fun b2 => cond (!b2) (RET []) (LP0 (i64.wrap (w - 1)) [])))
def Uv (k : Nat) (v w : Int) : Option (Ac) := Uf (Fg k v w k) some k v w
theorem Xsr {β : Type} (k : Nat) (v w : Int) (K : KT β) : Ag (U2 k) Tryz.f153 (PsT.put Xas (v, w, ())) K = (Uv k v w).bind fun r => K (F153_O.put r) :=
 Eq.trans (b := Uf (Np k v w K k) (fun r => K (F153_O.put r)) k v w) (by kernel_rfl) (by simp only [Uv, Uf, z1, z2, z3, z4, z5, z6, z7, z8, Xal])
def Xy (k : Nat) : FD := ⟨153, Xas, F153_O, Uv k⟩
theorem Xdb (k : Nat) : (Xy k).Ok Tryz.prog := ⟨fun x => Aa (Aj (Ak (.c (F7 k) .n)) _ _ _ _) Ah Tryz.func153 rfl rfl (Xsr k _ _ some), .of (by kernel_rfl)⟩
abbrev Xy5 (k : Nat) : Env := Ba Bl Ap .own [] k
abbrev Xj8 : List PA := [.agg (.pair mI C3)]
abbrev F364_O : RO := ⟨[.v], [mI]⟩
def Xgz (k : Nat) (v : (den Ad)) : Option (Int) := cond v.2.2.2.2.2.2.1 (cond v.2.2.2.2.2.2.2.1 (some 3) (some 1)) (cond v.2.2.2.2.2.2.2.1 (some 2) (some 0))
theorem Xri {β : Type} (k : Nat) (v : (den Ad)) (K : KT β) : Ag (Xy5 k) Tryz.f364 (PsT.put Xj8 (v, ())) K = (Xgz k v).bind fun r => K (F364_O.put r) :=
 Eq.trans (b := cond v.2.2.2.2.2.2.1 (cond v.2.2.2.2.2.2.2.1 (K (F364_O.put 3)) (K (F364_O.put 1))) (cond v.2.2.2.2.2.2.2.1 (K (F364_O.put 2)) (K (F364_O.put 0)))) (by kernel_rfl) (by simp only [Xgz, z1, z2, z3, z4, z5, z6, z7, z8, Ax])
def Xm4 (k : Nat) : FD := ⟨364, Xj8, F364_O, Xgz k⟩
theorem Xyt (k : Nat) : (Xm4 k).Ok Tryz.prog := ⟨fun x => Aa (Aj .none _ _ _ _) Ah Tryz.func364 rfl rfl (Xri k _ some), .of (by kernel_rfl)⟩
abbrev Xza (k : Nat) : Env := Ba (A0 [Xy k, Xm4 k]) Ap .own [] k
abbrev Xpi : List PA := [.agg (.pair mI C3)]
abbrev F347_O : RO := ⟨[.v], [.sl .own (.int .u8)]⟩
def Vh {β : Type} (RET : Ac → Option β) (k : Nat) (v : (den Ad)) : Option β := Ax v fun v0 v1 v2 v3 v4 v5 _ _ v8 => (Uv k v0 2).bind fun b1 => (Uv k v1 2).bind fun b2 => B3 (b1.length) (b2.length) 1 ((Xgz k v).bind fun b3 => B3 ((b1 ++ b2).length) ([u8.wrap v2, u8.wrap v3, u8.wrap v4, u8.wrap v5, u8.wrap b3, u8.wrap (v8.length : Int)].length) 1 (RET ((b1 ++ b2) ++ [u8.wrap v2, u8.wrap v3, u8.wrap v4, u8.wrap v5, u8.wrap b3, u8.wrap (v8.length : Int)])))
def Xg5 := Vh (β := Ac) some
theorem Xrm {β : Type} (k : Nat) (v : (den Ad)) (K : KT β) : Ag (Xza k) Tryz.f347 (PsT.put Xpi (v, ())) K = (Xg5 k v).bind fun r => K (F347_O.put r) :=
 Eq.trans (b := Vh (fun r => K (F347_O.put r)) k v) (by kernel_rfl) (by simp only [Xg5, Vh, z1, z2, z3, z4, z5, z6, z7, z8, Ax])
def Xkg (k : Nat) : FD := ⟨347, Xpi, F347_O, Xg5 k⟩
theorem X0s (k : Nat) : (Xkg k).Ok Tryz.prog := ⟨fun x => Aa (Aj (Ak (.c (Xdb k) (.c (Xyt k) .n))) _ _ _ _) Ah Tryz.func347 rfl rfl (Xrm k _ some), .of (by kernel_rfl)⟩
def X1m : Nat → Hint
 | 0 => ⟨pl 0 1 (pl 3 2 []), []⟩
 | _ => ⟨[], []⟩
abbrev X1 (k : Nat) : Env := Ba Bl X1m .own [] k
abbrev Xbo : List PA := [.one (.sl .ro (.int .u8))]
abbrev F279_O : RO := ⟨[.v], [mI]⟩
noncomputable def X0l {β : Type} (k : Nat) (v : Ac) (K : KT β) : Ex → St → Option β := Bi (X1 k) Tryz.f279 (PsT.put Xbo (v, ())) K
def Xqj (v : Ac) (x3_0 x4_0 : Int) : St := ⟨(.one (.s .ro (.int .u8) v)) :: (.one .d) :: (.one .d) :: (.one (vI x3_0)) :: (.one (vI x4_0)) :: dz 29 [], []⟩
noncomputable def Nl {β : Type} (k : Nat) (v : Ac) (K : KT β) (n : Nat) (x3_0 x4_0 : Int) : Option β := A1 (X1 k) Tryz.f279 [1, 1, 0, 1, 0] 0 (Ai (X1 k) [1, 1, 0, 1, 0] (Al Tryz.f279) 0 (X0l k v K)) n (Xqj v x3_0 x4_0)
def Eh {β : Type} (NX : Int → Int → Option β) (RET : Int → Option β) (k : Nat) (v : Ac) (x3_0 x4_0 : Int) : Option β := cond (decide (x4_0 < (v.length : Int))) (cond ((x4_0.tmod 2) == 0) (Az x4_0 v (cond (decide ((i64.wrap (x3_0 + (i64.wrap ((i64.wrap (An v x4_0)) * 256)))) > 65535)) (NX (i64.wrap ((i64.wrap (x3_0 + (i64.wrap ((i64.wrap (An v x4_0)) * 256)))) - 65535)) (i64.wrap (x4_0 + 1))) (NX (i64.wrap (x3_0 + (i64.wrap ((i64.wrap (An v x4_0)) * 256)))) (i64.wrap (x4_0 + 1))))) (Az x4_0 v (cond (decide ((i64.wrap (x3_0 + (i64.wrap (An v x4_0)))) > 65535)) (NX (i64.wrap ((i64.wrap (x3_0 + (i64.wrap (An v x4_0)))) - 65535)) (i64.wrap (x4_0 + 1))) (NX (i64.wrap (x3_0 + (i64.wrap (An v x4_0)))) (i64.wrap (x4_0 + 1)))))) (RET x3_0)
def D6 (k : Nat) (v : Ac) : Nat → Int → Int → Option (Int)
 | 0, _, _ => none
 | n + 1, x3_0, x4_0 => Eh (D6 k v n) some k v x3_0 x4_0
theorem Xc2 {β : Type} (k : Nat) (v : Ac) (K : KT β) (n : Nat) : ∀ (x3_0 x4_0 : Int), Nl k v K n x3_0 x4_0 =
  (D6 k v n x3_0 x4_0).bind fun r => K (F279_O.put r) := by
 induction n with
 | zero => intros; rfl
 | succ n ih =>
  intro x3_0 x4_0
  refine Eq.trans (b := Eh (Nl k v K n) (fun r => K (F279_O.put r)) k v x3_0 x4_0) (by kernel_rfl) ?_
  rw [D6]
  simp only [Eh, z1, z2, z3, z4, z5, z6, z7, z8, ih]
def Vo {β : Type} (LP0 : Int → Int → Option β) (k : Nat) (v : Ac) : Option β := LP0 0 0
def Xij (k : Nat) (v : Ac) : Option (Int) := Vo (D6 k v k) k v
theorem Xr2 {β : Type} (k : Nat) (v : Ac) (K : KT β) : Ag (X1 k) Tryz.f279 (PsT.put Xbo (v, ())) K = (Xij k v).bind fun r => K (F279_O.put r) :=
 Eq.trans (b := Vo (Nl k v K k) k v) (by kernel_rfl) (by simp only [Xij, Vo, z1, z2, z3, z4, z5, z6, z7, z8, Xc2])
def Xoa (k : Nat) : FD := ⟨279, Xbo, F279_O, Xij k⟩
theorem X2q (k : Nat) : (Xoa k).Ok Tryz.prog := ⟨fun x => Aa (Aj .none _ _ _ _) Ah Tryz.func279 rfl rfl (Xr2 k _ some), .of (by kernel_rfl)⟩
abbrev Xyu (k : Nat) : Env := Ba (A0 [Xoa k]) Ap .own [] k
abbrev Xjk : List PA := [.one (.sl .ro (.int .u8))]
abbrev F224_O : RO := ⟨[.v], [mI]⟩
def Xiu (k : Nat) (v : Ac) : Option (Int) := (Xij k v).bind fun b1 => some (i64.wrap (65535 - b1))
theorem Xrk {β : Type} (k : Nat) (v : Ac) (K : KT β) : Ag (Xyu k) Tryz.f224 (PsT.put Xjk (v, ())) K = (Xiu k v).bind fun r => K (F224_O.put r) :=
 Eq.trans (b := (Xij k v).bind fun b1 => K (F224_O.put (i64.wrap (65535 - b1)))) (by kernel_rfl) (by simp only [Xiu, z1, z2, z3, z4, z5, z6, z7, z8])
def Xjb (k : Nat) : FD := ⟨224, Xjk, F224_O, Xiu k⟩
theorem Xzu (k : Nat) : (Xjb k).Ok Tryz.prog := ⟨fun x => Aa (Aj (Ak (.c (X2q k) .n)) _ _ _ _) Ah Tryz.func224 rfl rfl (Xrk k _ some), .of (by kernel_rfl)⟩
abbrev X0b (k : Nat) : Env := Ba (A0 [Gs k, Xkg k, Xjb k, Xy k]) Ap .own [] k
abbrev Xnj : List PA := [.agg (.pair mI C3)]
abbrev F323_O : RO := ⟨[.v], [.sl .own (.int .u8)]⟩
def Ul {β : Type} (RET : Ac → Option β) (k : Nat) (v : (den Ad)) : Option β := (Hi k v).bind fun b1 => cond (!b1) (RET []) ((Xg5 k v).bind fun b2 => (Xiu k b2).bind fun b3 => (Uv k b3 2).bind fun b4 => B3 (b2.length) (b4.length) 1 (B3 ((b2 ++ b4).length) (v.2.2.2.2.2.2.2.2.length) 1 (RET ((b2 ++ b4) ++ v.2.2.2.2.2.2.2.2))))
def Xh4 := Ul (β := Ac) some
theorem Xt0 {β : Type} (k : Nat) (v : (den Ad)) (K : KT β) : Ag (X0b k) Tryz.f323 (PsT.put Xnj (v, ())) K = (Xh4 k v).bind fun r => K (F323_O.put r) :=
 Eq.trans (b := Ul (fun r => K (F323_O.put r)) k v) (by kernel_rfl) (by simp only [Xh4, Ul, z1, z2, z3, z4, z5, z6, z7, z8, Ax])
def Xjp (k : Nat) : FD := ⟨323, Xnj, F323_O, Xh4 k⟩
theorem Xzm (k : Nat) : (Xjp k).Ok Tryz.prog := ⟨fun x => Aa (Aj (Ak (.c (Ie k) (.c (X0s k) (.c (Xzu k) (.c (Xdb k) .n))))) _ _ _ _) Ah Tryz.func323 rfl rfl (Xt0 k _ some), .of (by kernel_rfl)⟩
abbrev X0d (k : Nat) : Env := Ba (A0 [Fl k]) Ap .own [] k
abbrev Xpl : List PA := [.agg (.pair mI m_8)]
abbrev F348_O : RO := ⟨[.v], [mB]⟩
def Vl {β : Type} (RET : Bool → Option β) (k : Nat) (v : (Int × (Int × Ac))) : Option β := (Ky k v.1 1 6).bind fun b1 => cond b1 ((Ky k v.2.1 0 65535).bind fun b2 => cond b2 (RET (decide ((v.2.2.length : Int) ≤ 20))) (RET false)) (RET false)
def Xaj := Vl (β := Bool) some
theorem Xqn {β : Type} (k : Nat) (v : (Int × (Int × Ac))) (K : KT β) : Ag (X0d k) Tryz.f348 (PsT.put Xpl (v, ())) K = (Xaj k v).bind fun r => K (F348_O.put r) :=
 Eq.trans (b := Vl (fun r => K (F348_O.put r)) k v) (by kernel_rfl) (by simp only [Xaj, Vl, z1, z2, z3, z4, z5, z6, z7, z8])
def Xb5 (k : Nat) : FD := ⟨348, Xpl, F348_O, Xaj k⟩
theorem Xkn (k : Nat) : (Xb5 k).Ok Tryz.prog := ⟨fun x => Aa (Aj (Ak (.c (F7 k) .n)) _ _ _ _) Ah Tryz.func348 rfl rfl (Xqn k _ some), .of (by kernel_rfl)⟩
abbrev Xzy (k : Nat) : Env := Ba (A0 [Xb5 k, Xy k]) Ap .own [] k
abbrev Xji : List PA := [.agg (.pair mI m_8)]
abbrev F324_O : RO := ⟨[.v], [.sl .own (.int .u8)]⟩
def Ur {β : Type} (RET : Ac → Option β) (k : Nat) (v : (Int × (Int × Ac))) : Option β := u_2 v fun v0 v1 v2 => (Xaj k v).bind fun b1 => cond (!b1) (RET []) ((Uv k v1 2).bind fun b2 => B3 ([u8.wrap v0].length) (b2.length) 1 (B3 (([u8.wrap v0] ++ b2).length) ([u8.wrap (v2.length : Int)].length) 1 (B3 ((([u8.wrap v0] ++ b2) ++ [u8.wrap (v2.length : Int)]).length) (v2.length) 1 (RET ((([u8.wrap v0] ++ b2) ++ [u8.wrap (v2.length : Int)]) ++ v2)))))
def Xh3 := Ur (β := Ac) some
theorem Xty {β : Type} (k : Nat) (v : (Int × (Int × Ac))) (K : KT β) : Ag (Xzy k) Tryz.f324 (PsT.put Xji (v, ())) K = (Xh3 k v).bind fun r => K (F324_O.put r) :=
 Eq.trans (b := Ur (fun r => K (F324_O.put r)) k v) (by kernel_rfl) (by simp only [Xh3, Ur, z1, z2, z3, z4, z5, z6, z7, z8, u_2])
def Xoc (k : Nat) : FD := ⟨324, Xji, F324_O, Xh3 k⟩
theorem X0a (k : Nat) : (Xoc k).Ok Tryz.prog := ⟨fun x => Aa (Aj (Ak (.c (Xkn k) (.c (Xdb k) .n))) _ _ _ _) Ah Tryz.func324 rfl rfl (Xty k _ some), .of (by kernel_rfl)⟩
def Xzb : Nat → Hint
 | 0 => ⟨pl 0 3 (pl 7 2 []), []⟩
 | _ => ⟨[], []⟩
abbrev Vb (k : Nat) : Env := Ba (A0 [Fl k]) Xzb .own [] k
abbrev Xag : List PA := [.one (.sl .ro (.int .u8)), .one mI, .one mI]
abbrev F225_O : RO := ⟨[.v], [mI]⟩
noncomputable def X3g {β : Type} (k : Nat) (v : Ac) (w p : Int) (K : KT β) : Ex → St → Option β := Bi (Vb k) Tryz.f225 (PsT.put Xag (v, w, p, ())) K
def Xs7 (v : Ac) (w p : Int) (x7_0 x8_0 : Int) : St := ⟨(.one (.s .ro (.int .u8) v)) :: (.one (vI w)) :: (.one (vI p)) :: dz 4 ((.one (vI x7_0)) :: (.one (vI x8_0)) :: dz 28 []), []⟩
noncomputable def Nz {β : Type} (k : Nat) (v : Ac) (w p : Int) (K : KT β) (n : Nat) (x7_0 x8_0 : Int) : Option β := A1 (Vb k) Tryz.f225 [1, 1, 1, 0, 1, 0] 0 (Ai (Vb k) [1, 1, 1, 0, 1, 0] (Al Tryz.f225) 0 (X3g k v w p K)) n (Xs7 v w p x7_0 x8_0)
def Ea {β : Type} (NX : Int → Int → Option β) (RET : Int → Option β) (k : Nat) (v : Ac) (w p : Int) (x7_0 x8_0 : Int) : Option β := cond (decide (x8_0 < p)) (Az (i64.wrap (w + x8_0)) v (NX (i64.wrap ((i64.wrap (x7_0 * 256)) + (i64.wrap (An v (i64.wrap (w + x8_0)))))) (i64.wrap (x8_0 + 1)))) (RET x7_0)
def Fj (k : Nat) (v : Ac) (w p : Int) : Nat → Int → Int → Option (Int)
 | 0, _, _ => none
 | n + 1, x7_0, x8_0 => Ea (Fj k v w p n) some k v w p x7_0 x8_0
theorem Xdf {β : Type} (k : Nat) (v : Ac) (w p : Int) (K : KT β) (n : Nat) : ∀ (x7_0 x8_0 : Int), Nz k v w p K n x7_0 x8_0 =
  (Fj k v w p n x7_0 x8_0).bind fun r => K (F225_O.put r) := by
 induction n with
 | zero => intros; rfl
 | succ n ih =>
  intro x7_0 x8_0
  refine Eq.trans (b := Ea (Nz k v w p K n) (fun r => K (F225_O.put r)) k v w p x7_0 x8_0) (by kernel_rfl) ?_
  rw [Fj]
  simp only [Ea, z1, z2, z3, z4, z5, z6, z7, z8, ih]
def Xa {β : Type} (LP0 : Int → Int → Option β) (RET : Int → Option β) (k : Nat) (v : Ac) (w p : Int) : Option β := (Ky k p 1 4).bind fun b1 => cond (!b1) (RET (-1)) ((Ky k w 0 (i64.wrap ((v.length : Int) - p))).bind fun b2 => cond (!b2) (RET (-1)) (LP0 0 0))
def Xgg (k : Nat) (v : Ac) (w p : Int) : Option (Int) := Xa (Fj k v w p k) some k v w p
theorem Xtr {β : Type} (k : Nat) (v : Ac) (w p : Int) (K : KT β) : Ag (Vb k) Tryz.f225 (PsT.put Xag (v, w, p, ())) K = (Xgg k v w p).bind fun r => K (F225_O.put r) :=
 Eq.trans (b := Xa (Nz k v w p K k) (fun r => K (F225_O.put r)) k v w p) (by kernel_rfl) (by simp only [Xgg, Xa, z1, z2, z3, z4, z5, z6, z7, z8, Xdf])
def Xpw (k : Nat) : FD := ⟨225, Xag, F225_O, Xgg k⟩
theorem Xxj (k : Nat) : (Xpw k).Ok Tryz.prog := ⟨fun x => Aa (Aj (Ak (.c (F7 k) .n)) _ _ _ _) Ah Tryz.func225 rfl rfl (Xtr k _ _ _ some), .of (by kernel_rfl)⟩
end
end Go.Proofs.YtdmepjjepogddaaGreat.Gn
end

section
set_option linter.unusedVariables false
set_option linter.unusedSimpArgs false
namespace Go.Proofs.YtdmepjjepogddaaGreat.Gn
open Go.Rf IntKind
noncomputable section
abbrev Xze (k : Nat) : Env := Ba (A0 [Xpw k, Xb5 k]) Ap .own [] k
abbrev Xl7 : Type := (Int × (Int × Ac)) × Bool
abbrev Xpf : List PA := [.one (.sl .ro (.int .u8))]
abbrev F349_O : RO := ⟨[.a, .v], [.pair mI m_9, mB]⟩
def Uw {β : Type} (RET : Xl7 → Option β) (k : Nat) (v : Ac) : Option β := cond (decide ((v.length : Int) < 4)) (RET ((0, 0, []), false)) (cond (decide (0 < (v.length : Int))) ((Xgg k v 1 2).bind fun b1 => cond (decide (0 ≤ 4) && decide (4 ≤ (v.length : Int))) (B3 (([] : Ac).length) ((v.drop 4).length) 1 ((Xaj k (i64.wrap (An v 0), b1, [] ++ (v.drop 4))).bind fun b2 => cond (!b2) (RET ((0, 0, []), false)) (cond (decide (3 < (v.length : Int))) (cond ((i64.wrap (An v 3)) != (([] ++ (v.drop 4)).length : Int)) (RET ((0, 0, []), false)) (RET ((i64.wrap (An v 0), b1, [] ++ (v.drop 4)), true))) none))) none) none)
def Xiy := Uw (β := Xl7) some
theorem Xqh {β : Type} (k : Nat) (v : Ac) (K : KT β) : Ag (Xze k) Tryz.f349 (PsT.put Xpf (v, ())) K = (Xiy k v).bind fun r => K (F349_O.put r) :=
 Eq.trans (b := Uw (fun r => K (F349_O.put r)) k v) (by kernel_rfl) (by simp only [Xiy, Uw, z1, z2, z3, z4, z5, z6, z7, z8])
def Xma (k : Nat) : FD := ⟨349, Xpf, F349_O, Xiy k⟩
theorem X27 (k : Nat) : (Xma k).Ok Tryz.prog := ⟨fun x => Aa (Aj (Ak (.c (Xxj k) (.c (Xkn k) .n))) _ _ _ _) Ah Tryz.func349 rfl rfl (Xqh k _ some), .of (by kernel_rfl)⟩
abbrev X0i (k : Nat) : Env := Ba (A0 [Xma k]) Ap .own [] k
abbrev Xjl : List PA := [.agg (.pair mI C3)]
abbrev F325_O : RO := ⟨[.v], [mB]⟩
def Uu {β : Type} (RET : Bool → Option β) (k : Nat) (v : (den Ad)) : Option β := (Xiy k v.2.2.2.2.2.2.2.2).bind fun b1 => cond b1.2 (cond (v.2.2.1 == 1) (RET (decide (b1.1.1 ≥ 3))) (RET false)) (RET false)
def Xgk := Uu (β := Bool) some
theorem Xse {β : Type} (k : Nat) (v : (den Ad)) (K : KT β) : Ag (X0i k) Tryz.f325 (PsT.put Xjl (v, ())) K = (Xgk k v).bind fun r => K (F325_O.put r) :=
 Eq.trans (b := Uu (fun r => K (F325_O.put r)) k v) (by kernel_rfl) (by simp only [Xgk, Uu, z1, z2, z3, z4, z5, z6, z7, z8, Ax])
def Xmc (k : Nat) : FD := ⟨325, Xjl, F325_O, Xgk k⟩
theorem Xxg (k : Nat) : (Xmc k).Ok Tryz.prog := ⟨fun x => Aa (Aj (Ak (.c (X27 k) .n)) _ _ _ _) Ah Tryz.func325 rfl rfl (Xse k _ some), .of (by kernel_rfl)⟩
abbrev X1p (k : Nat) : Env := Ba (A0 [Xjp k, Xoc k, Gs k, Fl k, Xmc k]) Ap .own [] k
abbrev Xks : List PA := [.agg (.pair mI C3), .one mI, .one mI, .one mI]
abbrev F262_O : RO := ⟨[.a, .v], [.pair mI m_7, mB]⟩
def Wi {β : Type} (RET : (den Ad) × Bool → Option β) (k : Nat) (v : (den Ad)) (w p q : Int) : Option β := (Xh4 k v).bind fun b1 => cond (decide (0 ≤ (if 20 < (b1.length : Int) then 20 else (b1.length : Int))) && decide ((if 20 < (b1.length : Int) then 20 else (b1.length : Int)) ≤ (b1.length : Int))) ((Xh3 k (p, q, (b1.take ((if 20 < (b1.length : Int) then 20 else (b1.length : Int)).toNat)).drop 0)).bind fun b2 => (Hi k v).bind fun b3 => cond (!b3) (RET ((0, 0, 0, 0, 0, 0, false, false, []), false)) ((Ky k w 0 65535).bind fun b4 => cond (!b4) (RET ((0, 0, 0, 0, 0, 0, false, false, []), false)) ((Ky k p 3 6).bind fun b5 => cond (!b5) (RET ((0, 0, 0, 0, 0, 0, false, false, []), false)) (cond ((b2.length : Int) == 0) (RET ((0, 0, 0, 0, 0, 0, false, false, []), false)) ((Xgk k v).bind fun b6 => cond b6 (RET ((0, 0, 0, 0, 0, 0, false, false, []), false)) (cond (decide (v.2.2.2.2.2.1 > 0)) (RET ((0, 0, 0, 0, 0, 0, false, false, []), false)) (RET ((w, v.1, 1, 64, v.2.2.2.2.1, 0, false, false, b2), true)))))))) none
def Zd := Wi (β := (den Ad) × Bool) some
theorem Xt5 {β : Type} (k : Nat) (v : (den Ad)) (w p q : Int) (K : KT β) : Ag (X1p k) Tryz.f262 (PsT.put Xks (v, w, p, q, ())) K = (Zd k v w p q).bind fun r => K (F262_O.put r) :=
 Eq.trans (b := Wi (fun r => K (F262_O.put r)) k v w p q) (by kernel_rfl) (by simp only [Zd, Wi, z1, z2, z3, z4, z5, z6, z7, z8, Ax])
def Xov (k : Nat) : FD := ⟨262, Xks, F262_O, Zd k⟩
theorem Xx5 (k : Nat) : (Xov k).Ok Tryz.prog := ⟨fun x => Aa (Aj (Ak (.c (Xzm k) (.c (X0a k) (.c (Ie k) (.c (F7 k) (.c (Xxg k) .n)))))) _ _ _ _) Ah Tryz.func262 rfl rfl (Xt5 k _ _ _ _ some), .of (by kernel_rfl)⟩
abbrev X1f (k : Nat) : Env := Ba (A0 [Xov k]) Ap .own [] k
abbrev Xjd : List PA := [.agg (.pair mI (.sl .ro B4)), .agg (.pair mI C3), .one mI, .one mI]
abbrev F203_O : RO := ⟨[.a], [Xn8]⟩
def Zq (k : Nat) (v : (den sta)) (w : (den Ad)) (p q : Int) : Option ((den Pr)) := (Zd k w v.1 p q).bind fun b1 => cond (!b1.2) (some (0, 0, [])) (some (3, 0, [b1.1]))
theorem Xuh {β : Type} (k : Nat) (v : (den sta)) (w : (den Ad)) (p q : Int) (K : KT β) : Ag (X1f k) Tryz.f203 (PsT.put Xjd (v, w, p, q, ())) K = (Zq k v w p q).bind fun r => K (F203_O.put r) :=
 Eq.trans (b := (Zd k w v.1 p q).bind fun b1 => cond (!b1.2) (K (F203_O.put (0, 0, []))) (K (F203_O.put (3, 0, [b1.1])))) (by kernel_rfl) (by simp only [Zq, z1, z2, z3, z4, z5, z6, z7, z8, Ax])
def Xo6 (k : Nat) : FD := ⟨203, Xjd, F203_O, Zq k⟩
theorem X1z (k : Nat) : (Xo6 k).Ok Tryz.prog := ⟨fun x => Aa (Aj (Ak (.c (Xx5 k) .n)) _ _ _ _) Ah Tryz.func203 rfl rfl (Xuh k _ _ _ _ some), .of (by kernel_rfl)⟩
abbrev Xyn (k : Nat) : Env := Ba (A0 [Xch k, Fl k, Xbk k]) Ap .own [] k
abbrev Xqa : List PA := [.agg m_1, .one mI]
abbrev F263_O : RO := ⟨[.v], [mB]⟩
def Ud {β : Type} (RET : Bool → Option β) (k : Nat) (v : (den B4)) (w : Int) : Option β := (Z9 k v).bind fun b1 => cond b1 ((Ky k w 0 65535).bind fun b2 => cond b2 ((Y5 k v.2.1).bind fun b3 => cond (decide (b3 = 0)) none ((Y5 k v.2.1).bind fun b4 => cond (decide (b4 = 0)) none (RET ((i64.wrap (w.tdiv b3)) == (i64.wrap (v.1.tdiv b4)))))) (RET false)) (RET false)
def Xh6 := Ud (β := Bool) some
theorem Xta {β : Type} (k : Nat) (v : (den B4)) (w : Int) (K : KT β) : Ag (Xyn k) Tryz.f263 (PsT.put Xqa (v, w, ())) K = (Xh6 k v w).bind fun r => K (F263_O.put r) :=
 Eq.trans (b := Ud (fun r => K (F263_O.put r)) k v w) (by kernel_rfl) (by simp only [Xh6, Ud, z1, z2, z3, z4, z5, z6, z7, z8, Gf])
def Xkz (k : Nat) : FD := ⟨263, Xqa, F263_O, Xh6 k⟩
theorem Xzn (k : Nat) : (Xkz k).Ok Tryz.prog := ⟨fun x => Aa (Aj (Ak (.c (Xi8 k) (.c (F7 k) (.c (Xmw k) .n)))) _ _ _ _) Ah Tryz.func263 rfl rfl (Xta k _ _ some), .of (by kernel_rfl)⟩
def X1c : Nat → Hint
 | 0 => ⟨pl 0 2 (pl 4 1 (pl 6 1 [])), pl 4000 4 []⟩
 | _ => ⟨[], []⟩
abbrev Vw (k : Nat) : Env := Ba (A0 [Xao k, Xkz k]) X1c .own [] k
abbrev Xai : List PA := [.one (.sl .ro B4), .one mI]
abbrev F204_O : RO := ⟨[.a, .v], [m_1, mB]⟩
noncomputable def X1u {β : Type} (k : Nat) (v : Au) (w : Int) (K : KT β) : Ex → St → Option β := Bi (Vw k) Tryz.f204 (PsT.put Xai (v, w, ())) K
def Xq5 (v : Au) (w : Int) (x6_0 : Int) : St := ⟨(.one (.s .ro B4 v)) :: (.one (vI w)) :: (.one .d) :: (.one .d) :: (.one (.ptr (.cell 4000) 4 0)) :: (.one .d) :: (.one (vI x6_0)) :: dz 22 [], Bd 4000 (Cx m_1 (0, 0, 0, 0)) []⟩
noncomputable def Nq {β : Type} (k : Nat) (v : Au) (w : Int) (K : KT β) (n : Nat) (x6_0 : Int) : Option β := A1 (Vw k) Tryz.f204 [1, 0, 1, 0] 0 (Ai (Vw k) [1, 0, 1, 0] (Al Tryz.f204) 0 (X1u k v w K)) n (Xq5 v w x6_0)
def Gj {β : Type} (NX : Int → Option β) (RET : (den B4) × Bool → Option β) (k : Nat) (v : Au) (w : Int) (x6_0 : Int) : Option β := cond (decide (x6_0 ≥ 0)) ((F202 k v).bind fun b1 => cond b1 (Az x6_0 v ((Xh6 k (An v x6_0) w).bind fun b2 => cond b2 (Az x6_0 v (RET ((An v x6_0), true))) (NX (i64.wrap (x6_0 - 1))))) (RET ((0, 0, 0, 0), false))) (RET ((0, 0, 0, 0), false))
def Hm (k : Nat) (v : Au) (w : Int) : Nat → Int → Option ((den B4) × Bool)
 | 0, _ => none
 | n + 1, x6_0 => Gj (Hm k v w n) some k v w x6_0
theorem Xb4 {β : Type} (k : Nat) (v : Au) (w : Int) (K : KT β) (n : Nat) : ∀ (x6_0 : Int), Nq k v w K n x6_0 =
  (Hm k v w n x6_0).bind fun r => K (F204_O.put r) := by
 induction n with
 | zero => intros; rfl
 | succ n ih =>
  intro x6_0
  refine Eq.trans (b := Gj (Nq k v w K n) (fun r => K (F204_O.put r)) k v w x6_0) (by kernel_rfl) ?_
  rw [Hm]
  simp only [Gj, z1, z2, z3, z4, z5, z6, z7, z8, ih]
def U5 {β : Type} (LP0 : Int → Option β) (k : Nat) (v : Au) (w : Int) : Option β := LP0 (i64.wrap ((v.length : Int) - 1))
def Xhw (k : Nat) (v : Au) (w : Int) : Option ((den B4) × Bool) := U5 (Hm k v w k) k v w
theorem Xrx {β : Type} (k : Nat) (v : Au) (w : Int) (K : KT β) : Ag (Vw k) Tryz.f204 (PsT.put Xai (v, w, ())) K = (Xhw k v w).bind fun r => K (F204_O.put r) :=
 Eq.trans (b := U5 (Nq k v w K k) k v w) (by kernel_rfl) (by simp only [Xhw, U5, z1, z2, z3, z4, z5, z6, z7, z8, Xb4])
def Xk3 (k : Nat) : FD := ⟨204, Xai, F204_O, Xhw k⟩
theorem X10 (k : Nat) : (Xk3 k).Ok Tryz.prog := ⟨fun x => Aa (Aj (Ak (.c (Xla k) (.c (Xzn k) .n))) _ _ _ _) Ah Tryz.func204 rfl rfl (Xrx k _ _ some), .of (by kernel_rfl)⟩
def Xwh : Nat → Hint
 | 0 => ⟨pl 1 2 ((6, .own .own Ad []) :: (pl 7 1 [])), pl 2000 9 []⟩
 | _ => ⟨[], []⟩
abbrev W8 (k : Nat) : Env := Ba (A0 [Gs k, Fl k]) Xwh .own [] k
abbrev Xbu : List PA := [.agg (.pair mI C3), .one mI]
abbrev F205_O : RO := ⟨[.v, .v], [.sl .own Ad, mB]⟩
noncomputable def Xw6 {β : Type} (k : Nat) (v : (den Ad)) (w : Int) (K : KT β) : Ex → St → Option β := Bi (W8 k) Tryz.f205 (PsT.put Xbu (v, w, ())) K
def Xr4 (v : (den Ad)) (w : Int) (x7_0 : Int) (m6900_0 : Am) : St := ⟨(.one .d) :: (.one (vI w)) :: (.one (.ptr (.cell 2000) 9 0)) :: dz 3 ((.one (.a (.cell 6900) 0 0 none)) :: (.one (vI x7_0)) :: dz 75 []), Bd 2000 (Cx (.pair mI C3) v) [eM 6900 (.s .own Ad m6900_0)]⟩
noncomputable def Oz {β : Type} (k : Nat) (v : (den Ad)) (w : Int) (K : KT β) (n : Nat) (x7_0 : Int) (m6900_0 : Am) : Option β := A1 (W8 k) Tryz.f205 [1, 1, 1, 0, 1, 0] 0 (Ai (W8 k) [1, 1, 1, 0, 1, 0] (Al Tryz.f205) 0 (Xw6 k v w K)) n (Xr4 v w x7_0 m6900_0)
def Eu {β : Type} (k : Nat) (v : (den Ad)) (w : Int) (NX : Int → Am → Option β) (RET : (Am × Bool) → Option β) (x7_0 : Int) (m6900_0 : Am) : Option β := Ax v fun v0 v1 v2 v3 v4 v5 v6 v7 v8 => cond v6 (cond (decide (0 ≤ (if (v8.length : Int) < (i64.wrap (x7_0 + w)) then (v8.length : Int) else i64.wrap (x7_0 + w))) && decide ((if (v8.length : Int) < (i64.wrap (x7_0 + w)) then (v8.length : Int) else i64.wrap (x7_0 + w)) ≤ (v8.length : Int))) (cond (decide (0 ≤ x7_0) && decide (x7_0 ≤ (if (v8.length : Int) < (i64.wrap (x7_0 + w)) then (v8.length : Int) else i64.wrap (x7_0 + w)))) (B3 (([] : Ac).length) (((v8.take ((if (v8.length : Int) < (i64.wrap (x7_0 + w)) then (v8.length : Int) else i64.wrap (x7_0 + w)).toNat)).drop x7_0.toNat).length) 1 (cond (decide ((i64.wrap (v5 + x7_0)) > 255)) (RET ([], false)) (B3 (m6900_0.length) ([(v0, v1, v2, v3, v4, i64.wrap (v5 + x7_0), true, v7, [] ++ ((v8.take ((if (v8.length : Int) < (i64.wrap (x7_0 + w)) then (v8.length : Int) else i64.wrap (x7_0 + w)).toNat)).drop x7_0.toNat))].length) 80 (NX (i64.wrap (x7_0 + w)) (m6900_0 ++ [(v0, v1, v2, v3, v4, i64.wrap (v5 + x7_0), true, v7, [] ++ ((v8.take ((if (v8.length : Int) < (i64.wrap (x7_0 + w)) then (v8.length : Int) else i64.wrap (x7_0 + w)).toNat)).drop x7_0.toNat))]))))) none) none) (cond (decide (0 ≤ (if (v8.length : Int) < (i64.wrap (x7_0 + w)) then (v8.length : Int) else i64.wrap (x7_0 + w))) && decide ((if (v8.length : Int) < (i64.wrap (x7_0 + w)) then (v8.length : Int) else i64.wrap (x7_0 + w)) ≤ (v8.length : Int))) (cond (decide (0 ≤ x7_0) && decide (x7_0 ≤ (if (v8.length : Int) < (i64.wrap (x7_0 + w)) then (v8.length : Int) else i64.wrap (x7_0 + w)))) (B3 (([] : Ac).length) (((v8.take ((if (v8.length : Int) < (i64.wrap (x7_0 + w)) then (v8.length : Int) else i64.wrap (x7_0 + w)).toNat)).drop x7_0.toNat).length) 1 (cond (decide ((i64.wrap (v5 + x7_0)) > 255)) (RET ([], false)) (B3 (m6900_0.length) ([(v0, v1, v2, v3, v4, i64.wrap (v5 + x7_0), decide ((if (v8.length : Int) < (i64.wrap (x7_0 + w)) then (v8.length : Int) else i64.wrap (x7_0 + w)) < (v8.length : Int)), v7, [] ++ ((v8.take ((if (v8.length : Int) < (i64.wrap (x7_0 + w)) then (v8.length : Int) else i64.wrap (x7_0 + w)).toNat)).drop x7_0.toNat))].length) 80 (NX (i64.wrap (x7_0 + w)) (m6900_0 ++ [(v0, v1, v2, v3, v4, i64.wrap (v5 + x7_0), decide ((if (v8.length : Int) < (i64.wrap (x7_0 + w)) then (v8.length : Int) else i64.wrap (x7_0 + w)) < (v8.length : Int)), v7, [] ++ ((v8.take ((if (v8.length : Int) < (i64.wrap (x7_0 + w)) then (v8.length : Int) else i64.wrap (x7_0 + w)).toNat)).drop x7_0.toNat))]))))) none) none)
def F2 {β : Type} (NX : Int → Am → Option β) (RET : (Am × Bool) → Option β) (k : Nat) (v : (den Ad)) (w : Int) (x7_0 : Int) (m6900_0 : Am) : Option β := cond (x7_0 == 0) (Eu k v w NX RET x7_0 m6900_0) (cond (decide (x7_0 < (v.2.2.2.2.2.2.2.2.length : Int))) (Eu k v w NX RET x7_0 m6900_0) (RET (m6900_0, true)))
def D4 (k : Nat) (v : (den Ad)) (w : Int) : Nat → Int → Am → Option (Am × Bool)
 | 0, _, _ => none
 | n + 1, x7_0, m6900_0 => F2 (D4 k v w n) some k v w x7_0 m6900_0
theorem Xcx {β : Type} (k : Nat) (v : (den Ad)) (w : Int) (K : KT β) (n : Nat) : ∀ (x7_0 : Int) (m6900_0 : Am), Oz k v w K n x7_0 m6900_0 =
  (D4 k v w n x7_0 m6900_0).bind fun r => K (F205_O.put r) := by
 induction n with
 | zero => intros; rfl
 | succ n ih =>
  intro x7_0 m6900_0
  refine Eq.trans (b := F2 (Oz k v w K n) (fun r => K (F205_O.put r)) k v w x7_0 m6900_0) (by kernel_rfl) ?_
  rw [D4]
  simp only [F2, Eu, z1, z2, z3, z4, z5, z6, z7, z8, Ax, ih]
def Wv {β : Type} (LP0 : Int → Am → Option β) (RET : (Am × Bool) → Option β) (k : Nat) (v : (den Ad)) (w : Int) : Option β := (Hi k v).bind fun b1 => cond (!b1) (RET ([], false)) ((Ky k w 1 48).bind fun b2 => cond (!b2) (RET ([], false)) (cond (decide ((v.2.2.2.2.2.2.2.2.length : Int) > w)) (cond v.2.2.2.2.2.2.2.1 (RET ([], false)) (LP0 0 [])) (LP0 0 [])))
def Zo (k : Nat) (v : (den Ad)) (w : Int) : Option (Am × Bool) := Wv (D4 k v w k) some k v w
theorem Xtv {β : Type} (k : Nat) (v : (den Ad)) (w : Int) (K : KT β) : Ag (W8 k) Tryz.f205 (PsT.put Xbu (v, w, ())) K = (Zo k v w).bind fun r => K (F205_O.put r) :=
 Eq.trans (b := Wv (Oz k v w K k) (fun r => K (F205_O.put r)) k v w) (by kernel_rfl) (by simp only [Zo, Wv, z1, z2, z3, z4, z5, z6, z7, z8, Ax, Xcx])
def Xmu (k : Nat) : FD := ⟨205, Xbu, F205_O, Zo k⟩
theorem X3k (k : Nat) : (Xmu k).Ok Tryz.prog := ⟨fun x => Aa (Aj (Ak (.c (Ie k) (.c (F7 k) .n))) _ _ _ _) Ah Tryz.func205 rfl rfl (Xtv k _ _ some), .of (by kernel_rfl)⟩
abbrev X03 (k : Nat) : Env := Ba (A0 [Xdo k, Gs k, Qr k, Xo6 k, Xk3 k, Xmu k]) Ap .own [] k
abbrev Xjq : List PA := [.agg (.pair mI (.sl .ro B4)), .agg (.pair mI C3)]
abbrev F131_O : RO := ⟨[.a], [Xn8]⟩
def L9 {β : Type} (k : Nat) (v : (den sta)) (w : (den Ad)) (RET : (den Pr) → Option β) (b5 : (den B4) × Bool) : Option β := (Ml k w).bind fun b8 => (Zo k (b8.1, b8.2.1, b8.2.2.1, i64.wrap (w.2.2.2.1 - 1), b8.2.2.2.2) b5.1.2.2.2).bind fun b9 => cond (!b9.2) (RET (0, 0, [])) (RET (2, b5.1.2.2.1, b9.1))
def V0 {β : Type} (RET : (den Pr) → Option β) (k : Nat) (v : (den sta)) (w : (den Ad)) : Option β := (F129 k v).bind fun b1 => cond (!b1) (RET (0, 0, [])) ((Hi k w).bind fun b2 => cond (!b2) (RET (0, 0, [])) (cond (w.2.1 == v.1) ((Ml k w).bind fun b3 => RET (1, 0, [b3])) (cond (decide (w.2.2.2.1 < 2)) ((Zq k v w 4 0).bind fun b4 => RET b4) ((Xhw k v.2 w.2.1).bind fun b5 => cond (!b5.2) ((Zq k v w 3 0).bind fun b6 => RET b6) (cond (decide ((w.2.2.2.2.2.2.2.2.length : Int) > b5.1.2.2.2)) (cond w.2.2.2.2.2.2.2.1 ((Zq k v w 6 b5.1.2.2.2).bind fun b7 => RET b7) (L9 k v w RET b5)) (L9 k v w RET b5))))))
def Xd1 := V0 (β := (den Pr)) some
theorem Xq0 {β : Type} (k : Nat) (v : (den sta)) (w : (den Ad)) (K : KT β) : Ag (X03 k) Tryz.f131 (PsT.put Xjq (v, w, ())) K = (Xd1 k v w).bind fun r => K (F131_O.put r) :=
 Eq.trans (b := V0 (fun r => K (F131_O.put r)) k v w) (by kernel_rfl) (by simp only [Xd1, V0, L9, z1, z2, z3, z4, z5, z6, z7, z8, Ax])
def Xj3 (k : Nat) : FD := ⟨131, Xjq, F131_O, Xd1 k⟩
theorem Xz9 (k : Nat) : (Xj3 k).Ok Tryz.prog := ⟨fun x => Aa (Aj (Ak (.c (Xli k) (.c (Ie k) (.c (Vr k) (.c (X1z k) (.c (X10 k) (.c (X3k k) .n))))))) _ _ _ _) Ah Tryz.func131 rfl rfl (Xq0 k _ _ some), .of (by kernel_rfl)⟩
def X0z : Nat → Hint
 | 0 => ⟨pl 0 2 (pl 5 1 []), []⟩
 | _ => ⟨[], []⟩
abbrev Ve (k : Nat) : Env := Ba Bl X0z .own [] k
abbrev Xcv : List PA := [.one (.sl .ro sta), .one mI]
abbrev F132_O : RO := ⟨[.v], [mI]⟩
noncomputable def Xwp {β : Type} (k : Nat) (v : Ab) (w : Int) (K : KT β) : Ex → St → Option β := Bi (Ve k) Tryz.f132 (PsT.put Xcv (v, w, ())) K
def Xq4 (v : Ab) (w : Int) (x5_0 : Int) : St := ⟨(.one (.s .ro sta v)) :: (.one (vI w)) :: dz 3 ((.one (vI x5_0)) :: dz 14 []), []⟩
noncomputable def Ou {β : Type} (k : Nat) (v : Ab) (w : Int) (K : KT β) (n : Nat) (x5_0 : Int) : Option β := A1 (Ve k) Tryz.f132 [1, 0, 1, 0] 0 (Ai (Ve k) [1, 0, 1, 0] (Al Tryz.f132) 0 (Xwp k v w K)) n (Xq4 v w x5_0)
def Jt {β : Type} (NX : Int → Option β) (RET : Int → Option β) (k : Nat) (v : Ab) (w : Int) (x5_0 : Int) : Option β := cond (decide (x5_0 < (v.length : Int))) (Az x5_0 v (cond ((An v x5_0).1 == w) (RET x5_0) (NX (i64.wrap (x5_0 + 1))))) (RET (-1))
def Jm (k : Nat) (v : Ab) (w : Int) : Nat → Int → Option (Int)
 | 0, _ => none
 | n + 1, x5_0 => Jt (Jm k v w n) some k v w x5_0
theorem Xce {β : Type} (k : Nat) (v : Ab) (w : Int) (K : KT β) (n : Nat) : ∀ (x5_0 : Int), Ou k v w K n x5_0 =
  (Jm k v w n x5_0).bind fun r => K (F132_O.put r) := by
 induction n with
 | zero => intros; rfl
 | succ n ih =>
  intro x5_0
  refine Eq.trans (b := Jt (Ou k v w K n) (fun r => K (F132_O.put r)) k v w x5_0) (by kernel_rfl) ?_
  rw [Jm]
  simp only [Jt, z1, z2, z3, z4, z5, z6, z7, z8, ih]
def Xbq {β : Type} (LP0 : Int → Option β) (k : Nat) (v : Ab) (w : Int) : Option β := LP0 0
def Xgp (k : Nat) (v : Ab) (w : Int) : Option (Int) := Xbq (Jm k v w k) k v w
theorem Xt9 {β : Type} (k : Nat) (v : Ab) (w : Int) (K : KT β) : Ag (Ve k) Tryz.f132 (PsT.put Xcv (v, w, ())) K = (Xgp k v w).bind fun r => K (F132_O.put r) :=
 Eq.trans (b := Xbq (Ou k v w K k) k v w) (by kernel_rfl) (by simp only [Xgp, Xbq, z1, z2, z3, z4, z5, z6, z7, z8, Xce])
def Xkf (k : Nat) : FD := ⟨132, Xcv, F132_O, Xgp k⟩
theorem X19 (k : Nat) : (Xkf k).Ok Tryz.prog := ⟨fun x => Aa (Aj .none _ _ _ _) Ah Tryz.func132 rfl rfl (Xt9 k _ _ some), .of (by kernel_rfl)⟩
def X4p : Nat → Hint
 | 0 => ⟨pl 0 1 (pl 6 2 ((8, .own .own (.int .i64) []) :: (9, .own .sown Ad []) :: (pl 10 1 []))), pl 6000 3 ((7000, .own .sown Ad []) :: (7001, .own .sown Ad []) :: (pl 7002 1 []))⟩
 | 2 => ⟨pl 0 1 (pl 6 2 ((8, .own .own (.int .i64) []) :: (9, .own .sown Ad []) :: (pl 10 4 []))), pl 6000 3 ((7000, .own .sown Ad []) :: (7001, .own .sown Ad []) :: (pl 7002 1 (pl 11000 2 ((11002, .own .sown Ad []) :: (pl 53002 1 [])))))⟩
 | _ => ⟨[], []⟩
abbrev Il (k : Nat) : Env := Ba (A0 [Xmx k, Gs k, Fl k, Xj3 k, Xkf k]) X4p .ro [] k
abbrev Xl0 : List PA := [.one (.sl .ro sta), .one mI, .agg (.pair mI C3)]
abbrev F61_O : RO := ⟨[.a], [m_11]⟩
noncomputable def Xjz {β : Type} (k : Nat) (v : Ab) (w : Int) (p : (den Ad)) (K : KT β) : Ex → St → Option β := Bi (Il k) Tryz.f61 (PsT.put Xl0 (v, w, p, ())) K
def X02 (v : Ab) (w : Int) (p : (den Ad)) (x10_2 x12_2 x13_2 : Int) (m7000_2 : (den Cy)) (m11000_2 : (den Pr)) (m8900_2 : Bc) (m9900_2 : Am) : St := ⟨(.one (.s .ro sta v)) :: dz 5 ((.one (.ptr (.cell 6000) 3 0)) :: (.one (.ptr (.cell 7000) 3 0)) :: (.one (.a (.cell 8900) 0 0 none)) :: (.one (.a (.cell 9900) 0 0 none)) :: (.one (vI x10_2)) :: (.one (.ptr (.cell 11000) 3 0)) :: (.one (vI x12_2)) :: (.one (vI x13_2)) :: dz 99 []), Bd 6000 (Cx J7 ([], [], 0)) (Bd 7000 (Cx Xn5 m7000_2) (Bd 11000 (Cx Xu0 m11000_2) [eM 53002 .d, eM 8900 (.s .own (.int .i64) m8900_2), eM 9900 (.s .sown Ad m9900_2)]))⟩
noncomputable def Rp {β : Type} (k : Nat) (v : Ab) (w : Int) (p : (den Ad)) (KK : Ex → St → Option β) (n : Nat) (x10_2 x12_2 x13_2 : Int) (m7000_2 : (den Cy)) (m11000_2 : (den Pr)) (m8900_2 : Bc) (m9900_2 : Am) : Option β := A1 (Il k) Tryz.f61 [1, 1, 1, 1, 1, 0, 1, 0, 0, 1, 0, 0, 1, 1, 1, 1, 0] 2 KK n (X02 v w p x10_2 x12_2 x13_2 m7000_2 m11000_2 m8900_2 m9900_2)
def L0 {β : Type} (NX : Int → Int → Int → (den Cy) → (den Pr) → Bc → Am → Option β) (EX0 : (Int × Int × Int × (den Pr) × (den Cy) × Bc × Am) → Option β) (k : Nat) (v : Ab) (w : Int) (p : (den Ad)) (x10_2 x12_2 x13_2 : Int) (m7000_2 : (den Cy)) (m11000_2 : (den Pr)) (m8900_2 : Bc) (m9900_2 : Am) : Option β := cond (decide (x13_2 < (m11000_2.2.2.length : Int))) (cond (m11000_2.1 == 1) (Az x13_2 m11000_2.2.2 (B3 (m7000_2.1.length) ([(An m11000_2.2.2 x13_2)].length) 80 (NX x10_2 x12_2 (i64.wrap (x13_2 + 1)) (m7000_2.1 ++ [(An m11000_2.2.2 x13_2)], m7000_2.2) m11000_2 m8900_2 m9900_2))) (cond (m11000_2.1 == 3) (Az x13_2 m11000_2.2.2 (B3 (m7000_2.2.1.length) ([(An m11000_2.2.2 x13_2)].length) 80 (NX x10_2 x12_2 (i64.wrap (x13_2 + 1)) (m7000_2.1, m7000_2.2.1 ++ [(An m11000_2.2.2 x13_2)], m7000_2.2.2) m11000_2 m8900_2 m9900_2))) (cond (decide (x12_2 ≥ 0)) (B3 (m8900_2.length) ([x12_2].length) 8 (Az x13_2 m11000_2.2.2 (B3 (m9900_2.length) ([(An m11000_2.2.2 x13_2)].length) 80 (NX x10_2 x12_2 (i64.wrap (x13_2 + 1)) m7000_2 m11000_2 (m8900_2 ++ [x12_2]) (m9900_2 ++ [(An m11000_2.2.2 x13_2)]))))) (NX x10_2 x12_2 (i64.wrap (x13_2 + 1)) m7000_2 m11000_2 m8900_2 m9900_2)))) (EX0 (x10_2, x12_2, x13_2, m11000_2, m7000_2, m8900_2, m9900_2))
def Nv (k : Nat) (v : Ab) (w : Int) (p : (den Ad)) : Nat → Int → Int → Int → (den Cy) → (den Pr) → Bc → Am → Option ((Int × Int × Int × (den Pr) × (den Cy) × Bc × Am))
 | 0, _, _, _, _, _, _, _ => none
 | n + 1, x10_2, x12_2, x13_2, m7000_2, m11000_2, m8900_2, m9900_2 => L0 (Nv k v w p n) (fun y2 => some y2) k v w p x10_2 x12_2 x13_2 m7000_2 m11000_2 m8900_2 m9900_2
theorem Xgr {β : Type} (k : Nat) (v : Ab) (w : Int) (p : (den Ad)) (KK : Ex → St → Option β) (n : Nat) : ∀ (x10_2 x12_2 x13_2 : Int) (m7000_2 : (den Cy)) (m11000_2 : (den Pr)) (m8900_2 : Bc) (m9900_2 : Am), Rp k v w p KK n x10_2 x12_2 x13_2 m7000_2 m11000_2 m8900_2 m9900_2 =
  (Nv k v w p n x10_2 x12_2 x13_2 m7000_2 m11000_2 m8900_2 m9900_2).bind fun y2 => KK (.exit 2) ⟨(.one (.s .ro sta v)) :: dz 5 ((.one (.ptr (.cell 6000) 3 0)) :: (.one (.ptr (.cell 7000) 3 0)) :: (.one (.a (.cell 8900) 0 0 none)) :: (.one (.a (.cell 9900) 0 0 none)) :: (.one (vI y2.1)) :: (.one (.ptr (.cell 11000) 3 0)) :: (.one (vI y2.2.1)) :: (.one (vI y2.2.2.1)) :: dz 48 ((.one (vI y2.2.2.1)) :: (.one (.ptr (.cell 11002) 1 0)) :: (.one (.a (.cell 11002) 0 0 none)) :: (.one (vI (y2.2.2.2.1.2.2.length : Int))) :: (.one (vB false)) :: dz 46 [])), Bd 6000 (Cx J7 ([], [], 0)) (Bd 7000 (Cx Xn5 y2.2.2.2.2.1) (Bd 11000 (Cx Xu0 y2.2.2.2.1) [eM 53002 .d, eM 8900 (.s .own (.int .i64) y2.2.2.2.2.2.1), eM 9900 (.s .sown Ad y2.2.2.2.2.2.2)]))⟩ := by
 induction n with
 | zero => intros; rfl
 | succ n ih =>
  intro x10_2 x12_2 x13_2 m7000_2 m11000_2 m8900_2 m9900_2
  refine Eq.trans (b := L0 (Rp k v w p KK n) (fun y2 => KK (.exit 2) ⟨(.one (.s .ro sta v)) :: dz 5 ((.one (.ptr (.cell 6000) 3 0)) :: (.one (.ptr (.cell 7000) 3 0)) :: (.one (.a (.cell 8900) 0 0 none)) :: (.one (.a (.cell 9900) 0 0 none)) :: (.one (vI y2.1)) :: (.one (.ptr (.cell 11000) 3 0)) :: (.one (vI y2.2.1)) :: (.one (vI y2.2.2.1)) :: dz 48 ((.one (vI y2.2.2.1)) :: (.one (.ptr (.cell 11002) 1 0)) :: (.one (.a (.cell 11002) 0 0 none)) :: (.one (vI (y2.2.2.2.1.2.2.length : Int))) :: (.one (vB false)) :: dz 46 [])), Bd 6000 (Cx J7 ([], [], 0)) (Bd 7000 (Cx Xn5 y2.2.2.2.2.1) (Bd 11000 (Cx Xu0 y2.2.2.2.1) [eM 53002 .d, eM 8900 (.s .own (.int .i64) y2.2.2.2.2.2.1), eM 9900 (.s .sown Ad y2.2.2.2.2.2.2)]))⟩) k v w p x10_2 x12_2 x13_2 m7000_2 m11000_2 m8900_2 m9900_2) (by kernel_rfl) ?_
  rw [Nv]
  simp only [L0, z1, z2, z3, z4, z5, z6, z7, z8, Ax, ih]
def Xy9 (v : Ab) (w : Int) (p : (den Ad)) (x10_0 : Int) (m7000_0 : (den Cy)) (m8900_0 : Bc) (m9900_0 : Am) : St := ⟨(.one (.s .ro sta v)) :: dz 5 ((.one (.ptr (.cell 6000) 3 0)) :: (.one (.ptr (.cell 7000) 3 0)) :: (.one (.a (.cell 8900) 0 0 none)) :: (.one (.a (.cell 9900) 0 0 none)) :: (.one (vI x10_0)) :: dz 102 []), Bd 6000 (Cx J7 ([], [], 0)) (Bd 7000 (Cx Xn5 m7000_0) [eM 8900 (.s .own (.int .i64) m8900_0), eM 9900 (.s .sown Ad m9900_0)])⟩
noncomputable def Ra {β : Type} (k : Nat) (v : Ab) (w : Int) (p : (den Ad)) (K : KT β) (n : Nat) (x10_0 : Int) (m7000_0 : (den Cy)) (m8900_0 : Bc) (m9900_0 : Am) : Option β := A1 (Il k) Tryz.f61 [1, 1, 1, 1, 1, 0, 1, 0] 0 (Ai (Il k) [1, 1, 1, 1, 1, 0, 1, 0] (Al Tryz.f61) 0 (Xjz k v w p K)) n (Xy9 v w p x10_0 m7000_0 m8900_0 m9900_0)
def Du (k : Nat) (v : Ab) (w : Int) (p : (den Ad)) : Nat → Int → (den Cy) → Bc → Am → Option ((den Cy))
 | 0, _, _, _, _ => none
 | n + 1, x10_0, m7000_0, m8900_0, m9900_0 => cond (decide (x10_0 < (m9900_0.length : Int))) (Az x10_0 m8900_0 (Az (An m8900_0 x10_0) v (Az x10_0 m9900_0 ((Xd1 k (An v (An m8900_0 x10_0)) (An m9900_0 x10_0)).bind fun b4 => (Xgp k v b4.2.1).bind fun b5 => (Nv k v w p k x10_0 b5 0 (m7000_0.1, m7000_0.2.1, i64.wrap (m7000_0.2.2 + 1)) b4 m8900_0 m9900_0).bind fun y2 => Du k v w p n (i64.wrap (y2.1 + 1)) y2.2.2.2.2.1 y2.2.2.2.2.2.1 y2.2.2.2.2.2.2)))) (some m7000_0)
theorem Yn {β : Type} (k n : Nat) (v : Ab) (w : Int) (p : (den Ad)) (y2 : Int × Int × Int × (den Pr) × (den Cy) × Bc × Am) (K : KT β) :
  (Ai (Il k) [1, 0, 0, 1, 1, 1, 1, 0] (B1 [1, 1, 1, 1, 1, 0, 1, 0, 0] (Al Tryz.f61)) 0 (Fv (Il k) Tryz.f61 [1, 1, 1, 1, 1, 0, 1, 0] 0 (Ai (Il k) [1, 1, 1, 1, 1, 0, 1, 0] (Al Tryz.f61) 0 (Xjz k v w p K)) n)) (.exit 2) ⟨(.one (.s .ro sta v)) :: dz 5 ((.one (.ptr (.cell 6000) 3 0)) :: (.one (.ptr (.cell 7000) 3 0)) :: (.one (.a (.cell 8900) 0 0 none)) :: (.one (.a (.cell 9900) 0 0 none)) :: (.one (vI y2.1)) :: (.one (.ptr (.cell 11000) 3 0)) :: (.one (vI y2.2.1)) :: (.one (vI y2.2.2.1)) :: dz 48 ((.one (vI y2.2.2.1)) :: (.one (.ptr (.cell 11002) 1 0)) :: (.one (.a (.cell 11002) 0 0 none)) :: (.one (vI (y2.2.2.2.1.2.2.length : Int))) :: (.one (vB false)) :: dz 46 [])), Bd 6000 (Cx J7 ([], [], 0)) (Bd 7000 (Cx Xn5 y2.2.2.2.2.1) (Bd 11000 (Cx Xu0 y2.2.2.2.1) [eM 53002 .d, eM 8900 (.s .own (.int .i64) y2.2.2.2.2.2.1), eM 9900 (.s .sown Ad y2.2.2.2.2.2.2)]))⟩ =
  Ra k v w p K n (i64.wrap (y2.1 + 1)) y2.2.2.2.2.1 y2.2.2.2.2.2.1 y2.2.2.2.2.2.2 := by kernel_rfl
theorem Xgm {β : Type} (k : Nat) (v : Ab) (w : Int) (p : (den Ad)) (K : KT β) (n : Nat) : ∀ (x10_0 : Int) (m7000_0 : (den Cy)) (m8900_0 : Bc) (m9900_0 : Am), Ra k v w p K n x10_0 m7000_0 m8900_0 m9900_0 =
  (Du k v w p n x10_0 m7000_0 m8900_0 m9900_0).bind fun r => K (F61_O.put r) := by
 induction n with
 | zero => intros; rfl
 | succ n ih =>
  intro x10_0 m7000_0 m8900_0 m9900_0
  refine Eq.trans (b := cond (decide (x10_0 < (m9900_0.length : Int))) (Az x10_0 m8900_0 (Az (An m8900_0 x10_0) v (Az x10_0 m9900_0 ((Xd1 k (An v (An m8900_0 x10_0)) (An m9900_0 x10_0)).bind fun b4 => (Xgp k v b4.2.1).bind fun b5 => Rp k v w p (Ai (Il k) [1, 0, 0, 1, 1, 1, 1, 0] (B1 [1, 1, 1, 1, 1, 0, 1, 0, 0] (Al Tryz.f61)) 0 (Fv (Il k) Tryz.f61 [1, 1, 1, 1, 1, 0, 1, 0] 0 (Ai (Il k) [1, 1, 1, 1, 1, 0, 1, 0] (Al Tryz.f61) 0 (Xjz k v w p K)) n)) k x10_0 b5 0 (m7000_0.1, m7000_0.2.1, i64.wrap (m7000_0.2.2 + 1)) b4 m8900_0 m9900_0)))) (K (F61_O.put m7000_0))) (by kernel_rfl) ?_
  rw [Du]
  simp only [z1, z2, z3, z4, z5, z6, z7, z8, Ax, Xgr, Yn k n v w p _ K, ih, Az, B3]
def Zh {β : Type} (LP0 : Int → (den Cy) → Bc → Am → Option β) (RET : (den Cy) → Option β) (k : Nat) (v : Ab) (w : Int) (p : (den Ad)) : Option β := Ax p fun p0 p1 p2 p3 p4 p5 p6 p7 p8 => (F59 k v).bind fun b1 => cond (!b1) (RET ([], [], 0)) ((Hi k p).bind fun b2 => cond (!b2) (RET ([], [], 0)) ((Ky k w 0 (i64.wrap ((v.length : Int) - 1))).bind fun b3 => cond (!b3) (RET ([], [], 0)) (LP0 0 ([], [], 0) [w] [(p0, p1, p2, p3, p4, p5, p6, p7, p8)])))
def F61 (k : Nat) (v : Ab) (w : Int) (p : (den Ad)) : Option ((den Cy)) := Zh (Du k v w p k) some k v w p
theorem Xx9 {β : Type} (k : Nat) (v : Ab) (w : Int) (p : (den Ad)) (K : KT β) : Ag (Il k) Tryz.f61 (PsT.put Xl0 (v, w, p, ())) K = (F61 k v w p).bind fun r => K (F61_O.put r) :=
 Eq.trans (b := Zh (Ra k v w p K k) (fun r => K (F61_O.put r)) k v w p) (by kernel_rfl) (by simp only [F61, Zh, z1, z2, z3, z4, z5, z6, z7, z8, Ax, Xgm])
def Xu6 (k : Nat) : FD := ⟨61, Xl0, F61_O, F61 k⟩
theorem X4q (k : Nat) : (Xu6 k).Ok Tryz.prog := ⟨fun x => Aa (Aj (Ak (.c (Xu3 k) (.c (Ie k) (.c (F7 k) (.c (Xz9 k) (.c (X19 k) .n)))))) _ _ _ _) Ah Tryz.func61 rfl rfl (Xx9 k _ _ _ some), .of (by kernel_rfl)⟩
abbrev X2k (k : Nat) : Env := Ba Bl Ap .own [] k
abbrev Xlm : List PA := [.agg (.pair mI C3), .agg (.pair mI C3)]
abbrev F134_O : RO := ⟨[.v], [mB]⟩
def Xz {β : Type} (RET : Bool → Option β) (k : Nat) (v w : (den Ad)) : Option β := cond (v.1 == w.1) (cond (v.2.1 == w.2.1) (cond (v.2.2.1 == w.2.2.1) (RET (v.2.2.2.2.1 == w.2.2.2.2.1)) (RET false)) (RET false)) (RET false)
def Wk := Xz (β := Bool) some
theorem Xrl {β : Type} (k : Nat) (v w : (den Ad)) (K : KT β) : Ag (X2k k) Tryz.f134 (PsT.put Xlm (v, w, ())) K = (Wk k v w).bind fun r => K (F134_O.put r) :=
 Eq.trans (b := Xz (fun r => K (F134_O.put r)) k v w) (by kernel_rfl) (by simp only [Wk, Xz, z1, z2, z3, z4, z5, z6, z7, z8, Ax])
def Rk (k : Nat) : FD := ⟨134, Xlm, F134_O, Wk k⟩
theorem Vf (k : Nat) : (Rk k).Ok Tryz.prog := ⟨fun x => Aa (Aj .none _ _ _ _) Ah Tryz.func134 rfl rfl (Xrl k _ _ some), .of (by kernel_rfl)⟩
end
end Go.Proofs.YtdmepjjepogddaaGreat.Gn
end

section
set_option linter.unusedVariables false
set_option linter.unusedSimpArgs false
namespace Go.Proofs.YtdmepjjepogddaaGreat.Gn
open Go.Rf IntKind
noncomputable section
def X0j : Nat → Hint
 | 0 => ⟨pl 1 1 (pl 3 2 []), pl 1000 2 []⟩
 | _ => ⟨[], []⟩
abbrev Ws (k : Nat) : Env := Ba (A0 [Gs k, Rk k, Fl k]) X0j .own [] k
abbrev Xdk : List PA := [.agg (.pair (.sl .ro Ad) mI)]
abbrev F206_O : RO := ⟨[.v], [mB]⟩
noncomputable def X0x {β : Type} (k : Nat) (v : (den Ay)) (K : KT β) : Ex → St → Option β := Bi (Ws k) Tryz.f206 (PsT.put Xdk (v, ())) K
def Xth (v : (den Ay)) (x3_0 x4_0 : Int) : St := ⟨(.one .d) :: (.one (.ptr (.cell 1000) 2 0)) :: (.one .d) :: (.one (vI x3_0)) :: (.one (vI x4_0)) :: dz 78 [], Bd 1000 (Cx (.pair (.sl .ro Ad) mI) v) []⟩
noncomputable def Oj {β : Type} (k : Nat) (v : (den Ay)) (K : KT β) (n : Nat) (x3_0 x4_0 : Int) : Option β := A1 (Ws k) Tryz.f206 [1, 1, 0, 1, 0] 0 (Ai (Ws k) [1, 1, 0, 1, 0] (Al Tryz.f206) 0 (X0x k v K)) n (Xth v x3_0 x4_0)
def F8 {β : Type} (NX : Int → Int → Option β) (RET : Bool → Option β) (k : Nat) (v : (den Ay)) (x3_0 x4_0 : Int) : Option β := Bb v fun v0 v1 => cond (decide (x4_0 < (v0.length : Int))) (Az x4_0 v0 ((Hi k (An v0 x4_0)).bind fun b1 => cond (!b1) (RET false) (cond (decide (0 < (v0.length : Int))) ((Wk k (An v0 x4_0) (An v0 0)).bind fun b2 => cond (!b2) (RET false) (cond (decide (x4_0 > 0)) (Az (i64.wrap (x4_0 - 1)) v0 (Az (i64.wrap (x4_0 - 1)) v0 (cond (decide ((An v0 x4_0).2.2.2.2.2.1 < (i64.wrap ((An v0 (i64.wrap (x4_0 - 1))).2.2.2.2.2.1 + ((An v0 (i64.wrap (x4_0 - 1))).2.2.2.2.2.2.2.2.length : Int))))) (RET false) (Az (i64.wrap (x4_0 - 1)) v0 (cond (!(An v0 (i64.wrap (x4_0 - 1))).2.2.2.2.2.2.1) (RET false) (NX (i64.wrap (x3_0 + ((An v0 x4_0).2.2.2.2.2.2.2.2.length : Int))) (i64.wrap (x4_0 + 1)))))))) (NX (i64.wrap (x3_0 + ((An v0 x4_0).2.2.2.2.2.2.2.2.length : Int))) (i64.wrap (x4_0 + 1))))) none))) (cond (decide ((v0.length : Int) > 0)) (cond (decide (x3_0 ≤ 48)) ((Ky k v1 0 1000000).bind fun b3 => RET b3) (RET false)) (RET false))
def D7 (k : Nat) (v : (den Ay)) : Nat → Int → Int → Option (Bool)
 | 0, _, _ => none
 | n + 1, x3_0, x4_0 => F8 (D7 k v n) some k v x3_0 x4_0
theorem Xd0 {β : Type} (k : Nat) (v : (den Ay)) (K : KT β) (n : Nat) : ∀ (x3_0 x4_0 : Int), Oj k v K n x3_0 x4_0 =
  (D7 k v n x3_0 x4_0).bind fun r => K (F206_O.put r) := by
 induction n with
 | zero => intros; rfl
 | succ n ih =>
  intro x3_0 x4_0
  refine Eq.trans (b := F8 (Oj k v K n) (fun r => K (F206_O.put r)) k v x3_0 x4_0) (by kernel_rfl) ?_
  rw [D7]
  simp only [F8, z1, z2, z3, z4, z5, z6, z7, z8, Bb, ih]
def Xbv {β : Type} (LP0 : Int → Int → Option β) (k : Nat) (v : (den Ay)) : Option β := LP0 0 0
def Qj (k : Nat) (v : (den Ay)) : Option (Bool) := Xbv (D7 k v k) k v
theorem Xsw {β : Type} (k : Nat) (v : (den Ay)) (K : KT β) : Ag (Ws k) Tryz.f206 (PsT.put Xdk (v, ())) K = (Qj k v).bind fun r => K (F206_O.put r) :=
 Eq.trans (b := Xbv (Oj k v K k) k v) (by kernel_rfl) (by simp only [Qj, Xbv, z1, z2, z3, z4, z5, z6, z7, z8, Bb, Xd0])
def Wq (k : Nat) : FD := ⟨206, Xdk, F206_O, Qj k⟩
theorem Xbi (k : Nat) : (Wq k).Ok Tryz.prog := ⟨fun x => Aa (Aj (Ak (.c (Ie k) (.c (Vf k) (.c (F7 k) .n)))) _ _ _ _) Ah Tryz.func206 rfl rfl (Xsw k _ some), .of (by kernel_rfl)⟩
def X2c : Nat → Hint
 | 0 => ⟨pl 0 1 (pl 3 1 []), []⟩
 | 2 => ⟨pl 0 1 (pl 3 2 []), []⟩
 | _ => ⟨[], []⟩
abbrev C0 (k : Nat) : Env := Ba (A0 [Wq k, Rk k]) X2c .own [] k
abbrev Xbj : List PA := [.one (.sl .ro Ay)]
abbrev F133_O : RO := ⟨[.v], [mB]⟩
noncomputable def V3 {β : Type} (k : Nat) (v : Ae) (K : KT β) : Ex → St → Option β := Bi (C0 k) Tryz.f133 (PsT.put Xbj (v, ())) K
def Xq7 (v : Ae) (x3_2 x4_2 : Int) : St := ⟨(.one (.s .ro Ay v)) :: (.one .d) :: (.one .d) :: (.one (vI x3_2)) :: (.one (vI x4_2)) :: dz 35 [], []⟩
noncomputable def Nm {β : Type} (k : Nat) (v : Ae) (KK : Ex → St → Option β) (n : Nat) (x3_2 x4_2 : Int) : Option β := A1 (C0 k) Tryz.f133 [1, 0, 1, 0, 0, 1, 0, 0, 1, 1, 0] 2 KK n (Xq7 v x3_2 x4_2)
def J2 {β : Type} (NX : Int → Int → Option β) (EX0 : (Int × Int) → Option β) (EX1 : (Int × Int) → Option β) (k : Nat) (v : Ae) (x3_2 x4_2 : Int) : Option β := cond (decide (x4_2 < x3_2)) (Az x4_2 v (cond (decide (0 < ((An v x4_2).1.length : Int))) (Az x3_2 v (cond (decide (0 < ((An v x3_2).1.length : Int))) ((Wk k (An (An v x4_2).1 0) (An (An v x3_2).1 0)).bind fun b2 => cond b2 (EX0 (x3_2, x4_2)) (NX x3_2 (i64.wrap (x4_2 + 1)))) none)) none)) (EX1 (x3_2, x4_2))
def Jw (k : Nat) (v : Ae) : Nat → Int → Int → Option ((Sum (Int × Int) (Int × Int)))
 | 0, _, _ => none
 | n + 1, x3_2, x4_2 => J2 (Jw k v n) (fun y2 => some (.inl y2)) (fun y2 => some (.inr y2)) k v x3_2 x4_2
theorem Xa3 {β : Type} (k : Nat) (v : Ae) (KK : Ex → St → Option β) (n : Nat) : ∀ (x3_2 x4_2 : Int), Nm k v KK n x3_2 x4_2 =
  (Jw k v n x3_2 x4_2).bind fun z => Yq (fun y2 => KK .ret ⟨(.one (.s .ro Ay v)) :: (.one .d) :: (.one (vB false)) :: (.one (vI y2.1)) :: (.one (vI y2.2)) :: dz 12 ((.one (vI y2.2)) :: (.one (vI y2.1)) :: (.one (vB true)) :: (.one .d) :: (.one .d) :: (.one (.s .ro Ay v)) :: (.one (vI y2.2)) :: (.one (.ptr (.elem 24000 y2.2.toNat 0) 2 0)) :: (.one (.ptr (.elem 24000 y2.2.toNat 0) 2 0)) :: (.one (.s .ro Ad (An v y2.2).1)) :: (.one (.ptr (.elem 27000 0 0) 9 0)) :: (.agg (Cx (.pair mI C3) (An (An v y2.2).1 0))) :: (.one (.s .ro Ay v)) :: (.one (vI y2.1)) :: (.one (.ptr (.elem 31000 y2.1.toNat 0) 2 0)) :: (.one (.ptr (.elem 31000 y2.1.toNat 0) 2 0)) :: (.one (.s .ro Ad (An v y2.1).1)) :: (.one (.ptr (.elem 34000 0 0) 9 0)) :: (.agg (Cx (.pair mI C3) (An (An v y2.1).1 0))) :: (.one (vB true)) :: dz 3 []), [eM 24000 (.s .ro Ay v), eM 27000 (.s .ro Ad (An v y2.2).1), eM 31000 (.s .ro Ay v), eM 34000 (.s .ro Ad (An v y2.1).1)]⟩) (fun y2 => KK (.exit 2) ⟨(.one (.s .ro Ay v)) :: (.one .d) :: (.one .d) :: (.one (vI y2.1)) :: (.one (vI y2.2)) :: dz 12 ((.one (vI y2.2)) :: (.one (vI y2.1)) :: (.one (vB false)) :: dz 20 []), []⟩) z := by
 induction n with
 | zero => intros; rfl
 | succ n ih =>
  intro x3_2 x4_2
  refine Eq.trans (b := J2 (Nm k v KK n) (fun y2 => KK .ret ⟨(.one (.s .ro Ay v)) :: (.one .d) :: (.one (vB false)) :: (.one (vI y2.1)) :: (.one (vI y2.2)) :: dz 12 ((.one (vI y2.2)) :: (.one (vI y2.1)) :: (.one (vB true)) :: (.one .d) :: (.one .d) :: (.one (.s .ro Ay v)) :: (.one (vI y2.2)) :: (.one (.ptr (.elem 24000 y2.2.toNat 0) 2 0)) :: (.one (.ptr (.elem 24000 y2.2.toNat 0) 2 0)) :: (.one (.s .ro Ad (An v y2.2).1)) :: (.one (.ptr (.elem 27000 0 0) 9 0)) :: (.agg (Cx (.pair mI C3) (An (An v y2.2).1 0))) :: (.one (.s .ro Ay v)) :: (.one (vI y2.1)) :: (.one (.ptr (.elem 31000 y2.1.toNat 0) 2 0)) :: (.one (.ptr (.elem 31000 y2.1.toNat 0) 2 0)) :: (.one (.s .ro Ad (An v y2.1).1)) :: (.one (.ptr (.elem 34000 0 0) 9 0)) :: (.agg (Cx (.pair mI C3) (An (An v y2.1).1 0))) :: (.one (vB true)) :: dz 3 []), [eM 24000 (.s .ro Ay v), eM 27000 (.s .ro Ad (An v y2.2).1), eM 31000 (.s .ro Ay v), eM 34000 (.s .ro Ad (An v y2.1).1)]⟩) (fun y2 => KK (.exit 2) ⟨(.one (.s .ro Ay v)) :: (.one .d) :: (.one .d) :: (.one (vI y2.1)) :: (.one (vI y2.2)) :: dz 12 ((.one (vI y2.2)) :: (.one (vI y2.1)) :: (.one (vB false)) :: dz 20 []), []⟩) k v x3_2 x4_2) (by kernel_rfl) ?_
  rw [Jw]
  simp only [J2, z1, z2, z3, z4, z5, z6, z7, z8, ih]
def Xq6 (v : Ae) (x3_0 : Int) : St := ⟨(.one (.s .ro Ay v)) :: (.one .d) :: (.one .d) :: (.one (vI x3_0)) :: dz 36 [], []⟩
noncomputable def N2 {β : Type} (k : Nat) (v : Ae) (K : KT β) (n : Nat) (x3_0 : Int) : Option β := A1 (C0 k) Tryz.f133 [1, 0, 1, 0] 0 (Ai (C0 k) [1, 0, 1, 0] (Al Tryz.f133) 0 (V3 k v K)) n (Xq6 v x3_0)
def Fi (k : Nat) (v : Ae) : Nat → Int → Option (Bool)
 | 0, _ => none
 | n + 1, x3_0 => cond (decide (x3_0 < (v.length : Int))) (Az x3_0 v ((Qj k (An v x3_0)).bind fun b1 => cond (!b1) (some false) ((Jw k v k x3_0 0).bind fun z2 => Yq (fun y2 => some false) (fun y2 => Fi k v n (i64.wrap (y2.1 + 1))) z2))) (some (decide ((v.length : Int) ≤ 3)))
theorem Xx {β : Type} (k n : Nat) (v : Ae) (y2 : Int × Int) (K : KT β) :
  (Ai (C0 k) [1, 0, 0, 1, 1, 0] (B1 [1, 0, 1, 0, 0] (Al Tryz.f133)) 0 (Fv (C0 k) Tryz.f133 [1, 0, 1, 0] 0 (Ai (C0 k) [1, 0, 1, 0] (Al Tryz.f133) 0 (V3 k v K)) n)) .ret ⟨(.one (.s .ro Ay v)) :: (.one .d) :: (.one (vB false)) :: (.one (vI y2.1)) :: (.one (vI y2.2)) :: dz 12 ((.one (vI y2.2)) :: (.one (vI y2.1)) :: (.one (vB true)) :: (.one .d) :: (.one .d) :: (.one (.s .ro Ay v)) :: (.one (vI y2.2)) :: (.one (.ptr (.elem 24000 y2.2.toNat 0) 2 0)) :: (.one (.ptr (.elem 24000 y2.2.toNat 0) 2 0)) :: (.one (.s .ro Ad (An v y2.2).1)) :: (.one (.ptr (.elem 27000 0 0) 9 0)) :: (.agg (Cx (.pair mI C3) (An (An v y2.2).1 0))) :: (.one (.s .ro Ay v)) :: (.one (vI y2.1)) :: (.one (.ptr (.elem 31000 y2.1.toNat 0) 2 0)) :: (.one (.ptr (.elem 31000 y2.1.toNat 0) 2 0)) :: (.one (.s .ro Ad (An v y2.1).1)) :: (.one (.ptr (.elem 34000 0 0) 9 0)) :: (.agg (Cx (.pair mI C3) (An (An v y2.1).1 0))) :: (.one (vB true)) :: dz 3 []), [eM 24000 (.s .ro Ay v), eM 27000 (.s .ro Ad (An v y2.2).1), eM 31000 (.s .ro Ay v), eM 34000 (.s .ro Ad (An v y2.1).1)]⟩ =
  K (F133_O.put false) := by kernel_rfl
theorem Wt {β : Type} (k n : Nat) (v : Ae) (y2 : Int × Int) (K : KT β) :
  (Ai (C0 k) [1, 0, 0, 1, 1, 0] (B1 [1, 0, 1, 0, 0] (Al Tryz.f133)) 0 (Fv (C0 k) Tryz.f133 [1, 0, 1, 0] 0 (Ai (C0 k) [1, 0, 1, 0] (Al Tryz.f133) 0 (V3 k v K)) n)) (.exit 2) ⟨(.one (.s .ro Ay v)) :: (.one .d) :: (.one .d) :: (.one (vI y2.1)) :: (.one (vI y2.2)) :: dz 12 ((.one (vI y2.2)) :: (.one (vI y2.1)) :: (.one (vB false)) :: dz 20 []), []⟩ =
  N2 k v K n (i64.wrap (y2.1 + 1)) := by kernel_rfl
theorem Xad {β : Type} (k : Nat) (v : Ae) (K : KT β) (n : Nat) : ∀ (x3_0 : Int), N2 k v K n x3_0 =
  (Fi k v n x3_0).bind fun r => K (F133_O.put r) := by
 induction n with
 | zero => intros; rfl
 | succ n ih =>
  intro x3_0
  refine Eq.trans (b := cond (decide (x3_0 < (v.length : Int))) (Az x3_0 v ((Qj k (An v x3_0)).bind fun b1 => cond (!b1) (K (F133_O.put false)) (Nm k v (Ai (C0 k) [1, 0, 0, 1, 1, 0] (B1 [1, 0, 1, 0, 0] (Al Tryz.f133)) 0 (Fv (C0 k) Tryz.f133 [1, 0, 1, 0] 0 (Ai (C0 k) [1, 0, 1, 0] (Al Tryz.f133) 0 (V3 k v K)) n)) k x3_0 0))) (K (F133_O.put (decide ((v.length : Int) ≤ 3))))) (by kernel_rfl) ?_
  rw [Fi]
  simp only [z1, z2, z3, z4, z5, z6, z7, z8, Xa3, Xx k n v _ K, Wt k n v _ K, ih, Az, B3]
def Se {β : Type} (LP0 : Int → Option β) (k : Nat) (v : Ae) : Option β := LP0 0
def Ym (k : Nat) (v : Ae) : Option (Bool) := Se (Fi k v k) k v
theorem Xtt {β : Type} (k : Nat) (v : Ae) (K : KT β) : Ag (C0 k) Tryz.f133 (PsT.put Xbj (v, ())) K = (Ym k v).bind fun r => K (F133_O.put r) :=
 Eq.trans (b := Se (N2 k v K k) k v) (by kernel_rfl) (by simp only [Ym, Se, z1, z2, z3, z4, z5, z6, z7, z8, Xad])
def Xka (k : Nat) : FD := ⟨133, Xbj, F133_O, Ym k⟩
theorem Xws (k : Nat) : (Xka k).Ok Tryz.prog := ⟨fun x => Aa (Aj (Ak (.c (Xbi k) (.c (Vf k) .n))) _ _ _ _) Ah Tryz.func133 rfl rfl (Xtt k _ some), .of (by kernel_rfl)⟩
def X2y : Nat → Hint
 | 0 => ⟨pl 2 3 (pl 6 3 []), pl 2000 2 (pl 3000 9 (pl 4000 2 (pl 6000 2 [])))⟩
 | 2 => ⟨pl 2 3 (pl 6 2 (pl 10 1 [])), pl 2000 2 (pl 3000 9 (pl 4000 2 ((6000, .own .own Ad []) :: (pl 6001 1 []))))⟩
 | _ => ⟨[], []⟩
abbrev N0 (k : Nat) : Env := Ba (A0 [Wq k, Gs k, Rk k, Qr k]) X2y .own [] k
abbrev Xcr : List PA := [.agg (.pair (.sl .ro Ad) mI), .agg (.pair mI C3)]
abbrev F135_O : RO := ⟨[.a, .v], [.pair (.sl .own Ad) mI, mB]⟩
noncomputable def Xlh {β : Type} (k : Nat) (v : (den Ay)) (w : (den Ad)) (K : KT β) : Ex → St → Option β := Bi (N0 k) Tryz.f135 (PsT.put Xcr (v, w, ())) K
def Xrd (v : (den Ay)) (w : (den Ad)) (x7_2 : Bool) (x10_2 : Int) (m6000_2 : (den Ay)) : St := ⟨(.one .d) :: (.one .d) :: (.one (.ptr (.cell 2000) 2 0)) :: (.one (.ptr (.cell 3000) 9 0)) :: (.one (.ptr (.cell 4000) 2 0)) :: (.one .d) :: (.one (.ptr (.cell 6000) 2 0)) :: (.one (vB x7_2)) :: (.one .d) :: (.one .d) :: (.one (vI x10_2)) :: dz 106 [], Bd 2000 (Cx (.pair (.sl .ro Ad) mI) v) (Bd 3000 (Cx (.pair mI C3) w) (Bd 4000 (Cx (.pair (.sl .own Ad) mI) ([], 0)) (Bd 6000 (Cx (.pair (.sl .own Ad) mI) m6000_2) [])))⟩
noncomputable def Ot {β : Type} (k : Nat) (v : (den Ay)) (w : (den Ad)) (K : KT β) (n : Nat) (x7_2 : Bool) (x10_2 : Int) (m6000_2 : (den Ay)) : Option β := A1 (N0 k) Tryz.f135 [1, 1, 1, 1, 1, 0, 1, 0] 2 (Ai (N0 k) [1, 1, 1, 1, 1, 0, 1, 0] (Al Tryz.f135) 0 (Xlh k v w K)) n (Xrd v w x7_2 x10_2 m6000_2)
def He {β : Type} (k : Nat) (v : (den Ay)) (w : (den Ad)) (NX : Bool → Int → (den Ay) → Option β) (RET : (den Ay) × Bool → Option β) (x10_2 : Int) (m6000_2 : (den Ay)) (x7_2 : Bool) : Option β := Az x10_2 v.1 ((Ml k (An v.1 x10_2)).bind fun b6 => B3 (m6000_2.1.length) ([b6].length) 80 (NX x7_2 (i64.wrap (x10_2 + 1)) (m6000_2.1 ++ [b6], m6000_2.2)))
def Ji {β : Type} (NX : Bool → Int → (den Ay) → Option β) (RET : (den Ay) × Bool → Option β) (k : Nat) (v : (den Ay)) (w : (den Ad)) (x7_2 : Bool) (x10_2 : Int) (m6000_2 : (den Ay)) : Option β := Bb v fun v0 _ => cond (decide (x10_2 < (v0.length : Int))) (cond (!x7_2) (Az x10_2 v0 (cond (decide (w.2.2.2.2.2.1 < (An v0 x10_2).2.2.2.2.2.1)) ((Ml k w).bind fun b4 => B3 (m6000_2.1.length) ([b4].length) 80 (Az x10_2 v0 ((Ml k (An v0 x10_2)).bind fun b5 => B3 ((m6000_2.1 ++ [b4]).length) ([b5].length) 80 (NX true (i64.wrap (x10_2 + 1)) ((m6000_2.1 ++ [b4]) ++ [b5], m6000_2.2))))) (He k v w NX RET x10_2 m6000_2 x7_2))) (He k v w NX RET x10_2 m6000_2 x7_2)) (cond (!x7_2) ((Ml k w).bind fun b8 => B3 (m6000_2.1.length) ([b8].length) 80 ((Qj k (m6000_2.1 ++ [b8], m6000_2.2)).bind fun b9 => cond (!b9) (RET (([], 0), false)) (RET ((m6000_2.1 ++ [b8], m6000_2.2), true)))) ((Qj k m6000_2).bind fun b10 => cond (!b10) (RET (([], 0), false)) (RET (m6000_2, true))))
def Gm (k : Nat) (v : (den Ay)) (w : (den Ad)) : Nat → Bool → Int → (den Ay) → Option ((den Ay) × Bool)
 | 0, _, _, _ => none
 | n + 1, x7_2, x10_2, m6000_2 => Ji (Gm k v w n) some k v w x7_2 x10_2 m6000_2
theorem Xdw {β : Type} (k : Nat) (v : (den Ay)) (w : (den Ad)) (K : KT β) (n : Nat) : ∀ (x7_2 : Bool) (x10_2 : Int) (m6000_2 : (den Ay)), Ot k v w K n x7_2 x10_2 m6000_2 =
  (Gm k v w n x7_2 x10_2 m6000_2).bind fun r => K (F135_O.put r) := by
 induction n with
 | zero => intros; rfl
 | succ n ih =>
  intro x7_2 x10_2 m6000_2
  refine Eq.trans (b := Ji (Ot k v w K n) (fun r => K (F135_O.put r)) k v w x7_2 x10_2 m6000_2) (by kernel_rfl) ?_
  rw [Gm]
  simp only [Ji, He, z1, z2, z3, z4, z5, z6, z7, z8, Ax, Bb, ih]
def Xqi (v : (den Ay)) (w : (den Ad)) (x7_0 : Bool) (x8_0 : Int) : St := ⟨(.one .d) :: (.one .d) :: (.one (.ptr (.cell 2000) 2 0)) :: (.one (.ptr (.cell 3000) 9 0)) :: (.one (.ptr (.cell 4000) 2 0)) :: (.one .d) :: (.one (.ptr (.cell 6000) 2 0)) :: (.one (vB x7_0)) :: (.one (vI x8_0)) :: dz 108 [], Bd 2000 (Cx (.pair (.sl .ro Ad) mI) v) (Bd 3000 (Cx (.pair mI C3) w) (Bd 4000 (Cx (.pair (.sl .own Ad) mI) ([], 0)) (Bd 6000 (Cx (.pair (.sl .own Ad) mI) ([], v.2)) [])))⟩
noncomputable def Mx {β : Type} (k : Nat) (v : (den Ay)) (w : (den Ad)) (K : KT β) (n : Nat) (x7_0 : Bool) (x8_0 : Int) : Option β := A1 (N0 k) Tryz.f135 [1, 1, 1, 1, 0, 1, 0] 0 (Ai (N0 k) [1, 1, 1, 1, 0, 1, 0] (Al Tryz.f135) 0 (Xlh k v w K)) n (Xqi v w x7_0 x8_0)
def Ju {β : Type} (NX : Bool → Int → Option β) (LP2 : Bool → Int → (den Ay) → Option β) (k : Nat) (v : (den Ay)) (w : (den Ad)) (x7_0 : Bool) (x8_0 : Int) : Option β := Bb v fun v0 v1 => cond (decide (x8_0 < (v0.length : Int))) (Az x8_0 v0 (cond ((An v0 x8_0).2.2.2.2.2.1 == w.2.2.2.2.2.1) (cond ((An v0 x8_0).2.2.2.2.2.2.1 == w.2.2.2.2.2.2.1) (cond ((T3 (An v0 x8_0).2.2.2.2.2.2.2.2).toList == (T3 w.2.2.2.2.2.2.2.2).toList) (NX true (i64.wrap (x8_0 + 1))) (NX x7_0 (i64.wrap (x8_0 + 1)))) (NX x7_0 (i64.wrap (x8_0 + 1)))) (NX x7_0 (i64.wrap (x8_0 + 1))))) (LP2 x7_0 0 ([], v1))
def I7 (k : Nat) (v : (den Ay)) (w : (den Ad)) : Nat → Bool → Int → Option ((den Ay) × Bool)
 | 0, _, _ => none
 | n + 1, x7_0, x8_0 => Ju (I7 k v w n) (Gm k v w k) k v w x7_0 x8_0
theorem Xah {β : Type} (k : Nat) (v : (den Ay)) (w : (den Ad)) (K : KT β) (n : Nat) : ∀ (x7_0 : Bool) (x8_0 : Int), Mx k v w K n x7_0 x8_0 =
  (I7 k v w n x7_0 x8_0).bind fun r => K (F135_O.put r) := by
 induction n with
 | zero => intros; rfl
 | succ n ih =>
  intro x7_0 x8_0
  refine Eq.trans (b := Ju (Mx k v w K n) (Ot k v w K k) k v w x7_0 x8_0) (by kernel_rfl) ?_
  rw [I7]
  simp only [Ju, z1, z2, z3, z4, z5, z6, z7, z8, Ax, Bb, Xdw, ih]
def Ww {β : Type} (LP0 : Bool → Int → Option β) (RET : (den Ay) × Bool → Option β) (k : Nat) (v : (den Ay)) (w : (den Ad)) : Option β := (Qj k v).bind fun b1 => cond (!b1) (RET (([], 0), false)) ((Hi k w).bind fun b2 => cond (!b2) (RET (([], 0), false)) (cond (decide (0 < (v.1.length : Int))) ((Wk k (An v.1 0) w).bind fun b3 => cond (!b3) (RET (([], 0), false)) (LP0 false 0)) none))
def Xie (k : Nat) (v : (den Ay)) (w : (den Ad)) : Option ((den Ay) × Bool) := Ww (I7 k v w k) some k v w
theorem Xs4 {β : Type} (k : Nat) (v : (den Ay)) (w : (den Ad)) (K : KT β) : Ag (N0 k) Tryz.f135 (PsT.put Xcr (v, w, ())) K = (Xie k v w).bind fun r => K (F135_O.put r) :=
 Eq.trans (b := Ww (Mx k v w K k) (fun r => K (F135_O.put r)) k v w) (by kernel_rfl) (by simp only [Xie, Ww, z1, z2, z3, z4, z5, z6, z7, z8, Ax, Bb, Xah])
def Xn0 (k : Nat) : FD := ⟨135, Xcr, F135_O, Xie k⟩
theorem X3c (k : Nat) : (Xn0 k).Ok Tryz.prog := ⟨fun x => Aa (Aj (Ak (.c (Xbi k) (.c (Ie k) (.c (Vf k) (.c (Vr k) .n))))) _ _ _ _) Ah Tryz.func135 rfl rfl (Xs4 k _ _ some), .of (by kernel_rfl)⟩
def Xys : Nat → Hint
 | 0 => ⟨pl 1 2 (pl 4 2 []), pl 1000 2 (pl 2000 9 (pl 4000 8 ((4008, .own .own (.int .u8) []) :: (pl 26000 1 []))))⟩
 | _ => ⟨[], []⟩
abbrev Xr (k : Nat) : Env := Ba (A0 [Wq k]) Xys .own [] k
abbrev Xcd : List PA := [.agg (.pair (.sl .ro Ad) mI)]
abbrev F136_O : RO := ⟨[.a, .v], [.pair mI m_7, mB]⟩
noncomputable def Xwr {β : Type} (k : Nat) (v : (den Ay)) (K : KT β) : Ex → St → Option β := Bi (Xr k) Tryz.f136 (PsT.put Xcd (v, ())) K
def Xsu (v : (den Ay)) (x5_0 : Int) (m4000_0 : (den Ad)) : St := ⟨(.one .d) :: (.one (.ptr (.cell 1000) 2 0)) :: (.one (.ptr (.cell 2000) 9 0)) :: (.one .d) :: (.one (.ptr (.cell 4000) 9 0)) :: (.one (vI x5_0)) :: dz 51 [], Bd 1000 (Cx (.pair (.sl .ro Ad) mI) v) (Bd 2000 (Cx (.pair mI m_7) (0, 0, 0, 0, 0, 0, false, false, [])) (Bd 4000 (Cx (.pair mI m_7) m4000_0) [eM 26000 .d]))⟩
noncomputable def Oi {β : Type} (k : Nat) (v : (den Ay)) (K : KT β) (n : Nat) (x5_0 : Int) (m4000_0 : (den Ad)) : Option β := A1 (Xr k) Tryz.f136 [1, 1, 1, 1, 1, 0, 1, 0] 0 (Ai (Xr k) [1, 1, 1, 1, 1, 0, 1, 0] (Al Tryz.f136) 0 (Xwr k v K)) n (Xsu v x5_0 m4000_0)
def Fx {β : Type} (NX : Int → (den Ad) → Option β) (RET : (den Ad) × Bool → Option β) (k : Nat) (v : (den Ay)) (x5_0 : Int) (m4000_0 : (den Ad)) : Option β := Bb v fun v0 _ => cond (decide (x5_0 < (v0.length : Int))) (Az x5_0 v0 (cond ((An v0 x5_0).2.2.2.2.2.1 != (m4000_0.2.2.2.2.2.2.2.2.length : Int)) (RET ((0, 0, 0, 0, 0, 0, false, false, []), false)) (Az x5_0 v0 (B3 (m4000_0.2.2.2.2.2.2.2.2.length) ((An v0 x5_0).2.2.2.2.2.2.2.2.length) 1 (NX (i64.wrap (x5_0 + 1)) (m4000_0.1, m4000_0.2.1, m4000_0.2.2.1, m4000_0.2.2.2.1, m4000_0.2.2.2.2.1, m4000_0.2.2.2.2.2.1, m4000_0.2.2.2.2.2.2.1, m4000_0.2.2.2.2.2.2.2.1, m4000_0.2.2.2.2.2.2.2.2 ++ (An v0 x5_0).2.2.2.2.2.2.2.2)))))) (RET (m4000_0, true))
def G7 (k : Nat) (v : (den Ay)) : Nat → Int → (den Ad) → Option ((den Ad) × Bool)
 | 0, _, _ => none
 | n + 1, x5_0, m4000_0 => Fx (G7 k v n) some k v x5_0 m4000_0
theorem Xar {β : Type} (k : Nat) (v : (den Ay)) (K : KT β) (n : Nat) : ∀ (x5_0 : Int) (m4000_0 : (den Ad)), Oi k v K n x5_0 m4000_0 =
  (G7 k v n x5_0 m4000_0).bind fun r => K (F136_O.put r) := by
 induction n with
 | zero => intros; rfl
 | succ n ih =>
  intro x5_0 m4000_0
  refine Eq.trans (b := Fx (Oi k v K n) (fun r => K (F136_O.put r)) k v x5_0 m4000_0) (by kernel_rfl) ?_
  rw [G7]
  simp only [Fx, z1, z2, z3, z4, z5, z6, z7, z8, Bb, ih]
def Uq {β : Type} (LP0 : Int → (den Ad) → Option β) (RET : (den Ad) × Bool → Option β) (k : Nat) (v : (den Ay)) : Option β := Bb v fun v0 _ => (Qj k v).bind fun b1 => cond (!b1) (RET ((0, 0, 0, 0, 0, 0, false, false, []), false)) (Az (i64.wrap ((v0.length : Int) - 1)) v0 (cond (An v0 (i64.wrap ((v0.length : Int) - 1))).2.2.2.2.2.2.1 (RET ((0, 0, 0, 0, 0, 0, false, false, []), false)) (cond (decide (0 < (v0.length : Int))) (LP0 0 ((An v0 0).1, (An v0 0).2.1, (An v0 0).2.2.1, (An v0 0).2.2.2.1, (An v0 0).2.2.2.2.1, (An v0 0).2.2.2.2.2.1, false, (An v0 0).2.2.2.2.2.2.2.1, [])) none)))
def Xgu (k : Nat) (v : (den Ay)) : Option ((den Ad) × Bool) := Uq (G7 k v k) some k v
theorem Xti {β : Type} (k : Nat) (v : (den Ay)) (K : KT β) : Ag (Xr k) Tryz.f136 (PsT.put Xcd (v, ())) K = (Xgu k v).bind fun r => K (F136_O.put r) :=
 Eq.trans (b := Uq (Oi k v K k) (fun r => K (F136_O.put r)) k v) (by kernel_rfl) (by simp only [Xgu, Uq, z1, z2, z3, z4, z5, z6, z7, z8, Bb, Xar])
def Xmq (k : Nat) : FD := ⟨136, Xcd, F136_O, Xgu k⟩
theorem X0k (k : Nat) : (Xmq k).Ok Tryz.prog := ⟨fun x => Aa (Aj (Ak (.c (Xbi k) .n)) _ _ _ _) Ah Tryz.func136 rfl rfl (Xti k _ some), .of (by kernel_rfl)⟩
def X1e : Nat → Hint
 | 0 => ⟨pl 1 4 [], pl 1000 2 (pl 2000 2 ((3000, .own .own Ad []) :: (pl 3001 1 [])))⟩
 | _ => ⟨[], []⟩
abbrev Vn (k : Nat) : Env := Ba (A0 [Qr k]) X1e .own [] k
abbrev Xc0 : List PA := [.agg (.pair (.sl .ro Ad) mI)]
abbrev F137_O : RO := ⟨[.a], [.pair (.sl .own Ad) mI]⟩
noncomputable def X12 {β : Type} (k : Nat) (v : (den Ay)) (K : KT β) : Ex → St → Option β := Bi (Vn k) Tryz.f137 (PsT.put Xc0 (v, ())) K
def Xs2 (v : (den Ay)) (x4_0 : Int) (m3000_0 : (den Ay)) : St := ⟨(.one .d) :: (.one (.ptr (.cell 1000) 2 0)) :: (.one (.ptr (.cell 2000) 2 0)) :: (.one (.ptr (.cell 3000) 2 0)) :: (.one (vI x4_0)) :: dz 22 [], Bd 1000 (Cx (.pair (.sl .ro Ad) mI) v) (Bd 2000 (Cx (.pair (.sl .own Ad) mI) ([], 0)) (Bd 3000 (Cx (.pair (.sl .own Ad) mI) m3000_0) []))⟩
noncomputable def Nx {β : Type} (k : Nat) (v : (den Ay)) (K : KT β) (n : Nat) (x4_0 : Int) (m3000_0 : (den Ay)) : Option β := A1 (Vn k) Tryz.f137 [1, 1, 0, 1, 0] 0 (Ai (Vn k) [1, 1, 0, 1, 0] (Al Tryz.f137) 0 (X12 k v K)) n (Xs2 v x4_0 m3000_0)
def Nh {β : Type} (NX : Int → (den Ay) → Option β) (RET : (den Ay) → Option β) (k : Nat) (v : (den Ay)) (x4_0 : Int) (m3000_0 : (den Ay)) : Option β := cond (decide (x4_0 < (v.1.length : Int))) (Az x4_0 v.1 ((Ml k (An v.1 x4_0)).bind fun b1 => B3 (m3000_0.1.length) ([b1].length) 80 (NX (i64.wrap (x4_0 + 1)) (m3000_0.1 ++ [b1], m3000_0.2)))) (RET m3000_0)
def Px (k : Nat) (v : (den Ay)) : Nat → Int → (den Ay) → Option ((den Ay))
 | 0, _, _ => none
 | n + 1, x4_0, m3000_0 => Nh (Px k v n) some k v x4_0 m3000_0
theorem Xdd {β : Type} (k : Nat) (v : (den Ay)) (K : KT β) (n : Nat) : ∀ (x4_0 : Int) (m3000_0 : (den Ay)), Nx k v K n x4_0 m3000_0 =
  (Px k v n x4_0 m3000_0).bind fun r => K (F137_O.put r) := by
 induction n with
 | zero => intros; rfl
 | succ n ih =>
  intro x4_0 m3000_0
  refine Eq.trans (b := Nh (Nx k v K n) (fun r => K (F137_O.put r)) k v x4_0 m3000_0) (by kernel_rfl) ?_
  rw [Px]
  simp only [Nh, z1, z2, z3, z4, z5, z6, z7, z8, Bb, ih]
def Xax {β : Type} (LP0 : Int → (den Ay) → Option β) (k : Nat) (v : (den Ay)) : Option β := LP0 0 ([], v.2)
def Xuc (k : Nat) (v : (den Ay)) : Option ((den Ay)) := Xax (Px k v k) k v
theorem Xtw {β : Type} (k : Nat) (v : (den Ay)) (K : KT β) : Ag (Vn k) Tryz.f137 (PsT.put Xc0 (v, ())) K = (Xuc k v).bind fun r => K (F137_O.put r) :=
 Eq.trans (b := Xax (Nx k v K k) k v) (by kernel_rfl) (by simp only [Xuc, Xax, z1, z2, z3, z4, z5, z6, z7, z8, Bb, Xdd])
def Xp7 (k : Nat) : FD := ⟨137, Xc0, F137_O, Xuc k⟩
theorem Xya (k : Nat) : (Xp7 k).Ok Tryz.prog := ⟨fun x => Aa (Aj (Ak (.c (Vr k) .n)) _ _ _ _) Ah Tryz.func137 rfl rfl (Xtw k _ some), .of (by kernel_rfl)⟩
def X5r : Nat → Hint
 | 0 => ⟨pl 0 1 (pl 2 1 (pl 4 1 (pl 7 1 ((9, .own .own Ay []) :: (pl 10 5 []))))), pl 4000 9 (pl 7000 9 (pl 12000 8 ((12008, .own .own (.int .u8) []) :: [])))⟩
 | _ => ⟨[], []⟩
abbrev Xf2 (k : Nat) : Env := Ba (A0 [Xka k, Gs k, Fl k, Rk k, Xn0 k, Xmq k, Xp7 k, Qr k]) X5r .own [] k
abbrev Xl9 : List PA := [.one (.sl .ro Ay), .agg (.pair mI C3), .one mI]
abbrev F62_O : RO := ⟨[.v, .a, .v], [.sl .own Ay, .pair mI m_7, mB]⟩
noncomputable def X5x {β : Type} (k : Nat) (v : Ae) (w : (den Ad)) (p : Int) (K : KT β) : Ex → St → Option β := Bi (Xf2 k) Tryz.f62 (PsT.put Xl9 (v, w, p, ())) K
def X2l (v : Ae) (w : (den Ad)) (p : Int) (x10_0 x11_0 x13_0 : Bool) (x14_0 : Int) (m12000_0 : (den Ad)) (m9900_0 : Ae) : St := ⟨(.one (.s .ro Ay v)) :: (.one .d) :: (.one (vI p)) :: (.one .d) :: (.one (.ptr (.cell 4000) 9 0)) :: (.one .d) :: (.one .d) :: (.one (.ptr (.cell 7000) 9 0)) :: (.one .d) :: (.one (.a (.cell 9900) 0 0 none)) :: (.one (vB x10_0)) :: (.one (vB x11_0)) :: (.one (.ptr (.cell 12000) 9 0)) :: (.one (vB x13_0)) :: (.one (vI x14_0)) :: dz 100 [], Bd 4000 (Cx (.pair mI C3) w) (Bd 7000 (Cx (.pair mI m_7) (0, 0, 0, 0, 0, 0, false, false, [])) (Bd 12000 (Cx (.pair mI m_7) m12000_0) [eM 9900 (.s .own Ay m9900_0)]))⟩
noncomputable def Rw {β : Type} (k : Nat) (v : Ae) (w : (den Ad)) (p : Int) (K : KT β) (n : Nat) (x10_0 x11_0 x13_0 : Bool) (x14_0 : Int) (m12000_0 : (den Ad)) (m9900_0 : Ae) : Option β := A1 (Xf2 k) Tryz.f62 [1, 1, 1, 1, 1, 1, 1, 0, 1, 0] 0 (Ai (Xf2 k) [1, 1, 1, 1, 1, 1, 1, 0, 1, 0] (Al Tryz.f62) 0 (X5x k v w p K)) n (X2l v w p x10_0 x11_0 x13_0 x14_0 m12000_0 m9900_0)
def Ns {β : Type} (k : Nat) (v : Ae) (w : (den Ad)) (p : Int) (NX : Bool → Bool → Bool → Int → (den Ad) → Ae → Option β) (RET : (Ae × (den Ad) × Bool) → Option β) (x14_0 : Int) (m9900_0 : Ae) (x10_0 x11_0 x13_0 : Bool) (m12000_0 : (den Ad)) : Option β := (Xuc k (An v x14_0)).bind fun b7 => B3 (m9900_0.length) ([b7].length) 32 (NX x10_0 x11_0 x13_0 (i64.wrap (x14_0 + 1)) m12000_0 (m9900_0 ++ [b7]))
def Dr {β : Type} (NX : Bool → Bool → Bool → Int → (den Ad) → Ae → Option β) (RET : (Ae × (den Ad) × Bool) → Option β) (k : Nat) (v : Ae) (w : (den Ad)) (p : Int) (x10_0 x11_0 x13_0 : Bool) (x14_0 : Int) (m12000_0 : (den Ad)) (m9900_0 : Ae) : Option β := cond (decide (x14_0 < (v.length : Int))) (Az x14_0 v (cond (decide ((An v x14_0).2 ≤ p)) (NX x10_0 x11_0 x13_0 (i64.wrap (x14_0 + 1)) m12000_0 m9900_0) (cond (!x10_0) (cond (decide (0 < ((An v x14_0).1.length : Int))) ((Wk k (An (An v x14_0).1 0) w).bind fun b4 => cond b4 ((Xie k (An v x14_0) w).bind fun b5 => (Xgu k b5.1).bind fun b6 => cond b5.2 (cond (!b6.2) (B3 (m9900_0.length) ([b5.1].length) 32 (NX x10_0 true b6.2 (i64.wrap (x14_0 + 1)) b6.1 (m9900_0 ++ [b5.1]))) (NX x10_0 true b6.2 (i64.wrap (x14_0 + 1)) b6.1 m9900_0)) (NX x10_0 true b6.2 (i64.wrap (x14_0 + 1)) b6.1 m9900_0)) (Ns k v w p NX RET x14_0 m9900_0 x10_0 x11_0 x13_0 m12000_0)) none) (Ns k v w p NX RET x14_0 m9900_0 x10_0 x11_0 x13_0 m12000_0)))) (cond x10_0 ((Ml k w).bind fun b9 => RET (m9900_0, b9, true)) (cond (!x11_0) ((Ml k w).bind fun b10 => B3 (m9900_0.length) ([([b10], i64.wrap (p + 15))].length) 32 (cond (decide (((m9900_0 ++ [([b10], i64.wrap (p + 15))]).length : Int) > 3)) (cond (decide (0 ≤ 1) && decide (1 ≤ ((m9900_0 ++ [([b10], i64.wrap (p + 15))]).length : Int))) (RET (((m9900_0 ++ [([b10], i64.wrap (p + 15))]).take ((((m9900_0 ++ [([b10], i64.wrap (p + 15))]).length : Int)).toNat)).drop 1, m12000_0, x13_0)) none) (RET (m9900_0 ++ [([b10], i64.wrap (p + 15))], m12000_0, x13_0)))) (cond (decide ((m9900_0.length : Int) > 3)) (cond (decide (0 ≤ 1) && decide (1 ≤ (m9900_0.length : Int))) (RET ((m9900_0.take (((m9900_0.length : Int)).toNat)).drop 1, m12000_0, x13_0)) none) (RET (m9900_0, m12000_0, x13_0)))))
def G2 (k : Nat) (v : Ae) (w : (den Ad)) (p : Int) : Nat → Bool → Bool → Bool → Int → (den Ad) → Ae → Option (Ae × (den Ad) × Bool)
 | 0, _, _, _, _, _, _ => none
 | n + 1, x10_0, x11_0, x13_0, x14_0, m12000_0, m9900_0 => Dr (G2 k v w p n) some k v w p x10_0 x11_0 x13_0 x14_0 m12000_0 m9900_0
theorem Xh5 {β : Type} (k : Nat) (v : Ae) (w : (den Ad)) (p : Int) (K : KT β) (n : Nat) : ∀ (x10_0 x11_0 x13_0 : Bool) (x14_0 : Int) (m12000_0 : (den Ad)) (m9900_0 : Ae), Rw k v w p K n x10_0 x11_0 x13_0 x14_0 m12000_0 m9900_0 =
  (G2 k v w p n x10_0 x11_0 x13_0 x14_0 m12000_0 m9900_0).bind fun r => K (F62_O.put r) := by
 induction n with
 | zero => intros; rfl
 | succ n ih =>
  intro x10_0 x11_0 x13_0 x14_0 m12000_0 m9900_0
  refine Eq.trans (b := Dr (Rw k v w p K n) (fun r => K (F62_O.put r)) k v w p x10_0 x11_0 x13_0 x14_0 m12000_0 m9900_0) (by kernel_rfl) ?_
  rw [G2]
  simp only [Dr, Ns, z1, z2, z3, z4, z5, z6, z7, z8, Ax, ih]
def S4 {β : Type} (LP0 : Bool → Bool → Bool → Int → (den Ad) → Ae → Option β) (RET : (Ae × (den Ad) × Bool) → Option β) (k : Nat) (v : Ae) (w : (den Ad)) (p : Int) : Option β := (Ym k v).bind fun b1 => cond (!b1) (RET ([], (0, 0, 0, 0, 0, 0, false, false, []), false)) ((Hi k w).bind fun b2 => cond (!b2) (RET ([], (0, 0, 0, 0, 0, 0, false, false, []), false)) ((Ky k p 0 999985).bind fun b3 => cond (!b3) (RET ([], (0, 0, 0, 0, 0, 0, false, false, []), false)) (cond (w.2.2.2.2.2.1 == 0) (LP0 (!w.2.2.2.2.2.2.1) false false 0 (0, 0, 0, 0, 0, 0, false, false, []) []) (LP0 false false false 0 (0, 0, 0, 0, 0, 0, false, false, []) []))))
def F62 (k : Nat) (v : Ae) (w : (den Ad)) (p : Int) : Option (Ae × (den Ad) × Bool) := S4 (G2 k v w p k) some k v w p
theorem X2g {β : Type} (k : Nat) (v : Ae) (w : (den Ad)) (p : Int) (K : KT β) : Ag (Xf2 k) Tryz.f62 (PsT.put Xl9 (v, w, p, ())) K = (F62 k v w p).bind fun r => K (F62_O.put r) :=
 Eq.trans (b := S4 (Rw k v w p K k) (fun r => K (F62_O.put r)) k v w p) (by kernel_rfl) (by simp only [F62, S4, z1, z2, z3, z4, z5, z6, z7, z8, Ax, Xh5])
def Xv0 (k : Nat) : FD := ⟨62, Xl9, F62_O, F62 k⟩
theorem X4u (k : Nat) : (Xv0 k).Ok Tryz.prog := ⟨fun x => Aa (Aj (Ak (.c (Xws k) (.c (Ie k) (.c (F7 k) (.c (Vf k) (.c (X3c k) (.c (X0k k) (.c (Xya k) (.c (Vr k) .n))))))))) _ _ _ _) Ah Tryz.func62 rfl rfl (X2g k _ _ _ some), .of (by kernel_rfl)⟩
end
end Go.Proofs.YtdmepjjepogddaaGreat.Gn
end

section
set_option linter.unusedVariables false
set_option linter.unusedSimpArgs false
namespace Go.Proofs.YtdmepjjepogddaaGreat.Gn
open Go.Rf IntKind
noncomputable section
def X32 : Nat → Hint
 | 0 => ⟨pl 14 1 ((15, .own .own Ay []) :: (pl 16 1 [])), pl 14000 3 []⟩
 | _ => ⟨[], []⟩
abbrev Xfh (k : Nat) : Env := Ba (A0 [Xmx k, Fl k, Xu6 k, Xv0 k]) X32 .own [] k
abbrev Xke : List PA := [.one (.sl .ro sta), .one mI, .one mI, .one mI, .one mI, .one (.sl .ro (.int .u8))]
abbrev F13_O : RO := ⟨[.v, .v], [.sl .own (.int .u8), mB]⟩
noncomputable def X47 {β : Type} (k : Nat) (v : Ab) (w p q o : Int) (c : Ac) (K : KT β) : Ex → St → Option β := Bi (Xfh k) Tryz.f13 (PsT.put Xke (v, w, p, q, o, c, ())) K
def Xw2 (v : Ab) (w p q o : Int) (c : Ac) (x16_0 : Int) (m14000_0 : (den Cy)) (m15900_0 : Ae) : St := ⟨dz 14 ((.one (.ptr (.cell 14000) 3 0)) :: (.one (.a (.cell 15900) 0 0 none)) :: (.one (vI x16_0)) :: dz 59 []), Bd 14000 (Cx m_11 m14000_0) [eM 15900 (.s .own Ay m15900_0)]⟩
noncomputable def Q1 {β : Type} (k : Nat) (v : Ab) (w p q o : Int) (c : Ac) (K : KT β) (n : Nat) (x16_0 : Int) (m14000_0 : (den Cy)) (m15900_0 : Ae) : Option β := A1 (Xfh k) Tryz.f13 [1, 1, 1, 1, 0, 1, 0] 0 (Ai (Xfh k) [1, 1, 1, 1, 0, 1, 0] (Al Tryz.f13) 0 (X47 k v w p q o c K)) n (Xw2 v w p q o c x16_0 m14000_0 m15900_0)
def F5 {β : Type} (NX : Int → (den Cy) → Ae → Option β) (RET : (Ac × Bool) → Option β) (k : Nat) (v : Ab) (w p q o : Int) (c : Ac) (x16_0 : Int) (m14000_0 : (den Cy)) (m15900_0 : Ae) : Option β := cond (decide (x16_0 < (m14000_0.1.length : Int))) (Az x16_0 m14000_0.1 ((F62 k m15900_0 (An m14000_0.1 x16_0) 0).bind fun b4 => cond b4.2.2 (B3 (([] : Ac).length) (b4.2.1.2.2.2.2.2.2.2.2.length) 1 (RET ([] ++ b4.2.1.2.2.2.2.2.2.2.2, true))) (NX (i64.wrap (x16_0 + 1)) m14000_0 b4.1))) (RET ([], false))
def G5 (k : Nat) (v : Ab) (w p q o : Int) (c : Ac) : Nat → Int → (den Cy) → Ae → Option (Ac × Bool)
 | 0, _, _, _ => none
 | n + 1, x16_0, m14000_0, m15900_0 => F5 (G5 k v w p q o c n) some k v w p q o c x16_0 m14000_0 m15900_0
theorem Xio {β : Type} (k : Nat) (v : Ab) (w p q o : Int) (c : Ac) (K : KT β) (n : Nat) : ∀ (x16_0 : Int) (m14000_0 : (den Cy)) (m15900_0 : Ae), Q1 k v w p q o c K n x16_0 m14000_0 m15900_0 =
  (G5 k v w p q o c n x16_0 m14000_0 m15900_0).bind fun r => K (F13_O.put r) := by
 induction n with
 | zero => intros; rfl
 | succ n ih =>
  intro x16_0 m14000_0 m15900_0
  refine Eq.trans (b := F5 (Q1 k v w p q o c K n) (fun r => K (F13_O.put r)) k v w p q o c x16_0 m14000_0 m15900_0) (by kernel_rfl) ?_
  rw [G5]
  simp only [F5, z1, z2, z3, z4, z5, z6, z7, z8, ih]
def Xfo {β : Type} (LP0 : Int → (den Cy) → Ae → Option β) (RET : (Ac × Bool) → Option β) (k : Nat) (v : Ab) (w p q o : Int) (c : Ac) : Option β := (F59 k v).bind fun b1 => cond (!b1) (RET ([], false)) ((Ky k w 0 (i64.wrap ((v.length : Int) - 1))).bind fun b2 => cond (!b2) (RET ([], false)) (cond (decide ((c.length : Int) > 48)) (RET ([], false)) (Az w v ((F61 k v w ((An v w).1, p, q, 64, o, 0, false, false, c)).bind fun b3 => LP0 0 b3 []))))
def F13 (k : Nat) (v : Ab) (w p q o : Int) (c : Ac) : Option (Ac × Bool) := Xfo (G5 k v w p q o c k) some k v w p q o c
theorem X0m {β : Type} (k : Nat) (v : Ab) (w p q o : Int) (c : Ac) (K : KT β) : Ag (Xfh k) Tryz.f13 (PsT.put Xke (v, w, p, q, o, c, ())) K = (F13 k v w p q o c).bind fun r => K (F13_O.put r) :=
 Eq.trans (b := Xfo (Q1 k v w p q o c K k) (fun r => K (F13_O.put r)) k v w p q o c) (by kernel_rfl) (by simp only [F13, Xfo, z1, z2, z3, z4, z5, z6, z7, z8, Xio])
def Xvf (k : Nat) : FD := ⟨13, Xke, F13_O, F13 k⟩
theorem X4b (k : Nat) : (Xvf k).Ok Tryz.prog := ⟨fun x => Aa (Aj (Ak (.c (Xu3 k) (.c (F7 k) (.c (X4q k) (.c (X4u k) .n))))) _ _ _ _) Ah Tryz.func13 rfl rfl (X0m k _ _ _ _ _ _ some), .of (by kernel_rfl)⟩
end
end Go.Proofs.YtdmepjjepogddaaGreat.Gn
end

section
set_option linter.unusedVariables false
set_option linter.unusedSimpArgs false
namespace Go.Proofs.YtdmepjjepogddaaGreat.Gn
open Go.Rf IntKind
noncomputable section
abbrev X33 (k : Nat) : Env := Ba Bl Ap .own [] k
abbrev Xvn : List PA := [.one mI, .one mI, .one mI]
abbrev F64_O : RO := ⟨[.v], [mB]⟩
def Tm (k : Nat) (v w p : Int) : Option (Bool) := cond (decide (v ≥ w)) (some (decide (v ≤ p))) (some false)
theorem Xw8 {β : Type} (k : Nat) (v w p : Int) (K : KT β) : Ag (X33 k) Tryz.f64 (PsT.put Xvn (v, w, p, ())) K = (Tm k v w p).bind fun r => K (F64_O.put r) :=
 Eq.trans (b := cond (decide (v ≥ w)) (K (F64_O.put (decide (v ≤ p)))) (K (F64_O.put false))) (by kernel_rfl) (by simp only [Tm, z1, z2, z3, z4, z5, z6, z7, z8])
def Kh (k : Nat) : FD := ⟨64, Xvn, F64_O, Tm k⟩
theorem Mp (k : Nat) : (Kh k).Ok Tryz.prog := ⟨fun x => Aa (Aj .none _ _ _ _) Ah Tryz.func64 rfl rfl (Xw8 k _ _ _ some), .of (by kernel_rfl)⟩
abbrev X4n (k : Nat) : Env := Ba (A0 [Kh k]) Ap .own [] k
abbrev Xvi : List PA := [.one mI]
abbrev F65_O : RO := ⟨[.v], [mB]⟩
def F65 (k : Nat) (v : Int) : Option (Bool) := (Tm k v 0 65535).bind fun b1 => some b1
theorem Xx6 {β : Type} (k : Nat) (v : Int) (K : KT β) : Ag (X4n k) Tryz.f65 (PsT.put Xvi (v, ())) K = (F65 k v).bind fun r => K (F65_O.put r) :=
 Eq.trans (b := (Tm k v 0 65535).bind fun b1 => K (F65_O.put b1)) (by kernel_rfl) (by simp only [F65, z1, z2, z3, z4, z5, z6, z7, z8])
def Sq (k : Nat) : FD := ⟨65, Xvi, F65_O, F65 k⟩
theorem Tf (k : Nat) : (Sq k).Ok Tryz.prog := ⟨fun x => Aa (Aj (Ak (.c (Mp k) .n)) _ _ _ _) Ah Tryz.func65 rfl rfl (Xx6 k _ some), .of (by kernel_rfl)⟩
abbrev Xw3 (k : Nat) : Env := Ba (A0 [Kh k, Sq k]) Ap .own [] k
abbrev Xny : List PA := [.agg m_1]
abbrev F226_O : RO := ⟨[.v], [mB]⟩
def Uk {β : Type} (RET : Bool → Option β) (k : Nat) (v : (den B4)) : Option β := Gf v fun v0 v1 v2 v3 => (Tm k v1 0 16).bind fun b1 => cond b1 ((F65 k v0).bind fun b2 => cond b2 (cond (decide ((i64.wrap (16 - v1)) < 0)) none (cond (decide ((i64.wrap (1 * 2 ^ (min (i64.wrap (16 - v1)).toNat 64))) = 0)) none (cond ((v0.tmod (i64.wrap (1 * 2 ^ (min (i64.wrap (16 - v1)).toNat 64)))) == 0) ((F65 k v2).bind fun b3 => cond b3 ((Tm k v3 1 48).bind fun b4 => RET b4) (RET false)) (RET false)))) (RET false)) (RET false)
def Xgw := Uk (β := Bool) some
theorem Xql {β : Type} (k : Nat) (v : (den B4)) (K : KT β) : Ag (Xw3 k) Tryz.f226 (PsT.put Xny (v, ())) K = (Xgw k v).bind fun r => K (F226_O.put r) :=
 Eq.trans (b := Uk (fun r => K (F226_O.put r)) k v) (by kernel_rfl) (by simp only [Xgw, Uk, z1, z2, z3, z4, z5, z6, z7, z8, Gf])
def Xmg (k : Nat) : FD := ⟨226, Xny, F226_O, Xgw k⟩
theorem Xxt (k : Nat) : (Xmg k).Ok Tryz.prog := ⟨fun x => Aa (Aj (Ak (.c (Mp k) (.c (Tf k) .n))) _ _ _ _) Ah Tryz.func226 rfl rfl (Xql k _ some), .of (by kernel_rfl)⟩
abbrev Xxy (k : Nat) : Env := Ba Bl Ap .own [] k
abbrev Xom : List PA := [.one mI]
abbrev F228_O : RO := ⟨[.v], [mB]⟩
def Xgf (k : Nat) (v : Int) : Option (Bool) := some (v != v)
theorem Xux {β : Type} (k : Nat) (v : Int) (K : KT β) : Ag (Xxy k) Tryz.f228 (PsT.put Xom (v, ())) K = (Xgf k v).bind fun r => K (F228_O.put r) :=
 Eq.trans (b := K (F228_O.put (v != v))) (by kernel_rfl) (by simp only [Xgf, z1, z2, z3, z4, z5, z6, z7, z8])
def Xlx (k : Nat) : FD := ⟨228, Xom, F228_O, Xgf k⟩
theorem Xwo (k : Nat) : (Xlx k).Ok Tryz.prog := ⟨fun x => Aa (Aj .none _ _ _ _) Ah Tryz.func228 rfl rfl (Xux k _ some), .of (by kernel_rfl)⟩
abbrev X3a (k : Nat) : Env := Ba (A0 [Xlx k]) Ap .own [] k
abbrev Xng : List PA := [.one mI, .one mI]
abbrev F162_O : RO := ⟨[.v], [mI]⟩
def Wc {β : Type} (RET : Int → Option β) (k : Nat) (v w : Int) : Option β := (Xgf k v).bind fun b1 => (Xgf k w).bind fun b2 => cond b1 (cond b2 (RET 0) (RET (-1))) (cond b2 (RET 1) (cond (decide (v < w)) (RET (-1)) (cond (decide (v > w)) (RET 1) (RET 0))))
def Xb7 := Wc (β := Int) some
theorem Xrr {β : Type} (k : Nat) (v w : Int) (K : KT β) : Ag (X3a k) Tryz.f162 (PsT.put Xng (v, w, ())) K = (Xb7 k v w).bind fun r => K (F162_O.put r) :=
 Eq.trans (b := Wc (fun r => K (F162_O.put r)) k v w) (by kernel_rfl) (by simp only [Xb7, Wc, z1, z2, z3, z4, z5, z6, z7, z8])
def Xja (k : Nat) : FD := ⟨162, Xng, F162_O, Xb7 k⟩
theorem Xxk (k : Nat) : (Xja k).Ok Tryz.prog := ⟨fun x => Aa (Aj (Ak (.c (Xwo k) .n)) _ _ _ _) Ah Tryz.func162 rfl rfl (Xrr k _ _ some), .of (by kernel_rfl)⟩
def X20 : Nat → Hint
 | 0 => ⟨pl 3 1 (pl 6 3 []), []⟩
 | _ => ⟨[], []⟩
abbrev U0 (k : Nat) : Env := Ba Bl X20 .own [] k
abbrev Xc7 : List PA := [.one (.sl .ro (.int .i64))]
abbrev F280_O : RO := ⟨[.v], [mI]⟩
noncomputable def Xzd {β : Type} (k : Nat) (v : Bc) (K : KT β) : Ex → St → Option β := Bi (U0 k) Tryz.f280 (PsT.put Xc7 (v, ())) K
def Xto (v : Bc) (x8_0 : Int) : St := ⟨dz 3 ((.one (vI 0)) :: (.one .d) :: (.one .d) :: (.one (.s .ro (.int .i64) v)) :: (.one (vI (v.length : Int))) :: (.one (vI x8_0)) :: dz 9 []), []⟩
noncomputable def Ol {β : Type} (k : Nat) (v : Bc) (K : KT β) (n : Nat) (x8_0 : Int) : Option β := A1 (U0 k) Tryz.f280 [1, 1, 0, 1, 0] 0 (Ai (U0 k) [1, 1, 0, 1, 0] (Al Tryz.f280) 0 (Xzd k v K)) n (Xto v x8_0)
def Eg {β : Type} (NX : Int → Option β) (RET : Int → Option β) (k : Nat) (v : Bc) (x8_0 : Int) : Option β := cond (decide (x8_0 < (v.length : Int))) (Az x8_0 v (cond ((An v x8_0) != 0) (RET (An v x8_0)) (NX (i64.wrap (x8_0 + 1))))) (RET 0)
def Fb (k : Nat) (v : Bc) : Nat → Int → Option (Int)
 | 0, _ => none
 | n + 1, x8_0 => Eg (Fb k v n) some k v x8_0
theorem Xay {β : Type} (k : Nat) (v : Bc) (K : KT β) (n : Nat) : ∀ (x8_0 : Int), Ol k v K n x8_0 =
  (Fb k v n x8_0).bind fun r => K (F280_O.put r) := by
 induction n with
 | zero => intros; rfl
 | succ n ih =>
  intro x8_0
  refine Eq.trans (b := Eg (Ol k v K n) (fun r => K (F280_O.put r)) k v x8_0) (by kernel_rfl) ?_
  rw [Fb]
  simp only [Eg, z1, z2, z3, z4, z5, z6, z7, z8, ih]
def Xco {β : Type} (LP0 : Int → Option β) (k : Nat) (v : Bc) : Option β := LP0 0
def Xky (k : Nat) (v : Bc) : Option (Int) := Xco (Fb k v k) k v
theorem Xtg {β : Type} (k : Nat) (v : Bc) (K : KT β) : Ag (U0 k) Tryz.f280 (PsT.put Xc7 (v, ())) K = (Xky k v).bind fun r => K (F280_O.put r) :=
 Eq.trans (b := Xco (Ol k v K k) k v) (by kernel_rfl) (by simp only [Xky, Xco, z1, z2, z3, z4, z5, z6, z7, z8, Xay])
def Xpo (k : Nat) : FD := ⟨280, Xc7, F280_O, Xky k⟩
theorem Xxd (k : Nat) : (Xpo k).Ok Tryz.prog := ⟨fun x => Aa (Aj .none _ _ _ _) Ah Tryz.func280 rfl rfl (Xtg k _ some), .of (by kernel_rfl)⟩
abbrev X2o (k : Nat) : Env := Ba (A0 [Xja k, Xpo k]) Ap .own [] k
abbrev Xp5 : List PA := [.agg m_1, .agg m_1]
abbrev F227_O : RO := ⟨[.v], [mI]⟩
def U3 {β : Type} (RET : Int → Option β) (k : Nat) (v w : (den B4)) : Option β := (Xb7 k v.2.1 w.2.1).bind fun b1 => (Xb7 k v.1 w.1).bind fun b2 => (Xky k [b1, b2]).bind fun b3 => RET b3
def Xgh := U3 (β := Int) some
theorem Xqf {β : Type} (k : Nat) (v w : (den B4)) (K : KT β) : Ag (X2o k) Tryz.f227 (PsT.put Xp5 (v, w, ())) K = (Xgh k v w).bind fun r => K (F227_O.put r) :=
 Eq.trans (b := U3 (fun r => K (F227_O.put r)) k v w) (by kernel_rfl) (by simp only [Xgh, U3, z1, z2, z3, z4, z5, z6, z7, z8, Gf])
def Xlq (k : Nat) : FD := ⟨227, Xp5, F227_O, Xgh k⟩
theorem Xyi (k : Nat) : (Xlq k).Ok Tryz.prog := ⟨fun x => Aa (Aj (Ak (.c (Xxk k) (.c (Xxd k) .n))) _ _ _ _) Ah Tryz.func227 rfl rfl (Xqf k _ _ some), .of (by kernel_rfl)⟩
def Xy6 : Nat → Hint
 | 0 => ⟨pl 0 1 (pl 5 3 []), []⟩
 | _ => ⟨[], []⟩
abbrev U9 (k : Nat) : Env := Ba (A0 [Xmg k, Xlq k]) Xy6 .own [] k
abbrev Z7 : List PA := [.one (.sl .ro B4)]
abbrev F158_O : RO := ⟨[.v], [mB]⟩
noncomputable def Xxz {β : Type} (k : Nat) (v : Au) (K : KT β) : Ex → St → Option β := Bi (U9 k) Tryz.f158 (PsT.put Z7 (v, ())) K
def Xsm (v : Au) (x7_0 : Int) : St := ⟨(.one (.s .ro B4 v)) :: dz 4 ((.one (.s .ro B4 v)) :: (.one (vI (v.length : Int))) :: (.one (vI x7_0)) :: dz 25 []), []⟩
noncomputable def Ny {β : Type} (k : Nat) (v : Au) (K : KT β) (n : Nat) (x7_0 : Int) : Option β := A1 (U9 k) Tryz.f158 [1, 0, 1, 0] 0 (Ai (U9 k) [1, 0, 1, 0] (Al Tryz.f158) 0 (Xxz k v K)) n (Xsm v x7_0)
def Jy {β : Type} (NX : Int → Option β) (RET : Bool → Option β) (k : Nat) (v : Au) (x7_0 : Int) : Option β := cond (decide (x7_0 < (v.length : Int))) (Az x7_0 v ((Xgw k (An v x7_0)).bind fun b1 => cond (!b1) (RET false) (cond (decide (x7_0 > 0)) (Az (i64.wrap (x7_0 - 1)) v ((Xgh k (An v (i64.wrap (x7_0 - 1))) (An v x7_0)).bind fun b2 => cond (decide (b2 ≥ 0)) (RET false) (NX (i64.wrap (x7_0 + 1))))) (NX (i64.wrap (x7_0 + 1)))))) (RET (decide ((v.length : Int) ≤ 8)))
def J4 (k : Nat) (v : Au) : Nat → Int → Option (Bool)
 | 0, _ => none
 | n + 1, x7_0 => Jy (J4 k v n) some k v x7_0
theorem Xbp {β : Type} (k : Nat) (v : Au) (K : KT β) (n : Nat) : ∀ (x7_0 : Int), Ny k v K n x7_0 =
  (J4 k v n x7_0).bind fun r => K (F158_O.put r) := by
 induction n with
 | zero => intros; rfl
 | succ n ih =>
  intro x7_0
  refine Eq.trans (b := Jy (Ny k v K n) (fun r => K (F158_O.put r)) k v x7_0) (by kernel_rfl) ?_
  rw [J4]
  simp only [Jy, z1, z2, z3, z4, z5, z6, z7, z8, ih]
def Xb1 {β : Type} (LP0 : Int → Option β) (k : Nat) (v : Au) : Option β := LP0 0
def Xip (k : Nat) (v : Au) : Option (Bool) := Xb1 (J4 k v k) k v
theorem Xuj {β : Type} (k : Nat) (v : Au) (K : KT β) : Ag (U9 k) Tryz.f158 (PsT.put Z7 (v, ())) K = (Xip k v).bind fun r => K (F158_O.put r) :=
 Eq.trans (b := Xb1 (Ny k v K k) k v) (by kernel_rfl) (by simp only [Xip, Xb1, z1, z2, z3, z4, z5, z6, z7, z8, Xbp])
def Xnf (k : Nat) : FD := ⟨158, Z7, F158_O, Xip k⟩
theorem Xzg (k : Nat) : (Xnf k).Ok Tryz.prog := ⟨fun x => Aa (Aj (Ak (.c (Xxt k) (.c (Xyi k) .n))) _ _ _ _) Ah Tryz.func158 rfl rfl (Xuj k _ some), .of (by kernel_rfl)⟩
abbrev X38 (k : Nat) : Env := Ba (A0 [Sq k, Xnf k]) Ap .own [] k
abbrev Xwf : List PA := [.agg (.pair mI (.sl .ro B4))]
abbrev F88_O : RO := ⟨[.v], [mB]⟩
def F88 (k : Nat) (v : (den sta)) : Option (Bool) := (F65 k v.1).bind fun b1 => cond b1 ((Xip k v.2).bind fun b2 => some b2) (some false)
theorem Xyg {β : Type} (k : Nat) (v : (den sta)) (K : KT β) : Ag (X38 k) Tryz.f88 (PsT.put Xwf (v, ())) K = (F88 k v).bind fun r => K (F88_O.put r) :=
 Eq.trans (b := (F65 k v.1).bind fun b1 => cond b1 ((Xip k v.2).bind fun b2 => K (F88_O.put b2)) (K (F88_O.put false))) (by kernel_rfl) (by simp only [F88, z1, z2, z3, z4, z5, z6, z7, z8])
def Xv1 (k : Nat) : FD := ⟨88, Xwf, F88_O, F88 k⟩
theorem X49 (k : Nat) : (Xv1 k).Ok Tryz.prog := ⟨fun x => Aa (Aj (Ak (.c (Tf k) (.c (Xzg k) .n))) _ _ _ _) Ah Tryz.func88 rfl rfl (Xyg k _ some), .of (by kernel_rfl)⟩
abbrev Xyz (k : Nat) : Env := Ba Bl Ap .own [(false, 1000)] k
abbrev Xlv : List PA := [.agg (.pair mI (.sl .ro B4)), .p mI]
abbrev F148_O : RO := ⟨[.v], [mB, mI]⟩
def Xme (k : Nat) (v : (den sta)) (w : Int) : Option (Bool × Int) := some ((v.1 == w), w)
theorem Xq3 {β : Type} (k : Nat) (v : (den sta)) (w : Int) (K : KT β) : Ag (Xyz k) Tryz.f148 (PsT.put Xlv (v, w, ())) K = (Xme k v w).bind fun r => K (F148_O.put r) :=
 Eq.trans (b := K (F148_O.put ((v.1 == w), w))) (by kernel_rfl) (by simp only [Xme, z1, z2, z3, z4, z5, z6, z7, z8])
def Xls (k : Nat) : FD := ⟨148, Xlv, F148_O, Xme k⟩
theorem X00 (k : Nat) : (Xls k).Ok Tryz.prog := ⟨fun x => Aa (Aj .none _ _ _ _) Ah Tryz.func148 rfl rfl (Xq3 k _ _ some), .of (by kernel_rfl)⟩
def Xye : Nat → Hint
 | 0 => ⟨pl 0 2 (pl 7 2 []), pl 1100 1 []⟩
 | _ => ⟨[], []⟩
abbrev Xl (k : Nat) : Env := Ba (A0 [Xls k]) Xye .own [(false, 1100)] k
abbrev Xcz : List PA := [.one (.sl .ro sta), .fc 148 [mI]]
abbrev F147_O : RO := ⟨[.v], [mI, mI]⟩
noncomputable def X3w {β : Type} (k : Nat) (v : Ab) (wx : Int) (K : KT β) : Ex → St → Option β := Bi (Xl k) Tryz.f147 (PsT.put Xcz (v, (wx, ()), ())) K
def Xss (v : Ab) (wx : Int) (x8_0 m1100_0 : Int) : St := ⟨(.one (.s .ro sta v)) :: (.one (.fn 148 [((.cell 1100), 1, 0)])) :: dz 5 ((.one (vI (v.length : Int))) :: (.one (vI x8_0)) :: dz 10 []), [iM 1100 m1100_0]⟩
noncomputable def Oc {β : Type} (k : Nat) (v : Ab) (wx : Int) (K : KT β) (n : Nat) (x8_0 m1100_0 : Int) : Option β := A1 (Xl k) Tryz.f147 [1, 0, 1, 0] 0 (Ai (Xl k) [1, 0, 1, 0] (Al Tryz.f147) 0 (X3w k v wx K)) n (Xss v wx x8_0 m1100_0)
def J0 {β : Type} (NX : Int → Int → Option β) (RET : (Int × Int) → Option β) (k : Nat) (v : Ab) (wx : Int) (x8_0 m1100_0 : Int) : Option β := cond (decide (x8_0 < (v.length : Int))) (Az x8_0 v ((Xme k (An v x8_0) m1100_0).bind fun b1 => cond b1.1 (RET (x8_0, b1.2)) (NX (i64.wrap (x8_0 + 1)) b1.2))) (RET ((-1), m1100_0))
def Jo (k : Nat) (v : Ab) (wx : Int) : Nat → Int → Int → Option (Int × Int)
 | 0, _, _ => none
 | n + 1, x8_0, m1100_0 => J0 (Jo k v wx n) some k v wx x8_0 m1100_0
theorem Xbx {β : Type} (k : Nat) (v : Ab) (wx : Int) (K : KT β) (n : Nat) : ∀ (x8_0 m1100_0 : Int), Oc k v wx K n x8_0 m1100_0 =
  (Jo k v wx n x8_0 m1100_0).bind fun r => K (F147_O.put r) := by
 induction n with
 | zero => intros; rfl
 | succ n ih =>
  intro x8_0 m1100_0
  refine Eq.trans (b := J0 (Oc k v wx K n) (fun r => K (F147_O.put r)) k v wx x8_0 m1100_0) (by kernel_rfl) ?_
  rw [Jo]
  simp only [J0, z1, z2, z3, z4, z5, z6, z7, z8, ih]
def Xdh {β : Type} (LP0 : Int → Int → Option β) (k : Nat) (v : Ab) (wx : Int) : Option β := LP0 0 wx
def Xlo (k : Nat) (v : Ab) (wx : Int) : Option (Int × Int) := Xdh (Jo k v wx k) k v wx
theorem Xtu {β : Type} (k : Nat) (v : Ab) (wx : Int) (K : KT β) : Ag (Xl k) Tryz.f147 (PsT.put Xcz (v, (wx, ()), ())) K = (Xlo k v wx).bind fun r => K (F147_O.put r) :=
 Eq.trans (b := Xdh (Oc k v wx K k) k v wx) (by kernel_rfl) (by simp only [Xlo, Xdh, z1, z2, z3, z4, z5, z6, z7, z8, Xbx])
def Xmp (k : Nat) : FD := ⟨147, Xcz, F147_O, Xlo k⟩
theorem Xym (k : Nat) : (Xmp k).Ok Tryz.prog := ⟨fun x => Aa (Aj (Ak (.c (X00 k) .n)) _ _ _ _) Ah Tryz.func147 rfl rfl (Xtu k _ _ some), .of (by kernel_rfl)⟩
abbrev X4f (k : Nat) : Env := Ba (A0 [Xmp k]) Ap .own [] k
abbrev Xvx : List PA := [.one (.sl .ro sta), .one mI]
abbrev F75_O : RO := ⟨[.v], [mI]⟩
def F75 (k : Nat) (v : Ab) (w : Int) : Option (Int) := (Xlo k v w).bind fun b1 => some b1.1
theorem Xw5 {β : Type} (k : Nat) (v : Ab) (w : Int) (K : KT β) : Ag (X4f k) Tryz.f75 (PsT.put Xvx (v, w, ())) K = (F75 k v w).bind fun r => K (F75_O.put r) :=
 Eq.trans (b := (Xlo k v w).bind fun b1 => K (F75_O.put b1.1)) (by kernel_rfl) (by simp only [F75, z1, z2, z3, z4, z5, z6, z7, z8])
def Xnq (k : Nat) : FD := ⟨75, Xvx, F75_O, F75 k⟩
theorem Xv4 (k : Nat) : (Xnq k).Ok Tryz.prog := ⟨fun x => Aa (Aj (Ak (.c (Xym k) .n)) _ _ _ _) Ah Tryz.func75 rfl rfl (Xw5 k _ _ some), .of (by kernel_rfl)⟩
def X4s : Nat → Hint
 | 0 => ⟨pl 0 1 (pl 5 3 []), []⟩
 | _ => ⟨[], []⟩
abbrev Xe7 (k : Nat) : Env := Ba (A0 [Xv1 k, Xnq k]) X4s .own [] k
abbrev Xjo : List PA := [.one (.sl .ro sta)]
abbrev F31_O : RO := ⟨[.v], [mB]⟩
noncomputable def X36 {β : Type} (k : Nat) (v : Ab) (K : KT β) : Ex → St → Option β := Bi (Xe7 k) Tryz.f31 (PsT.put Xjo (v, ())) K
def Xz8 (v : Ab) (x7_0 : Int) : St := ⟨(.one (.s .ro sta v)) :: dz 4 ((.one (.s .ro sta v)) :: (.one (vI (v.length : Int))) :: (.one (vI x7_0)) :: dz 19 []), []⟩
noncomputable def Sh {β : Type} (k : Nat) (v : Ab) (K : KT β) (n : Nat) (x7_0 : Int) : Option β := A1 (Xe7 k) Tryz.f31 [1, 0, 1, 0] 0 (Ai (Xe7 k) [1, 0, 1, 0] (Al Tryz.f31) 0 (X36 k v K)) n (Xz8 v x7_0)
def Ln {β : Type} (NX : Int → Option β) (RET : Bool → Option β) (k : Nat) (v : Ab) (x7_0 : Int) : Option β := cond (decide (x7_0 < (v.length : Int))) (Az x7_0 v ((F88 k (An v x7_0)).bind fun b1 => cond (!b1) (RET false) ((F75 k v (An v x7_0).1).bind fun b2 => cond (decide (b2 < x7_0)) (RET false) (NX (i64.wrap (x7_0 + 1)))))) (RET (decide ((v.length : Int) ≤ 5)))
def Oo (k : Nat) (v : Ab) : Nat → Int → Option (Bool)
 | 0, _ => none
 | n + 1, x7_0 => Ln (Oo k v n) some k v x7_0
theorem Xii {β : Type} (k : Nat) (v : Ab) (K : KT β) (n : Nat) : ∀ (x7_0 : Int), Sh k v K n x7_0 =
  (Oo k v n x7_0).bind fun r => K (F31_O.put r) := by
 induction n with
 | zero => intros; rfl
 | succ n ih =>
  intro x7_0
  refine Eq.trans (b := Ln (Sh k v K n) (fun r => K (F31_O.put r)) k v x7_0) (by kernel_rfl) ?_
  rw [Oo]
  simp only [Ln, z1, z2, z3, z4, z5, z6, z7, z8, ih]
def Xmn {β : Type} (LP0 : Int → Option β) (k : Nat) (v : Ab) : Option β := LP0 0
def F31 (k : Nat) (v : Ab) : Option (Bool) := Xmn (Oo k v k) k v
theorem X1i {β : Type} (k : Nat) (v : Ab) (K : KT β) : Ag (Xe7 k) Tryz.f31 (PsT.put Xjo (v, ())) K = (F31 k v).bind fun r => K (F31_O.put r) :=
 Eq.trans (b := Xmn (Sh k v K k) k v) (by kernel_rfl) (by simp only [F31, Xmn, z1, z2, z3, z4, z5, z6, z7, z8, Xii])
def Xv8 (k : Nat) : FD := ⟨31, Xjo, F31_O, F31 k⟩
theorem X5h (k : Nat) : (Xv8 k).Ok Tryz.prog := ⟨fun x => Aa (Aj (Ak (.c (X49 k) (.c (Xv4 k) .n))) _ _ _ _) Ah Tryz.func31 rfl rfl (X1i k _ some), .of (by kernel_rfl)⟩
abbrev Xyo (k : Nat) : Env := Ba Bl Ap .own [] k
abbrev Xlg : List PA := [.one (.sl .own (.int .u8))]
abbrev F197_O : RO := ⟨[.v], [.sl .own (.int .u8)]⟩
def Vu {β : Type} (RET : Ac → Option β) (k : Nat) (v : Ac) : Option β := cond (decide (0 ≤ (v.length : Int)) && decide ((v.length : Int) ≤ (v.length : Int))) (cond (decide ((v.length : Int) = (v.length : Int))) (RET ((v.take ((v.length : Int).toNat)).drop 0)) none) none
def Xh1 := Vu (β := Ac) some
theorem Xso {β : Type} (k : Nat) (v : Ac) (K : KT β) : Ag (Xyo k) Tryz.f197 (PsT.put Xlg (v, ())) K = (Xh1 k v).bind fun r => K (F197_O.put r) :=
 Eq.trans (b := Vu (fun r => K (F197_O.put r)) k v) (by kernel_rfl) (by simp only [Xh1, Vu, z1, z2, z3, z4, z5, z6, z7, z8])
def Xj9 (k : Nat) : FD := ⟨197, Xlg, F197_O, Xh1 k⟩
theorem X17 (k : Nat) : (Xj9 k).Ok Tryz.prog := ⟨fun x => Aa (Aj .none _ _ _ _) Ah Tryz.func197 rfl rfl (Xso k _ some), .of (by kernel_rfl)⟩
abbrev X3e (k : Nat) : Env := Ba (A0 [Xj9 k]) Ap .own [] k
abbrev Xnh : List PA := [.one (.sl .ro (.int .u8))]
abbrev F121_O : RO := ⟨[.v], [.sl .own (.int .u8)]⟩
def Ue {β : Type} (RET : Ac → Option β) (k : Nat) (v : Ac) : Option β := cond ((v.length : Int) == 0) (RET []) (B3 (([] : Ac).length) (v.length) 1 ((Xh1 k ([] ++ v)).bind fun b1 => RET b1))
def Q4 := Ue (β := Ac) some
theorem Xtj {β : Type} (k : Nat) (v : Ac) (K : KT β) : Ag (X3e k) Tryz.f121 (PsT.put Xnh (v, ())) K = (Q4 k v).bind fun r => K (F121_O.put r) :=
 Eq.trans (b := Ue (fun r => K (F121_O.put r)) k v) (by kernel_rfl) (by simp only [Q4, Ue, z1, z2, z3, z4, z5, z6, z7, z8])
def Rx (k : Nat) : FD := ⟨121, Xnh, F121_O, Q4 k⟩
theorem Xv (k : Nat) : (Rx k).Ok Tryz.prog := ⟨fun x => Aa (Aj (Ak (.c (X17 k) .n)) _ _ _ _) Ah Tryz.func121 rfl rfl (Xtj k _ some), .of (by kernel_rfl)⟩
abbrev X2s (k : Nat) : Env := Ba (A0 [Rx k]) Ap .own [] k
abbrev Xmr : List PA := [.agg (.pair mI C3)]
abbrev F214_O : RO := ⟨[.a], [.pair mI m_7]⟩
def Pq (k : Nat) (v : (den Ad)) : Option ((den Ad)) := Ax v fun v0 v1 v2 v3 v4 v5 v6 v7 v8 => (Q4 k v8).bind fun b1 => some (v0, v1, v2, v3, v4, v5, v6, v7, b1)
theorem Xte {β : Type} (k : Nat) (v : (den Ad)) (K : KT β) : Ag (X2s k) Tryz.f214 (PsT.put Xmr (v, ())) K = (Pq k v).bind fun r => K (F214_O.put r) :=
 Eq.trans (b := (Q4 k v.2.2.2.2.2.2.2.2).bind fun b1 => K (F214_O.put (v.1, v.2.1, v.2.2.1, v.2.2.2.1, v.2.2.2.2.1, v.2.2.2.2.2.1, v.2.2.2.2.2.2.1, v.2.2.2.2.2.2.2.1, b1))) (by kernel_rfl) (by simp only [Pq, z1, z2, z3, z4, z5, z6, z7, z8, Ax])
def Ng (k : Nat) : FD := ⟨214, Xmr, F214_O, Pq k⟩
theorem Sp (k : Nat) : (Ng k).Ok Tryz.prog := ⟨fun x => Aa (Aj (Ak (.c (Xv k) .n)) _ _ _ _) Ah Tryz.func214 rfl rfl (Xte k _ some), .of (by kernel_rfl)⟩
abbrev X51 (k : Nat) : Env := Ba (A0 [Sq k, Kh k]) Ap .own [] k
abbrev Xvo : List PA := [.agg (.pair mI C3)]
abbrev F89_O : RO := ⟨[.v], [mB]⟩
def Xf8 {β : Type} (RET : Bool → Option β) (k : Nat) (v : (den Ad)) : Option β := Ax v fun v0 v1 v2 v3 v4 v5 v6 v7 v8 => (F65 k v0).bind fun b1 => cond b1 ((F65 k v1).bind fun b2 => cond b2 ((Tm k v2 0 255).bind fun b3 => cond b3 ((Tm k v3 0 255).bind fun b4 => cond b4 ((Tm k v4 0 255).bind fun b5 => cond b5 ((Tm k v5 0 255).bind fun b6 => cond b6 (cond (decide ((v8.length : Int) ≤ 48)) (cond (!v6) (cond (!v7) (RET true) (cond (v5 == 0) (RET (!v6)) (RET false))) (cond (decide ((v8.length : Int) > 0)) (cond (!v7) (RET true) (cond (v5 == 0) (RET (!v6)) (RET false))) (RET false))) (RET false)) (RET false)) (RET false)) (RET false)) (RET false)) (RET false)) (RET false)
def F89 := Xf8 (β := Bool) some
theorem Xyh {β : Type} (k : Nat) (v : (den Ad)) (K : KT β) : Ag (X51 k) Tryz.f89 (PsT.put Xvo (v, ())) K = (F89 k v).bind fun r => K (F89_O.put r) :=
 Eq.trans (b := Xf8 (fun r => K (F89_O.put r)) k v) (by kernel_rfl) (by simp only [F89, Xf8, z1, z2, z3, z4, z5, z6, z7, z8, Ax])
def Xej (k : Nat) : FD := ⟨89, Xvo, F89_O, F89 k⟩
theorem Xl5 (k : Nat) : (Xej k).Ok Tryz.prog := ⟨fun x => Aa (Aj (Ak (.c (Tf k) (.c (Mp k) .n))) _ _ _ _) Ah Tryz.func89 rfl rfl (Xyh k _ some), .of (by kernel_rfl)⟩
def Xx3 : Nat → Hint
 | 0 => ⟨pl 7 1 (pl 30 3 []), []⟩
 | _ => ⟨[], []⟩
abbrev Wa (k : Nat) : Env := Ba (A0 [Kh k]) Xx3 .own [] k
abbrev Xcp : List PA := [.one (.sl .ro (.int .u8)), .one mI, .one mI]
abbrev F201_O : RO := ⟨[.v], [mI]⟩
noncomputable def Xx8 {β : Type} (k : Nat) (v : Ac) (w p : Int) (K : KT β) : Ex → St → Option β := Bi (Wa k) Tryz.f201 (PsT.put Xcp (v, w, p, ())) K
def Xsp (v : Ac) (w p : Int) (x7_0 x32_0 : Int) : St := ⟨dz 7 ((.one (vI x7_0)) :: dz 22 ((.one (.s .ro (.int .u8) ((v.take ((i64.wrap (w + p)).toNat)).drop w.toNat))) :: (.one (vI (((v.take ((i64.wrap (w + p)).toNat)).drop w.toNat).length : Int))) :: (.one (vI x32_0)) :: dz 10 [])), []⟩
noncomputable def Ob {β : Type} (k : Nat) (v : Ac) (w p : Int) (K : KT β) (n : Nat) (x7_0 x32_0 : Int) : Option β := A1 (Wa k) Tryz.f201 [1, 1, 1, 0, 1, 0] 0 (Ai (Wa k) [1, 1, 1, 0, 1, 0] (Al Tryz.f201) 0 (Xx8 k v w p K)) n (Xsp v w p x7_0 x32_0)
def Ed {β : Type} (NX : Int → Int → Option β) (RET : Int → Option β) (k : Nat) (v : Ac) (w p : Int) (x7_0 x32_0 : Int) : Option β := cond (decide (x32_0 < (((v.take ((i64.wrap (w + p)).toNat)).drop w.toNat).length : Int))) (Az x32_0 ((v.take ((i64.wrap (w + p)).toNat)).drop w.toNat) (NX (C1 .or .i64 (i64.wrap (x7_0 * 2 ^ (8))) (i64.wrap (An ((v.take ((i64.wrap (w + p)).toNat)).drop w.toNat) x32_0))) (i64.wrap (x32_0 + 1)))) (RET x7_0)
def E4 (k : Nat) (v : Ac) (w p : Int) : Nat → Int → Int → Option (Int)
 | 0, _, _ => none
 | n + 1, x7_0, x32_0 => Ed (E4 k v w p n) some k v w p x7_0 x32_0
theorem Xdq {β : Type} (k : Nat) (v : Ac) (w p : Int) (K : KT β) (n : Nat) : ∀ (x7_0 x32_0 : Int), Ob k v w p K n x7_0 x32_0 =
  (E4 k v w p n x7_0 x32_0).bind fun r => K (F201_O.put r) := by
 induction n with
 | zero => intros; rfl
 | succ n ih =>
  intro x7_0 x32_0
  refine Eq.trans (b := Ed (Ob k v w p K n) (fun r => K (F201_O.put r)) k v w p x7_0 x32_0) (by kernel_rfl) ?_
  rw [E4]
  simp only [Ed, z1, z2, z3, z4, z5, z6, z7, z8, ih]
def Wg {β : Type} (LP0 : Int → Int → Option β) (RET : Int → Option β) (k : Nat) (v : Ac) (w p : Int) : Option β := (Tm k p 1 4).bind fun b1 => cond (!b1) (RET (-1)) (cond (decide (w < 0)) (RET (-1)) (cond (decide (w > (i64.wrap ((v.length : Int) - p)))) (RET (-1)) (cond (decide (0 ≤ (i64.wrap (w + p))) && decide ((i64.wrap (w + p)) ≤ (v.length : Int))) (cond (decide (0 ≤ w) && decide (w ≤ (i64.wrap (w + p)))) (LP0 0 0) none) none)))
def Xhz (k : Nat) (v : Ac) (w p : Int) : Option (Int) := Wg (E4 k v w p k) some k v w p
theorem Xt8 {β : Type} (k : Nat) (v : Ac) (w p : Int) (K : KT β) : Ag (Wa k) Tryz.f201 (PsT.put Xcp (v, w, p, ())) K = (Xhz k v w p).bind fun r => K (F201_O.put r) :=
 Eq.trans (b := Wg (Ob k v w p K k) (fun r => K (F201_O.put r)) k v w p) (by kernel_rfl) (by simp only [Xhz, Wg, z1, z2, z3, z4, z5, z6, z7, z8, Xdq])
def Xp6 (k : Nat) : FD := ⟨201, Xcp, F201_O, Xhz k⟩
theorem X21 (k : Nat) : (Xp6 k).Ok Tryz.prog := ⟨fun x => Aa (Aj (Ak (.c (Mp k) .n)) _ _ _ _) Ah Tryz.func201 rfl rfl (Xt8 k _ _ _ some), .of (by kernel_rfl)⟩
abbrev Xxr (k : Nat) : Env := Ba (A0 [Kh k, Sq k]) Ap .own [] k
abbrev Xi6 : List PA := [.agg (.pair mI m_8)]
abbrev F374_O : RO := ⟨[.v], [mB]⟩
def Uo {β : Type} (RET : Bool → Option β) (k : Nat) (v : (Int × (Int × Ac))) : Option β := (Tm k v.1 1 6).bind fun b1 => cond b1 ((F65 k v.2.1).bind fun b2 => cond b2 (RET (decide ((v.2.2.length : Int) ≤ 20))) (RET false)) (RET false)
def Xge := Uo (β := Bool) some
theorem Xuv {β : Type} (k : Nat) (v : (Int × (Int × Ac))) (K : KT β) : Ag (Xxr k) Tryz.f374 (PsT.put Xi6 (v, ())) K = (Xge k v).bind fun r => K (F374_O.put r) :=
 Eq.trans (b := Uo (fun r => K (F374_O.put r)) k v) (by kernel_rfl) (by simp only [Xge, Uo, z1, z2, z3, z4, z5, z6, z7, z8, u_2])
def Xjg (k : Nat) : FD := ⟨374, Xi6, F374_O, Xge k⟩
theorem Xww (k : Nat) : (Xjg k).Ok Tryz.prog := ⟨fun x => Aa (Aj (Ak (.c (Mp k) (.c (Tf k) .n))) _ _ _ _) Ah Tryz.func374 rfl rfl (Xuv k _ some), .of (by kernel_rfl)⟩
def X45 : Nat → Hint
 | 0 => ⟨pl 0 1 (pl 5 2 []), pl 8000 1 []⟩
 | _ => ⟨[], []⟩
abbrev Xd9 (k : Nat) : Env := Ba Bl X45 .own [] k
abbrev Xpd : List PA := [.one mI, .one mI]
abbrev F93_O : RO := ⟨[.v], [.sl .own (.int .u8)]⟩
noncomputable def X4w {β : Type} (k : Nat) (v w : Int) (K : KT β) : Ex → St → Option β := Bi (Xd9 k) Tryz.f93 (PsT.put Xpd (v, w, ())) K
def Xxh (v w : Int) (x0_0 x6_0 : Int) (m8000_0 : Ac) : St := ⟨(.one (vI x0_0)) :: dz 4 ((.one (.a (.cell 8000) 0 0 none)) :: (.one (vI x6_0)) :: dz 16 []), [eM 8000 (.s .own (.int .u8) m8000_0)]⟩
noncomputable def Rh {β : Type} (k : Nat) (v w : Int) (K : KT β) (n : Nat) (x0_0 x6_0 : Int) (m8000_0 : Ac) : Option β := A1 (Xd9 k) Tryz.f93 [1, 1, 0, 1, 0] 0 (Ai (Xd9 k) [1, 1, 0, 1, 0] (Al Tryz.f93) 0 (X4w k v w K)) n (Xxh v w x0_0 x6_0 m8000_0)
def F4 {β : Type} (NX : Int → Int → Ac → Option β) (RET : Ac → Option β) (k : Nat) (v w : Int) (x0_0 x6_0 : Int) (m8000_0 : Ac) : Option β := cond (decide (x6_0 ≥ 0)) (Az x6_0 m8000_0 (NX (x0_0.fdiv (2 ^ (8))) (i64.wrap (x6_0 - 1)) (m8000_0.set x6_0.toNat (u8.wrap x0_0)))) (RET m8000_0)
def Iw (k : Nat) (v w : Int) : Nat → Int → Int → Ac → Option (Ac)
 | 0, _, _, _ => none
 | n + 1, x0_0, x6_0, m8000_0 => F4 (Iw k v w n) some k v w x0_0 x6_0 m8000_0
theorem Xis {β : Type} (k : Nat) (v w : Int) (K : KT β) (n : Nat) : ∀ (x0_0 x6_0 : Int) (m8000_0 : Ac), Rh k v w K n x0_0 x6_0 m8000_0 =
  (Iw k v w n x0_0 x6_0 m8000_0).bind fun r => K (F93_O.put r) := by
 induction n with
 | zero => intros; rfl
 | succ n ih =>
  intro x0_0 x6_0 m8000_0
  refine Eq.trans (b := F4 (Rh k v w K n) (fun r => K (F93_O.put r)) k v w x0_0 x6_0 m8000_0) (by kernel_rfl) ?_
  rw [Iw]
  simp only [F4, z1, z2, z3, z4, z5, z6, z7, z8, ih]
def Xeb {β : Type} (LP0 : Int → Int → Ac → Option β) (k : Nat) (v w : Int) : Option β := cond (decide (0 ≤ w) && decide (w = w) && decide (w * (1 : Nat) ≤ 140737488355328)) (LP0 v (i64.wrap (w - 1)) (List.replicate w.toNat (Bf (.int .u8)))) none
def F93 (k : Nat) (v w : Int) : Option (Ac) := Xeb (Iw k v w k) k v w
theorem X1v {β : Type} (k : Nat) (v w : Int) (K : KT β) : Ag (Xd9 k) Tryz.f93 (PsT.put Xpd (v, w, ())) K = (F93 k v w).bind fun r => K (F93_O.put r) :=
 Eq.trans (b := Xeb (Rh k v w K k) k v w) (by kernel_rfl) (by simp only [F93, Xeb, z1, z2, z3, z4, z5, z6, z7, z8, Xis])
def Xj4 (k : Nat) : FD := ⟨93, Xpd, F93_O, F93 k⟩
theorem Xvq (k : Nat) : (Xj4 k).Ok Tryz.prog := ⟨fun x => Aa (Aj .none _ _ _ _) Ah Tryz.func93 rfl rfl (X1v k _ _ some), .of (by kernel_rfl)⟩
abbrev X3u (k : Nat) : Env := Ba Bl Ap .own [] k
abbrev Xkh : List PA := [.one (.nil (.int .u8)), .one mI]
abbrev F163_O : RO := ⟨[.v], [.sl .own (.int .u8)]⟩
def V8 {β : Type} (RET : Ac → Option β) (k : Nat) (v : Ac) (w : Int) : Option β := cond (decide (w < 0)) none (cond (decide ((i64.wrap (w - 0)) > 0)) (cond (decide (0 ≤ 0) && decide (0 ≤ ((0 : Nat) : Int))) (cond (decide (0 < (i64.wrap (w - 0))) && decide ((i64.wrap (w - 0)) * (1 : Nat) ≤ 140737488355328)) (cond (decide (0 ≤ 0) && decide (0 ≤ ((List.replicate ((i64.wrap (w - 0)).toNat) (Bf (.int .u8))).length : Int))) (RET (((List.replicate ((i64.wrap (w - 0)).toNat) (Bf (.int .u8))).take 0).drop 0)) none) none) none) (RET []))
def Xg7 := V8 (β := Ac) some
theorem Xqv {β : Type} (k : Nat) (v : Ac) (w : Int) (K : KT β) : Ag (X3u k) Tryz.f163 (PsT.put Xkh (v, w, ())) K = (Xg7 k v w).bind fun r => K (F163_O.put r) :=
 Eq.trans (b := V8 (fun r => K (F163_O.put r)) k v w) (by kernel_rfl) (by simp only [Xg7, V8, z1, z2, z3, z4, z5, z6, z7, z8])
def Xms (k : Nat) : FD := ⟨163, Xkh, F163_O, Xg7 k⟩
theorem Xyf (k : Nat) : (Xms k).Ok Tryz.prog := ⟨fun x => Aa (Aj .none _ _ _ _) Ah Tryz.func163 rfl rfl (Xqv k _ _ some), .of (by kernel_rfl)⟩
end
end Go.Proofs.YtdmepjjepogddaaGreat.Gn
end

section
set_option linter.unusedVariables false
set_option linter.unusedSimpArgs false
namespace Go.Proofs.YtdmepjjepogddaaGreat.Gn
open Go.Rf IntKind
noncomputable section
def X5u : Nat → Hint
 | 0 => ⟨pl 0 1 (pl 3 1 (pl 9 3 [])), []⟩
 | 2 => ⟨(6, .own .own (.int .u8) []) :: (pl 25 3 []), []⟩
 | _ => ⟨[], []⟩
abbrev T2 (k : Nat) : Env := Ba (A0 [Xms k]) X5u .own [] k
abbrev Xkd : List PA := [.one (.sl .ro (.sl (.int .u8)))]
abbrev F92_O : RO := ⟨[.v], [.sl .own (.int .u8)]⟩
noncomputable def Xvz {β : Type} (k : Nat) (v : Fe) (K : KT β) : Ex → St → Option β := Bi (T2 k) Tryz.f92 (PsT.put Xkd (v, ())) K
def Xyr (v : Fe) (x27_2 : Int) (m6900_2 : Ac) : St := ⟨dz 6 ((.one (.a (.cell 6900) 0 0 none)) :: dz 18 ((.one (.s .ro (.sl (.int .u8)) v)) :: (.one (vI (v.length : Int))) :: (.one (vI x27_2)) :: dz 8 [])), [eM 6900 (.s .own (.int .u8) m6900_2)]⟩
noncomputable def Sn {β : Type} (k : Nat) (v : Fe) (K : KT β) (n : Nat) (x27_2 : Int) (m6900_2 : Ac) : Option β := A1 (T2 k) Tryz.f92 [1, 1, 1, 1, 0, 1, 0] 2 (Ai (T2 k) [1, 1, 1, 1, 0, 1, 0] (Al Tryz.f92) 0 (Xvz k v K)) n (Xyr v x27_2 m6900_2)
def Lp {β : Type} (NX : Int → Ac → Option β) (RET : Ac → Option β) (k : Nat) (v : Fe) (x27_2 : Int) (m6900_2 : Ac) : Option β := cond (decide (x27_2 < (v.length : Int))) (Az x27_2 v (B3 (m6900_2.length) ((An v x27_2).length) 1 (NX (i64.wrap (x27_2 + 1)) (m6900_2 ++ (An v x27_2))))) (RET m6900_2)
def N3 (k : Nat) (v : Fe) : Nat → Int → Ac → Option (Ac)
 | 0, _, _ => none
 | n + 1, x27_2, m6900_2 => Lp (N3 k v n) some k v x27_2 m6900_2
theorem Xg2 {β : Type} (k : Nat) (v : Fe) (K : KT β) (n : Nat) : ∀ (x27_2 : Int) (m6900_2 : Ac), Sn k v K n x27_2 m6900_2 =
  (N3 k v n x27_2 m6900_2).bind fun r => K (F92_O.put r) := by
 induction n with
 | zero => intros; rfl
 | succ n ih =>
  intro x27_2 m6900_2
  refine Eq.trans (b := Lp (Sn k v K n) (fun r => K (F92_O.put r)) k v x27_2 m6900_2) (by kernel_rfl) ?_
  rw [N3]
  simp only [Lp, z1, z2, z3, z4, z5, z6, z7, z8, ih]
def Xz7 (v : Fe) (x3_0 x11_0 : Int) : St := ⟨(.one (.s .ro (.sl (.int .u8)) v)) :: (.one .d) :: (.one .d) :: (.one (vI x3_0)) :: dz 5 ((.one (.s .ro (.sl (.int .u8)) v)) :: (.one (vI (v.length : Int))) :: (.one (vI x11_0)) :: dz 24 []), []⟩
noncomputable def Qs {β : Type} (k : Nat) (v : Fe) (K : KT β) (n : Nat) (x3_0 x11_0 : Int) : Option β := A1 (T2 k) Tryz.f92 [1, 1, 0, 1, 0] 0 (Ai (T2 k) [1, 1, 0, 1, 0] (Al Tryz.f92) 0 (Xvz k v K)) n (Xz7 v x3_0 x11_0)
def Mk {β : Type} (NX : Int → Int → Option β) (LP2 : Int → Ac → Option β) (k : Nat) (v : Fe) (x3_0 x11_0 : Int) : Option β := cond (decide (x11_0 < (v.length : Int))) (Az x11_0 v (cond (decide ((i64.wrap (x3_0 + ((An v x11_0).length : Int))) < 0)) none (NX (i64.wrap (x3_0 + ((An v x11_0).length : Int))) (i64.wrap (x11_0 + 1))))) ((Xg7 k [] x3_0).bind fun b1 => LP2 0 b1)
def Nn (k : Nat) (v : Fe) : Nat → Int → Int → Option (Ac)
 | 0, _, _ => none
 | n + 1, x3_0, x11_0 => Mk (Nn k v n) (N3 k v k) k v x3_0 x11_0
theorem Xgt {β : Type} (k : Nat) (v : Fe) (K : KT β) (n : Nat) : ∀ (x3_0 x11_0 : Int), Qs k v K n x3_0 x11_0 =
  (Nn k v n x3_0 x11_0).bind fun r => K (F92_O.put r) := by
 induction n with
 | zero => intros; rfl
 | succ n ih =>
  intro x3_0 x11_0
  refine Eq.trans (b := Mk (Qs k v K n) (Sn k v K k) k v x3_0 x11_0) (by kernel_rfl) ?_
  rw [Nn]
  simp only [Mk, z1, z2, z3, z4, z5, z6, z7, z8, Xg2, ih]
def Xfl {β : Type} (LP0 : Int → Int → Option β) (k : Nat) (v : Fe) : Option β := LP0 0 0
def F92 (k : Nat) (v : Fe) : Option (Ac) := Xfl (Nn k v k) k v
theorem Xxv {β : Type} (k : Nat) (v : Fe) (K : KT β) : Ag (T2 k) Tryz.f92 (PsT.put Xkd (v, ())) K = (F92 k v).bind fun r => K (F92_O.put r) :=
 Eq.trans (b := Xfl (Qs k v K k) k v) (by kernel_rfl) (by simp only [F92, Xfl, z1, z2, z3, z4, z5, z6, z7, z8, Xgt])
def Xlk (k : Nat) : FD := ⟨92, Xkd, F92_O, F92 k⟩
theorem Xvl (k : Nat) : (Xlk k).Ok Tryz.prog := ⟨fun x => Aa (Aj (Ak (.c (Xyf k) .n)) _ _ _ _) Ah Tryz.func92 rfl rfl (Xxv k _ some), .of (by kernel_rfl)⟩
abbrev X06 (k : Nat) : Env := Ba (A0 [Xjg k, Xj4 k, Xlk k]) Ap .own [] k
abbrev Xl6 : List PA := [.agg (.pair mI m_8)]
abbrev F366_O : RO := ⟨[.v], [.sl .own (.int .u8)]⟩
def W0 {β : Type} (RET : Ac → Option β) (k : Nat) (v : (Int × (Int × Ac))) : Option β := u_2 v fun v0 v1 v2 => (Xge k v).bind fun b1 => cond (!b1) (RET []) ((F93 k v1 2).bind fun b2 => (F92 k [[u8.wrap v0], b2, [u8.wrap (v2.length : Int)], v2]).bind fun b3 => RET b3)
def Yu := W0 (β := Ac) some
theorem Xuo {β : Type} (k : Nat) (v : (Int × (Int × Ac))) (K : KT β) : Ag (X06 k) Tryz.f366 (PsT.put Xl6 (v, ())) K = (Yu k v).bind fun r => K (F366_O.put r) :=
 Eq.trans (b := W0 (fun r => K (F366_O.put r)) k v) (by kernel_rfl) (by simp only [Yu, W0, z1, z2, z3, z4, z5, z6, z7, z8, u_2])
def Xa7 (k : Nat) : FD := ⟨366, Xl6, F366_O, Yu k⟩
theorem Xnw (k : Nat) : (Xa7 k).Ok Tryz.prog := ⟨fun x => Aa (Aj (Ak (.c (Xww k) (.c (Xvq k) (.c (Xvl k) .n)))) _ _ _ _) Ah Tryz.func366 rfl rfl (Xuo k _ some), .of (by kernel_rfl)⟩
def Xx2 : Nat → Hint
 | 0 => ⟨pl 0 2 (pl 12 2 []), []⟩
 | _ => ⟨[], []⟩
abbrev Xg (k : Nat) : Env := Ba Bl Xx2 .own [] k
abbrev Xat : List PA := [.one (.sl .ro (.int .u8)), .one (.sl .ro (.int .u8))]
abbrev F159_O : RO := ⟨[.v], [mB]⟩
noncomputable def Xx7 {β : Type} (k : Nat) (v w : Ac) (K : KT β) : Ex → St → Option β := Bi (Xg k) Tryz.f159 (PsT.put Xat (v, w, ())) K
def Xqm (v w : Ac) (x13_0 : Int) : St := ⟨(.one (.s .ro (.int .u8) v)) :: (.one (.s .ro (.int .u8) w)) :: dz 10 ((.one (vI (v.length : Int))) :: (.one (vI x13_0)) :: dz 12 []), []⟩
noncomputable def Na {β : Type} (k : Nat) (v w : Ac) (K : KT β) (n : Nat) (x13_0 : Int) : Option β := A1 (Xg k) Tryz.f159 [1, 1, 0, 1, 0] 0 (Ai (Xg k) [1, 1, 0, 1, 0] (Al Tryz.f159) 0 (Xx7 k v w K)) n (Xqm v w x13_0)
def Ga {β : Type} (NX : Int → Option β) (RET : Bool → Option β) (k : Nat) (v w : Ac) (x13_0 : Int) : Option β := cond (decide (x13_0 < (v.length : Int))) (Az x13_0 v (Az x13_0 w (cond ((An v x13_0) != (An w x13_0)) (RET false) (NX (i64.wrap (x13_0 + 1)))))) (RET true)
def Gq (k : Nat) (v w : Ac) : Nat → Int → Option (Bool)
 | 0, _ => none
 | n + 1, x13_0 => Ga (Gq k v w n) some k v w x13_0
theorem Xby {β : Type} (k : Nat) (v w : Ac) (K : KT β) (n : Nat) : ∀ (x13_0 : Int), Na k v w K n x13_0 =
  (Gq k v w n x13_0).bind fun r => K (F159_O.put r) := by
 induction n with
 | zero => intros; rfl
 | succ n ih =>
  intro x13_0
  refine Eq.trans (b := Ga (Na k v w K n) (fun r => K (F159_O.put r)) k v w x13_0) (by kernel_rfl) ?_
  rw [Gq]
  simp only [Ga, z1, z2, z3, z4, z5, z6, z7, z8, ih]
def Wr {β : Type} (LP0 : Int → Option β) (RET : Bool → Option β) (k : Nat) (v w : Ac) : Option β := cond ((v.length : Int) != (w.length : Int)) (RET false) (LP0 0)
def Xdx (k : Nat) (v w : Ac) : Option (Bool) := Wr (Gq k v w k) some k v w
theorem Xtc {β : Type} (k : Nat) (v w : Ac) (K : KT β) : Ag (Xg k) Tryz.f159 (PsT.put Xat (v, w, ())) K = (Xdx k v w).bind fun r => K (F159_O.put r) :=
 Eq.trans (b := Wr (Na k v w K k) (fun r => K (F159_O.put r)) k v w) (by kernel_rfl) (by simp only [Xdx, Wr, z1, z2, z3, z4, z5, z6, z7, z8, Xby])
def Xdi (k : Nat) : FD := ⟨159, Xat, F159_O, Xdx k⟩
theorem Xk0 (k : Nat) : (Xdi k).Ok Tryz.prog := ⟨fun x => Aa (Aj .none _ _ _ _) Ah Tryz.func159 rfl rfl (Xtc k _ _ some), .of (by kernel_rfl)⟩
abbrev Xyv (k : Nat) : Env := Ba (A0 [Xp6 k, Rx k, Xa7 k, Xdi k]) Ap .own [] k
abbrev Xqc : Type := (Int × (Int × Ac)) × Bool
abbrev Xow : List PA := [.one (.sl .ro (.int .u8))]
abbrev F365_O : RO := ⟨[.a, .v], [.pair mI m_9, mB]⟩
def Wm {β : Type} (RET : Xqc → Option β) (k : Nat) (v : Ac) : Option β := cond (decide ((v.length : Int) < 4)) (RET ((0, 0, []), false)) (cond (decide (0 < (v.length : Int))) ((Xhz k v 1 2).bind fun b1 => cond (decide (0 ≤ 4) && decide (4 ≤ (v.length : Int))) ((Q4 k (v.drop 4)).bind fun b2 => (Yu k (i64.wrap (An v 0), b1, b2)).bind fun b3 => (Xdx k b3 v).bind fun b4 => cond (!b4) (RET ((0, 0, []), false)) (RET ((i64.wrap (An v 0), b1, b2), true))) none) none)
def Xhu := Wm (β := Xqc) some
theorem Xtn {β : Type} (k : Nat) (v : Ac) (K : KT β) : Ag (Xyv k) Tryz.f365 (PsT.put Xow (v, ())) K = (Xhu k v).bind fun r => K (F365_O.put r) :=
 Eq.trans (b := Wm (fun r => K (F365_O.put r)) k v) (by kernel_rfl) (by simp only [Xhu, Wm, z1, z2, z3, z4, z5, z6, z7, z8])
def Xi5 (k : Nat) : FD := ⟨365, Xow, F365_O, Xhu k⟩
theorem X07 (k : Nat) : (Xi5 k).Ok Tryz.prog := ⟨fun x => Aa (Aj (Ak (.c (X21 k) (.c (Xv k) (.c (Xnw k) (.c (Xk0 k) .n))))) _ _ _ _) Ah Tryz.func365 rfl rfl (Xtn k _ some), .of (by kernel_rfl)⟩
abbrev X0c (k : Nat) : Env := Ba (A0 [Xi5 k]) Ap .own [] k
abbrev Xon : List PA := [.agg (.pair mI C3)]
abbrev F350_O : RO := ⟨[.v], [mB]⟩
def V6 {β : Type} (RET : Bool → Option β) (k : Nat) (v : (den Ad)) : Option β := (Xhu k v.2.2.2.2.2.2.2.2).bind fun b1 => cond b1.2 (cond (v.2.2.1 == 1) (RET (decide (b1.1.1 ≥ 3))) (RET false)) (RET false)
def Xi1 := V6 (β := Bool) some
theorem Xrj {β : Type} (k : Nat) (v : (den Ad)) (K : KT β) : Ag (X0c k) Tryz.f350 (PsT.put Xon (v, ())) K = (Xi1 k v).bind fun r => K (F350_O.put r) :=
 Eq.trans (b := V6 (fun r => K (F350_O.put r)) k v) (by kernel_rfl) (by simp only [Xi1, V6, z1, z2, z3, z4, z5, z6, z7, z8, Ax])
def Xkm (k : Nat) : FD := ⟨350, Xon, F350_O, Xi1 k⟩
theorem Xzi (k : Nat) : (Xkm k).Ok Tryz.prog := ⟨fun x => Aa (Aj (Ak (.c (X07 k) .n)) _ _ _ _) Ah Tryz.func350 rfl rfl (Xrj k _ some), .of (by kernel_rfl)⟩
abbrev X0g (k : Nat) : Env := Ba Bl Ap .own [] k
abbrev Xoq : List PA := [.one mB, .one mI]
abbrev F199_O : RO := ⟨[.v], [mI]⟩
def Xc6 (k : Nat) (v : Bool) (w : Int) : Option (Int) := cond v (some w) (some 0)
theorem Xs8 {β : Type} (k : Nat) (v : Bool) (w : Int) (K : KT β) : Ag (X0g k) Tryz.f199 (PsT.put Xoq (v, w, ())) K = (Xc6 k v w).bind fun r => K (F199_O.put r) :=
 Eq.trans (b := cond v (K (F199_O.put w)) (K (F199_O.put 0))) (by kernel_rfl) (by simp only [Xc6, z1, z2, z3, z4, z5, z6, z7, z8])
def Xn2 (k : Nat) : FD := ⟨199, Xoq, F199_O, Xc6 k⟩
theorem X1n (k : Nat) : (Xn2 k).Ok Tryz.prog := ⟨fun x => Aa (Aj .none _ _ _ _) Ah Tryz.func199 rfl rfl (Xs8 k _ _ some), .of (by kernel_rfl)⟩
def X3s : Nat → Hint
 | 0 => ⟨pl 3 1 (pl 6 3 []), []⟩
 | _ => ⟨[], []⟩
abbrev V2 (k : Nat) : Env := Ba Bl X3s .own [] k
abbrev Xci : List PA := [.one (.sl .ro (.int .i64))]
abbrev F165_O : RO := ⟨[.v], [mI]⟩
noncomputable def X1k {β : Type} (k : Nat) (v : Bc) (K : KT β) : Ex → St → Option β := Bi (V2 k) Tryz.f165 (PsT.put Xci (v, ())) K
def Xt2 (v : Bc) (x3_0 x8_0 : Int) : St := ⟨dz 3 ((.one (vI x3_0)) :: (.one .d) :: (.one .d) :: (.one (.s .ro (.int .i64) v)) :: (.one (vI (v.length : Int))) :: (.one (vI x8_0)) :: dz 12 []), []⟩
noncomputable def Om {β : Type} (k : Nat) (v : Bc) (K : KT β) (n : Nat) (x3_0 x8_0 : Int) : Option β := A1 (V2 k) Tryz.f165 [1, 1, 0, 1, 0] 0 (Ai (V2 k) [1, 1, 0, 1, 0] (Al Tryz.f165) 0 (X1k k v K)) n (Xt2 v x3_0 x8_0)
def Eb {β : Type} (NX : Int → Int → Option β) (RET : Int → Option β) (k : Nat) (v : Bc) (x3_0 x8_0 : Int) : Option β := cond (decide (x8_0 < (v.length : Int))) (Az x8_0 v (cond (decide ((i64.wrap (x3_0 + (An v x8_0))) > 65535)) (NX (i64.wrap ((i64.wrap (x3_0 + (An v x8_0))) - 65535)) (i64.wrap (x8_0 + 1))) (NX (i64.wrap (x3_0 + (An v x8_0))) (i64.wrap (x8_0 + 1))))) (RET x3_0)
def D8 (k : Nat) (v : Bc) : Nat → Int → Int → Option (Int)
 | 0, _, _ => none
 | n + 1, x3_0, x8_0 => Eb (D8 k v n) some k v x3_0 x8_0
theorem Xcn {β : Type} (k : Nat) (v : Bc) (K : KT β) (n : Nat) : ∀ (x3_0 x8_0 : Int), Om k v K n x3_0 x8_0 =
  (D8 k v n x3_0 x8_0).bind fun r => K (F165_O.put r) := by
 induction n with
 | zero => intros; rfl
 | succ n ih =>
  intro x3_0 x8_0
  refine Eq.trans (b := Eb (Om k v K n) (fun r => K (F165_O.put r)) k v x3_0 x8_0) (by kernel_rfl) ?_
  rw [D8]
  simp only [Eb, z1, z2, z3, z4, z5, z6, z7, z8, ih]
def Xbh {β : Type} (LP0 : Int → Int → Option β) (k : Nat) (v : Bc) : Option β := LP0 0 0
def Zt (k : Nat) (v : Bc) : Option (Int) := Xbh (D8 k v k) k v
theorem Xqu {β : Type} (k : Nat) (v : Bc) (K : KT β) : Ag (V2 k) Tryz.f165 (PsT.put Xci (v, ())) K = (Zt k v).bind fun r => K (F165_O.put r) :=
 Eq.trans (b := Xbh (Om k v K k) k v) (by kernel_rfl) (by simp only [Zt, Xbh, z1, z2, z3, z4, z5, z6, z7, z8, Xcn])
def Xi4 (k : Nat) : FD := ⟨165, Xci, F165_O, Zt k⟩
theorem X13 (k : Nat) : (Xi4 k).Ok Tryz.prog := ⟨fun x => Aa (Aj .none _ _ _ _) Ah Tryz.func165 rfl rfl (Xqu k _ some), .of (by kernel_rfl)⟩
def X4t : Nat → Hint
 | 0 => ⟨pl 3 1 [], pl 3000 1 []⟩
 | _ => ⟨[], []⟩
abbrev Fd (k : Nat) : Env := Ba (A0 [Xi4 k]) X4t .own [] k
abbrev Xpt : List PA := [.one (.sl .ro (.int .u8))]
abbrev F94_O : RO := ⟨[.v], [mI]⟩
noncomputable def Th {β : Type} (k : Nat) (v : Ac) (K : KT β) : Ex → St → Option β := Bi (Fd k) Tryz.f94 (PsT.put Xpt (v, ())) K
def Oa (v : Ac) (m3000_0 : Int) : St := ⟨dz 3 ((.one (.ptr (.cell 3000) 1 0)) :: dz 25 []), [iM 3000 m3000_0]⟩
def Et (k : Nat) (v : Ac) : List Ac → Int → Option (Int)
 | [], m3000_0 => some (i64.wrap (65535 - m3000_0))
 | z0_0 :: r, m3000_0 => cond (decide (0 < (z0_0.length : Int))) (cond (decide ((z0_0.length : Int) > 1)) (cond (decide (1 < (z0_0.length : Int))) ((Zt k [m3000_0, C1 .or .i64 (i64.wrap ((i64.wrap (An z0_0 0)) * 2 ^ (8))) (i64.wrap (An z0_0 1))]).bind fun b1 => Et k v r b1) none) ((Zt k [m3000_0, i64.wrap ((i64.wrap (An z0_0 0)) * 2 ^ (8))]).bind fun b2 => Et k v r b2)) none
theorem Xix {β : Type} (k : Nat) (v : Ac) (m3000_0 : Int) (K : KT β) :
  E0 (Fd k) Tryz.f94 [1, 1, 0, 1, 0] 0 8 (Ai (Fd k) [1, 1, 0, 1, 0] (Al Tryz.f94) 0 (Th k v K)) ([] : List Ac) (Oa v m3000_0) =
  K (F94_O.put (i64.wrap (65535 - m3000_0))) := by kernel_rfl
theorem Xhf {β : Type} (k : Nat) (v : Ac) (z0_0 : Ac) (r : List Ac) (m3000_0 : Int) (K : KT β) :
  E0 (Fd k) Tryz.f94 [1, 1, 0, 1, 0] 0 8 (Ai (Fd k) [1, 1, 0, 1, 0] (Al Tryz.f94) 0 (Th k v K)) (z0_0 :: r) (Oa v m3000_0) =
  cond (decide (0 < (z0_0.length : Int))) (cond (decide ((z0_0.length : Int) > 1)) (cond (decide (1 < (z0_0.length : Int))) ((Zt k [m3000_0, C1 .or .i64 (i64.wrap ((i64.wrap (An z0_0 0)) * 2 ^ (8))) (i64.wrap (An z0_0 1))]).bind fun b1 => E0 (Fd k) Tryz.f94 [1, 1, 0, 1, 0] 0 8 (Ai (Fd k) [1, 1, 0, 1, 0] (Al Tryz.f94) 0 (Th k v K)) r (Oa v b1)) none) ((Zt k [m3000_0, i64.wrap ((i64.wrap (An z0_0 0)) * 2 ^ (8))]).bind fun b2 => E0 (Fd k) Tryz.f94 [1, 1, 0, 1, 0] 0 8 (Ai (Fd k) [1, 1, 0, 1, 0] (Al Tryz.f94) 0 (Th k v K)) r (Oa v b2))) none := by kernel_rfl
theorem Xhl {β : Type} (k : Nat) (v : Ac) (K : KT β) (l : List Ac) : ∀ (m3000_0 : Int), E0 (Fd k) Tryz.f94 [1, 1, 0, 1, 0] 0 8 (Ai (Fd k) [1, 1, 0, 1, 0] (Al Tryz.f94) 0 (Th k v K)) l (Oa v m3000_0) =
  (Et k v l m3000_0).bind fun r => K (F94_O.put r) := by
 induction l with
 | nil => intros; rw [Xix, Et]; simp only [z1, z2, z3, z4, z5, z6, z7, z8]
 | cons z r ih =>
  intros
  rw [Xhf, Et]
  simp only [z1, z2, z3, z4, z5, z6, z7, z8, ih]
def F94 (k : Nat) (v : Ac) : Option (Int) := cond (decide (1 ≤ 2) && decide (2 ≤ 9223372036854775807) && decide (v.length ≤ 140737488355328)) (Et k v (B0 ((2 : Int).toNat) v) 0) none
theorem Xwj {β : Type} (k : Nat) (v : Ac) (K : KT β) : Ag (Fd k) Tryz.f94 (PsT.put Xpt (v, ())) K = (F94 k v).bind fun r => K (F94_O.put r) :=
 Eq.trans (b := cond (decide (1 ≤ 2) && decide (2 ≤ 9223372036854775807) && decide (v.length ≤ 140737488355328)) (E0 (Fd k) Tryz.f94 [1, 1, 0, 1, 0] 0 8 (Ai (Fd k) [1, 1, 0, 1, 0] (Al Tryz.f94) 0 (Th k v K)) (B0 ((2 : Int).toNat) v) (Oa v 0)) none) (by kernel_rfl) (by simp only [F94, z1, z2, z3, z4, z5, z6, z7, z8, Xhl])
def Xu5 (k : Nat) : FD := ⟨94, Xpt, F94_O, F94 k⟩
theorem X56 (k : Nat) : (Xu5 k).Ok Tryz.prog := ⟨fun x => Aa (Aj (Ak (.c (X13 k) .n)) _ _ _ _) Ah Tryz.func94 rfl rfl (Xwj k _ some), .of (by kernel_rfl)⟩
abbrev Xxw (k : Nat) : Env := Ba (A0 [Xj4 k, Xn2 k, Xlk k, Xu5 k]) Ap .own [] k
abbrev Xku : List PA := [.agg (.pair mI C3)]
abbrev F351_O : RO := ⟨[.v], [.sl .own (.int .u8)]⟩
def Xp {β : Type} (RET : Ac → Option β) (k : Nat) (v : (den Ad)) : Option β := Ax v fun v0 v1 v2 v3 v4 v5 v6 v7 v8 => (F93 k v0 2).bind fun b1 => (F93 k v1 2).bind fun b2 => (Xc6 k v6 1).bind fun b3 => (Xc6 k v7 2).bind fun b4 => (F92 k [b1, b2, [u8.wrap v2, u8.wrap v3, u8.wrap v4, u8.wrap v5, u8.wrap (i64.wrap (b3 + b4)), u8.wrap (v8.length : Int)]]).bind fun b5 => (F94 k b5).bind fun b6 => (F93 k b6 2).bind fun b7 => (F92 k [b5, b7, v8]).bind fun b8 => RET b8
def Xgi := Xp (β := Ac) some
theorem Xsx {β : Type} (k : Nat) (v : (den Ad)) (K : KT β) : Ag (Xxw k) Tryz.f351 (PsT.put Xku (v, ())) K = (Xgi k v).bind fun r => K (F351_O.put r) :=
 Eq.trans (b := Xp (fun r => K (F351_O.put r)) k v) (by kernel_rfl) (by simp only [Xgi, Xp, z1, z2, z3, z4, z5, z6, z7, z8, Ax])
def Xmk (k : Nat) : FD := ⟨351, Xku, F351_O, Xgi k⟩
theorem Xzp (k : Nat) : (Xmk k).Ok Tryz.prog := ⟨fun x => Aa (Aj (Ak (.c (Xvq k) (.c (X1n k) (.c (Xvl k) (.c (X56 k) .n))))) _ _ _ _) Ah Tryz.func351 rfl rfl (Xsx k _ some), .of (by kernel_rfl)⟩
abbrev X2d (k : Nat) : Env := Ba (A0 [Xa7 k]) Ap .own [] k
abbrev Xk5 : List PA := [.one mI, .agg (.pair mI C3), .agg (.pair mI m_8)]
abbrev F352_O : RO := ⟨[.a], [.pair mI m_7]⟩
def Xpj (k : Nat) (v : Int) (w : (den Ad)) (p : (Int × (Int × Ac))) : Option ((den Ad)) := (Yu k p).bind fun b1 => some (v, w.1, 1, 64, w.2.2.2.2.1, 0, false, false, b1)
theorem Xt4 {β : Type} (k : Nat) (v : Int) (w : (den Ad)) (p : (Int × (Int × Ac))) (K : KT β) : Ag (X2d k) Tryz.f352 (PsT.put Xk5 (v, w, p, ())) K = (Xpj k v w p).bind fun r => K (F352_O.put r) :=
 Eq.trans (b := (Yu k p).bind fun b1 => K (F352_O.put (v, w.1, 1, 64, w.2.2.2.2.1, 0, false, false, b1))) (by kernel_rfl) (by simp only [Xpj, z1, z2, z3, z4, z5, z6, z7, z8, u_2, Ax])
def Xmj (k : Nat) : FD := ⟨352, Xk5, F352_O, Xpj k⟩
theorem Xyp (k : Nat) : (Xmj k).Ok Tryz.prog := ⟨fun x => Aa (Aj (Ak (.c (Xnw k) .n)) _ _ _ _) Ah Tryz.func352 rfl rfl (Xt4 k _ _ _ some), .of (by kernel_rfl)⟩
abbrev X1a (k : Nat) : Env := Ba (A0 [Xej k, Sq k, Xkm k, Kh k, Xmk k, Xmj k]) Ap .own [] k
abbrev Xp1 : List PA := [.agg (.pair mI C3), .one mI, .one mI, .one mI]
abbrev F326_O : RO := ⟨[.a, .v], [.pair mI m_7, mB]⟩
def Xu {β : Type} (RET : (den Ad) × Bool → Option β) (k : Nat) (v : (den Ad)) (w p q : Int) : Option β := (F89 k v).bind fun b1 => cond (!b1) (RET ((0, 0, 0, 0, 0, 0, false, false, []), false)) ((F65 k w).bind fun b2 => cond (!b2) (RET ((0, 0, 0, 0, 0, 0, false, false, []), false)) (cond (v.2.2.2.2.2.1 != 0) (RET ((0, 0, 0, 0, 0, 0, false, false, []), false)) ((Xi1 k v).bind fun b3 => cond b3 (RET ((0, 0, 0, 0, 0, 0, false, false, []), false)) ((Tm k p 3 6).bind fun b4 => cond (!b4) (RET ((0, 0, 0, 0, 0, 0, false, false, []), false)) ((F65 k q).bind fun b5 => cond (!b5) (RET ((0, 0, 0, 0, 0, 0, false, false, []), false)) ((Xgi k v).bind fun b6 => cond (decide (0 ≤ (if 20 < (b6.length : Int) then 20 else (b6.length : Int))) && decide ((if 20 < (b6.length : Int) then 20 else (b6.length : Int)) ≤ (b6.length : Int))) ((Xpj k w v (p, q, (b6.take ((if 20 < (b6.length : Int) then 20 else (b6.length : Int)).toNat)).drop 0)).bind fun b7 => RET (b7, true)) none))))))
def Zu := Xu (β := (den Ad) × Bool) some
theorem Xue {β : Type} (k : Nat) (v : (den Ad)) (w p q : Int) (K : KT β) : Ag (X1a k) Tryz.f326 (PsT.put Xp1 (v, w, p, q, ())) K = (Zu k v w p q).bind fun r => K (F326_O.put r) :=
 Eq.trans (b := Xu (fun r => K (F326_O.put r)) k v w p q) (by kernel_rfl) (by simp only [Zu, Xu, z1, z2, z3, z4, z5, z6, z7, z8, Ax])
def Xj7 (k : Nat) : FD := ⟨326, Xp1, F326_O, Zu k⟩
theorem X2x (k : Nat) : (Xj7 k).Ok Tryz.prog := ⟨fun x => Aa (Aj (Ak (.c (Xl5 k) (.c (Tf k) (.c (Xzi k) (.c (Mp k) (.c (Xzp k) (.c (Xyp k) .n))))))) _ _ _ _) Ah Tryz.func326 rfl rfl (Xue k _ _ _ _ some), .of (by kernel_rfl)⟩
abbrev Xx0 (k : Nat) : Env := Ba (A0 [Xj7 k]) Ap .own [] k
abbrev Xox : List PA := [.agg (.pair mI (.sl .ro B4)), .agg (.pair mI C3), .one mI, .one mI]
abbrev F264_O : RO := ⟨[.a], [Xn8]⟩
def Y8 (k : Nat) (v : (den sta)) (w : (den Ad)) (p q : Int) : Option ((den Pr)) := (Zu k w v.1 p q).bind fun b1 => cond (!b1.2) (some (0, 0, [])) (some (3, 0, [b1.1]))
theorem Xum {β : Type} (k : Nat) (v : (den sta)) (w : (den Ad)) (p q : Int) (K : KT β) : Ag (Xx0 k) Tryz.f264 (PsT.put Xox (v, w, p, q, ())) K = (Y8 k v w p q).bind fun r => K (F264_O.put r) :=
 Eq.trans (b := (Zu k w v.1 p q).bind fun b1 => cond (!b1.2) (K (F264_O.put (0, 0, []))) (K (F264_O.put (3, 0, [b1.1])))) (by kernel_rfl) (by simp only [Y8, z1, z2, z3, z4, z5, z6, z7, z8, Ax])
def Xll (k : Nat) : FD := ⟨264, Xox, F264_O, Y8 k⟩
theorem Xy8 (k : Nat) : (Xll k).Ok Tryz.prog := ⟨fun x => Aa (Aj (Ak (.c (X2x k) .n)) _ _ _ _) Ah Tryz.func264 rfl rfl (Xum k _ _ _ _ some), .of (by kernel_rfl)⟩
abbrev X43 : List PA := [.one (.sl .ro B4), .one mI, .one mI]
abbrev X5q : RO := ⟨[.a, .v], [m_1, mB]⟩
def F74 (k : Nat) (v : Au) (w p : Int) : Option (den B4 × Bool) := Rt.to v w p
def Xv6 (k : Nat) : FD := ⟨74, X43, X5q, F74 k⟩
theorem X5d (k : Nat) : (Xv6 k).Ok Tryz.prog := ⟨fun x => Rt.con x.1 x.2.1 x.2.2.1, .of (by kernel_rfl)⟩
abbrev X3n (k : Nat) : Env := Ba Bl Ap .own [] k
abbrev Xlb : List PA := [.one (.sl .own Ad)]
abbrev F266_O : RO := ⟨[.v], [.sl .own Ad]⟩
def V4 {β : Type} (RET : Am → Option β) (k : Nat) (v : Am) : Option β := cond (decide (0 ≤ (v.length : Int)) && decide ((v.length : Int) ≤ (v.length : Int))) (cond (decide ((v.length : Int) = (v.length : Int))) (RET ((v.take ((v.length : Int).toNat)).drop 0)) none) none
def Zk := V4 (β := Am) some
theorem Xra {β : Type} (k : Nat) (v : Am) (K : KT β) : Ag (X3n k) Tryz.f266 (PsT.put Xlb (v, ())) K = (Zk k v).bind fun r => K (F266_O.put r) :=
 Eq.trans (b := V4 (fun r => K (F266_O.put r)) k v) (by kernel_rfl) (by simp only [Zk, V4, z1, z2, z3, z4, z5, z6, z7, z8])
def Xa5 (k : Nat) : FD := ⟨266, Xlb, F266_O, Zk k⟩
theorem Xp9 (k : Nat) : (Xa5 k).Ok Tryz.prog := ⟨fun x => Aa (Aj .none _ _ _ _) Ah Tryz.func266 rfl rfl (Xra k _ some), .of (by kernel_rfl)⟩
def X0o : Nat → Hint
 | 0 => ⟨pl 2 1 (pl 6 2 []), pl 2000 9 ((6000, .own .own Ad []) :: (pl 7000 1 []))⟩
 | _ => ⟨[], []⟩
abbrev Dt (k : Nat) : Env := Ba (A0 [Ng k, Rx k, Xa5 k]) X0o .own [] k
abbrev Xa9 : List PA := [.agg (.pair mI C3), .one mI]
abbrev F265_O : RO := ⟨[.v, .v], [.sl .own Ad, mB]⟩
noncomputable def Qb {β : Type} (k : Nat) (v : (den Ad)) (w : Int) (K : KT β) : Ex → St → Option β := Bi (Dt k) Tryz.f265 (PsT.put Xa9 (v, w, ())) K
def Mc (v : (den Ad)) (w : Int) (m6000_0 : Am) (m7000_0 : Int) : St := ⟨(.one .d) :: (.one .d) :: (.one (.ptr (.cell 2000) 9 0)) :: dz 3 ((.one (.ptr (.cell 6000) 1 0)) :: (.one (.ptr (.cell 7000) 1 0)) :: dz 54 []), Bd 2000 (Cx (.pair mI C3) v) [eM 6000 (.s .own Ad m6000_0), iM 7000 m7000_0]⟩
def E8 (k : Nat) (v : (den Ad)) (w : Int) : List Ac → Am → Int → Option (Am × Bool)
 | [], m6000_0, m7000_0 => Az (i64.wrap ((m6000_0.length : Int) - 1)) m6000_0 ((sto (m6000_0.set ((i64.wrap ((m6000_0.length : Int) - 1)).toNat) ((An m6000_0 (i64.wrap ((m6000_0.length : Int) - 1))).1, (An m6000_0 (i64.wrap ((m6000_0.length : Int) - 1))).2.1, (An m6000_0 (i64.wrap ((m6000_0.length : Int) - 1))).2.2.1, (An m6000_0 (i64.wrap ((m6000_0.length : Int) - 1))).2.2.2.1, (An m6000_0 (i64.wrap ((m6000_0.length : Int) - 1))).2.2.2.2.1, (An m6000_0 (i64.wrap ((m6000_0.length : Int) - 1))).2.2.2.2.2.1, v.2.2.2.2.2.2.1, (An m6000_0 (i64.wrap ((m6000_0.length : Int) - 1))).2.2.2.2.2.2.2))).bind fun b3 => cond v.2.2.2.2.2.2.2.1 (some ([], false)) (cond (decide ((An b3 (i64.wrap ((m6000_0.length : Int) - 1))).2.2.2.2.2.1 > 255)) (some ([], false)) ((Zk k b3).bind fun b4 => some (b4, true))))
 | z0_0 :: r, m6000_0, m7000_0 => Ax v fun v0 v1 v2 v3 v4 _ _ v7 _ => (Q4 k z0_0).bind fun b2 => B3 (m6000_0.length) ([(v0, v1, v2, v3, v4, m7000_0, true, v7, b2)].length) 80 (E8 k v w r (m6000_0 ++ [(v0, v1, v2, v3, v4, m7000_0, true, v7, b2)]) (i64.wrap (m7000_0 + (z0_0.length : Int))))
theorem Xae {β : Type} (k : Nat) (v : (den Ad)) (w : Int) (m6000_0 : Am) (m7000_0 : Int) (K : KT β) :
  E0 (Dt k) Tryz.f265 [1, 1, 1, 1, 0, 1, 0] 0 25 (Ai (Dt k) [1, 1, 1, 1, 0, 1, 0] (Al Tryz.f265) 0 (Qb k v w K)) ([] : List Ac) (Mc v w m6000_0 m7000_0) =
  Az (i64.wrap ((m6000_0.length : Int) - 1)) m6000_0 ((sto (m6000_0.set ((i64.wrap ((m6000_0.length : Int) - 1)).toNat) ((An m6000_0 (i64.wrap ((m6000_0.length : Int) - 1))).1, (An m6000_0 (i64.wrap ((m6000_0.length : Int) - 1))).2.1, (An m6000_0 (i64.wrap ((m6000_0.length : Int) - 1))).2.2.1, (An m6000_0 (i64.wrap ((m6000_0.length : Int) - 1))).2.2.2.1, (An m6000_0 (i64.wrap ((m6000_0.length : Int) - 1))).2.2.2.2.1, (An m6000_0 (i64.wrap ((m6000_0.length : Int) - 1))).2.2.2.2.2.1, v.2.2.2.2.2.2.1, (An m6000_0 (i64.wrap ((m6000_0.length : Int) - 1))).2.2.2.2.2.2.2))).bind fun b3 => cond v.2.2.2.2.2.2.2.1 (K (F265_O.put ([], false))) (cond (decide ((An b3 (i64.wrap ((m6000_0.length : Int) - 1))).2.2.2.2.2.1 > 255)) (K (F265_O.put ([], false))) ((Zk k b3).bind fun b4 => K (F265_O.put (b4, true))))) := by kernel_rfl
theorem Z8 {β : Type} (k : Nat) (v : (den Ad)) (w : Int) (z0_0 : Ac) (r : List Ac) (m6000_0 : Am) (m7000_0 : Int) (K : KT β) :
  E0 (Dt k) Tryz.f265 [1, 1, 1, 1, 0, 1, 0] 0 25 (Ai (Dt k) [1, 1, 1, 1, 0, 1, 0] (Al Tryz.f265) 0 (Qb k v w K)) (z0_0 :: r) (Mc v w m6000_0 m7000_0) =
  Ax v fun v0 v1 v2 v3 v4 _ _ v7 _ => (Q4 k z0_0).bind fun b2 => B3 (m6000_0.length) ([(v0, v1, v2, v3, v4, m7000_0, true, v7, b2)].length) 80 (E0 (Dt k) Tryz.f265 [1, 1, 1, 1, 0, 1, 0] 0 25 (Ai (Dt k) [1, 1, 1, 1, 0, 1, 0] (Al Tryz.f265) 0 (Qb k v w K)) r (Mc v w (m6000_0 ++ [(v0, v1, v2, v3, v4, m7000_0, true, v7, b2)]) (i64.wrap (m7000_0 + (z0_0.length : Int))))) := by kernel_rfl
theorem Xd6 {β : Type} (k : Nat) (v : (den Ad)) (w : Int) (K : KT β) (l : List Ac) : ∀ (m6000_0 : Am) (m7000_0 : Int), E0 (Dt k) Tryz.f265 [1, 1, 1, 1, 0, 1, 0] 0 25 (Ai (Dt k) [1, 1, 1, 1, 0, 1, 0] (Al Tryz.f265) 0 (Qb k v w K)) l (Mc v w m6000_0 m7000_0) =
  (E8 k v w l m6000_0 m7000_0).bind fun r => K (F265_O.put r) := by
 induction l with
 | nil => intros; rw [Xae, E8]; simp only [z1, z2, z3, z4, z5, z6, z7, z8, Ax]
 | cons z r ih =>
  intros
  rw [Z8, E8]
  simp only [z1, z2, z3, z4, z5, z6, z7, z8, Ax, ih]
def Yl (k : Nat) (v : (den Ad)) (w : Int) : Option (Am × Bool) := cond (decide ((v.2.2.2.2.2.2.2.2.length : Int) ≤ w)) ((Pq k v).bind fun b1 => some ([b1], true)) (cond (decide (1 ≤ w) && decide (w ≤ 9223372036854775807) && decide (v.2.2.2.2.2.2.2.2.length ≤ 140737488355328)) (E8 k v w (B0 ((w : Int).toNat) v.2.2.2.2.2.2.2.2) [] v.2.2.2.2.2.1) none)
theorem Xq1 {β : Type} (k : Nat) (v : (den Ad)) (w : Int) (K : KT β) : Ag (Dt k) Tryz.f265 (PsT.put Xa9 (v, w, ())) K = (Yl k v w).bind fun r => K (F265_O.put r) :=
 Eq.trans (b := cond (decide ((v.2.2.2.2.2.2.2.2.length : Int) ≤ w)) ((Pq k v).bind fun b1 => K (F265_O.put ([b1], true))) (cond (decide (1 ≤ w) && decide (w ≤ 9223372036854775807) && decide (v.2.2.2.2.2.2.2.2.length ≤ 140737488355328)) (E0 (Dt k) Tryz.f265 [1, 1, 1, 1, 0, 1, 0] 0 25 (Ai (Dt k) [1, 1, 1, 1, 0, 1, 0] (Al Tryz.f265) 0 (Qb k v w K)) (B0 ((w : Int).toNat) v.2.2.2.2.2.2.2.2) (Mc v w [] v.2.2.2.2.2.1)) none)) (by kernel_rfl) (by simp only [Yl, z1, z2, z3, z4, z5, z6, z7, z8, Ax, Xd6])
def Xjv (k : Nat) : FD := ⟨265, Xa9, F265_O, Yl k⟩
theorem Xyl (k : Nat) : (Xjv k).Ok Tryz.prog := ⟨fun x => Aa (Aj (Ak (.c (Sp k) (.c (Xv k) (.c (Xp9 k) .n)))) _ _ _ _) Ah Tryz.func265 rfl rfl (Xq1 k _ _ some), .of (by kernel_rfl)⟩
end
end Go.Proofs.YtdmepjjepogddaaGreat.Gn
end

section
set_option linter.unusedVariables false
set_option linter.unusedSimpArgs false
namespace Go.Proofs.YtdmepjjepogddaaGreat.Gn
open Go.Rf IntKind
noncomputable section
def X25 : Nat → Hint
 | 1 => ⟨pl 4 2 (pl 7 1 (pl 66 2 [])), pl 4000 3 (pl 5000 4 (pl 59000 1 []))⟩
 | _ => ⟨[], []⟩
abbrev Xe (k : Nat) : Env := Ba (A0 [Ng k, Xll k, Xv6 k, Xjv k]) X25 .own [] k
abbrev Xc5 : List PA := [.agg (.pair mI (.sl .ro B4)), .agg (.pair mI C3)]
abbrev F208_O : RO := ⟨[.a], [Xn8]⟩
noncomputable def Xw4 {β : Type} (k : Nat) (v : (den sta)) (w : (den Ad)) (K : KT β) : Ex → St → Option β := Bi (Xe k) Tryz.f208 (PsT.put Xc5 (v, w, ())) K
def Xts (v : (den sta)) (w : (den Ad)) (x66_1 x67_1 : Int) (m5000_1 : (den B4)) (m59000_1 : Am) : St := ⟨dz 4 ((.one (.ptr (.cell 4000) 3 0)) :: (.one (.ptr (.cell 5000) 4 0)) :: (.one .d) :: (.one (.a (.cell 59000) 0 0 none)) :: dz 58 ((.one (vI x66_1)) :: (.one (vI x67_1)) :: dz 15 [])), Bd 4000 (Cx Xn8 (0, 0, [])) (Bd 5000 (Cx m_1 m5000_1) [eM 59000 (.s .own Ad m59000_1)])⟩
noncomputable def Nu {β : Type} (k : Nat) (v : (den sta)) (w : (den Ad)) (K : KT β) (n : Nat) (x66_1 x67_1 : Int) (m5000_1 : (den B4)) (m59000_1 : Am) : Option β := A1 (Xe k) Tryz.f208 [1, 1, 1, 1, 1, 1, 1, 0, 1, 0] 1 (Ai (Xe k) [1, 1, 1, 1, 1, 1, 1, 0, 1, 0] (Al Tryz.f208) 0 (Xw4 k v w K)) n (Xts v w x66_1 x67_1 m5000_1 m59000_1)
def Fy {β : Type} (NX : Int → Int → (den B4) → Am → Option β) (RET : (den Pr) → Option β) (k : Nat) (v : (den sta)) (w : (den Ad)) (x66_1 x67_1 : Int) (m5000_1 : (den B4)) (m59000_1 : Am) : Option β := cond (decide (x67_1 < x66_1)) (Az x67_1 m59000_1 (Az x67_1 m59000_1 (NX x66_1 (i64.wrap (x67_1 + 1)) m5000_1 (m59000_1.set x67_1.toNat ((An m59000_1 x67_1).1, (An m59000_1 x67_1).2.1, (An m59000_1 x67_1).2.2.1, i64.wrap ((An m59000_1 x67_1).2.2.2.1 - 1), (An m59000_1 x67_1).2.2.2.2))))) (RET (2, m5000_1.2.2.1, m59000_1))
def D5 (k : Nat) (v : (den sta)) (w : (den Ad)) : Nat → Int → Int → (den B4) → Am → Option ((den Pr))
 | 0, _, _, _, _ => none
 | n + 1, x66_1, x67_1, m5000_1, m59000_1 => Fy (D5 k v w n) some k v w x66_1 x67_1 m5000_1 m59000_1
theorem Xb9 {β : Type} (k : Nat) (v : (den sta)) (w : (den Ad)) (K : KT β) (n : Nat) : ∀ (x66_1 x67_1 : Int) (m5000_1 : (den B4)) (m59000_1 : Am), Nu k v w K n x66_1 x67_1 m5000_1 m59000_1 =
  (D5 k v w n x66_1 x67_1 m5000_1 m59000_1).bind fun r => K (F208_O.put r) := by
 induction n with
 | zero => intros; rfl
 | succ n ih =>
  intro x66_1 x67_1 m5000_1 m59000_1
  refine Eq.trans (b := Fy (Nu k v w K n) (fun r => K (F208_O.put r)) k v w x66_1 x67_1 m5000_1 m59000_1) (by kernel_rfl) ?_
  rw [D5]
  simp only [Fy, z1, z2, z3, z4, z5, z6, z7, z8, Ax, ih]
def So {β : Type} (LP1 : Int → Int → (den B4) → Am → Option β) (RET : (den Pr) → Option β) (k : Nat) (v : (den sta)) (w : (den Ad)) : Option β := cond (w.2.1 == v.1) ((Pq k w).bind fun b1 => RET (1, 0, [b1])) (cond (decide (w.2.2.2.1 < 2)) ((Y8 k v w 4 0).bind fun b2 => RET b2) ((F74 k v.2 w.2.1 17).bind fun b3 => cond (!b3.2) ((Y8 k v w 3 0).bind fun b4 => RET b4) (cond (decide ((w.2.2.2.2.2.2.2.2.length : Int) > b3.1.2.2.2)) (cond w.2.2.2.2.2.2.2.1 ((Y8 k v w 6 b3.1.2.2.2).bind fun b5 => RET b5) ((Yl k w b3.1.2.2.2).bind fun b6 => cond (!b6.2) (RET (0, 0, [])) (LP1 (b6.1.length : Int) 0 b3.1 b6.1))) ((Yl k w b3.1.2.2.2).bind fun b7 => cond (!b7.2) (RET (0, 0, [])) (LP1 (b7.1.length : Int) 0 b3.1 b7.1)))))
def Vd (k : Nat) (v : (den sta)) (w : (den Ad)) : Option ((den Pr)) := So (D5 k v w k) some k v w
theorem Xqz {β : Type} (k : Nat) (v : (den sta)) (w : (den Ad)) (K : KT β) : Ag (Xe k) Tryz.f208 (PsT.put Xc5 (v, w, ())) K = (Vd k v w).bind fun r => K (F208_O.put r) :=
 Eq.trans (b := So (Nu k v w K k) (fun r => K (F208_O.put r)) k v w) (by kernel_rfl) (by simp only [Vd, So, z1, z2, z3, z4, z5, z6, z7, z8, Ax, Xb9])
def Xob (k : Nat) : FD := ⟨208, Xc5, F208_O, Vd k⟩
theorem X29 (k : Nat) : (Xob k).Ok Tryz.prog := ⟨fun x => Aa (Aj (Ak (.c (Sp k) (.c (Xy8 k) (.c (X5d k) (.c (Xyl k) .n))))) _ _ _ _) Ah Tryz.func208 rfl rfl (Xqz k _ _ some), .of (by kernel_rfl)⟩
def X0w : Nat → Hint
 | 0 => ⟨(3, .own .own Ad []) :: (pl 6 3 []), []⟩
 | _ => ⟨[], []⟩
abbrev Xs (k : Nat) : Env := Ba (A0 [Ng k, Xa5 k]) X0w .own [] k
abbrev Xac : List PA := [.one (.sl .ro Ad)]
abbrev F209_O : RO := ⟨[.v], [.sl .own Ad]⟩
noncomputable def Xzf {β : Type} (k : Nat) (v : Am) (K : KT β) : Ex → St → Option β := Bi (Xs k) Tryz.f209 (PsT.put Xac (v, ())) K
def Xsn (v : Am) (x8_0 : Int) (m3900_0 : Am) : St := ⟨dz 3 ((.one (.a (.cell 3900) 0 0 none)) :: (.one .d) :: (.one .d) :: (.one (.s .ro Ad v)) :: (.one (vI (v.length : Int))) :: (.one (vI x8_0)) :: dz 11 []), [eM 3900 (.s .own Ad m3900_0)]⟩
noncomputable def Nd {β : Type} (k : Nat) (v : Am) (K : KT β) (n : Nat) (x8_0 : Int) (m3900_0 : Am) : Option β := A1 (Xs k) Tryz.f209 [1, 1, 0, 1, 0] 0 (Ai (Xs k) [1, 1, 0, 1, 0] (Al Tryz.f209) 0 (Xzf k v K)) n (Xsn v x8_0 m3900_0)
def Jg {β : Type} (NX : Int → Am → Option β) (RET : Am → Option β) (k : Nat) (v : Am) (x8_0 : Int) (m3900_0 : Am) : Option β := cond (decide (x8_0 < (v.length : Int))) (Az x8_0 v ((Pq k (An v x8_0)).bind fun b1 => B3 (m3900_0.length) ([b1].length) 80 (NX (i64.wrap (x8_0 + 1)) (m3900_0 ++ [b1])))) ((Zk k m3900_0).bind fun b2 => RET b2)
def Jf (k : Nat) (v : Am) : Nat → Int → Am → Option (Am)
 | 0, _, _ => none
 | n + 1, x8_0, m3900_0 => Jg (Jf k v n) some k v x8_0 m3900_0
theorem Xc1 {β : Type} (k : Nat) (v : Am) (K : KT β) (n : Nat) : ∀ (x8_0 : Int) (m3900_0 : Am), Nd k v K n x8_0 m3900_0 =
  (Jf k v n x8_0 m3900_0).bind fun r => K (F209_O.put r) := by
 induction n with
 | zero => intros; rfl
 | succ n ih =>
  intro x8_0 m3900_0
  refine Eq.trans (b := Jg (Nd k v K n) (fun r => K (F209_O.put r)) k v x8_0 m3900_0) (by kernel_rfl) ?_
  rw [Jf]
  simp only [Jg, z1, z2, z3, z4, z5, z6, z7, z8, ih]
def Wn {β : Type} (LP0 : Int → Am → Option β) (k : Nat) (v : Am) : Option β := LP0 0 []
def Po (k : Nat) (v : Am) : Option (Am) := Wn (Jf k v k) k v
theorem Xsl {β : Type} (k : Nat) (v : Am) (K : KT β) : Ag (Xs k) Tryz.f209 (PsT.put Xac (v, ())) K = (Po k v).bind fun r => K (F209_O.put r) :=
 Eq.trans (b := Wn (Nd k v K k) k v) (by kernel_rfl) (by simp only [Po, Wn, z1, z2, z3, z4, z5, z6, z7, z8, Xc1])
def Xdl (k : Nat) : FD := ⟨209, Xac, F209_O, Po k⟩
theorem Xm9 (k : Nat) : (Xdl k).Ok Tryz.prog := ⟨fun x => Aa (Aj (Ak (.c (Sp k) (.c (Xp9 k) .n))) _ _ _ _) Ah Tryz.func209 rfl rfl (Xsl k _ some), .of (by kernel_rfl)⟩
def X1x : Nat → Hint
 | 0 => ⟨pl 0 1 (pl 6 2 ((8, .own .sown (.pair (.int .i64) Ad) []) :: [])), pl 6000 3 ((7000, .own .own Ad []) :: (7001, .own .own Ad []) :: (pl 7002 1 []))⟩
 | 3 => ⟨pl 0 1 (pl 6 2 ((8, .own .sown (.pair (.int .i64) Ad) []) :: (pl 11 1 (pl 65 3 [])))), pl 6000 3 (pl 7000 3 ((37002, .own .sown Ad []) :: []))⟩
 | _ => ⟨[], []⟩
abbrev Er (k : Nat) : Env := Ba (A0 [Xob k, Xnq k, Xdl k]) X1x .own [] k
abbrev Xcc : List PA := [.one (.sl .ro sta), .one mI, .agg (.pair mI C3)]
abbrev F140_O : RO := ⟨[.a], [J7]⟩
noncomputable def Xc3 {β : Type} (k : Nat) (v : Ab) (w : Int) (p : (den Ad)) (K : KT β) : Ex → St → Option β := Bi (Er k) Tryz.f140 (PsT.put Xcc (v, w, p, ())) K
def Xqk (v : Ab) (w : Int) (p : (den Ad)) (x11_3 x66_3 x67_3 : Int) (m7000_3 : (den Cy)) (m37002_3 : Am) (m8900_3 : Ca) : St := ⟨(.one (.s .ro sta v)) :: dz 5 ((.one (.ptr (.cell 6000) 3 0)) :: (.one (.ptr (.cell 7000) 3 0)) :: (.one (.a (.cell 8900) 0 0 none)) :: (.one .d) :: (.one .d) :: (.one (vI x11_3)) :: dz 53 ((.one (.a (.cell 37002) 0 0 none)) :: (.one (vI x66_3)) :: (.one (vI x67_3)) :: dz 19 [])), Bd 6000 (Cx J7 ([], [], 0)) (Bd 7000 (Cx J7 m7000_3) [eM 37002 (.s .sown Ad m37002_3), eM 8900 (.s .sown (.pair (.int .i64) Ad) m8900_3)])⟩
noncomputable def Mz {β : Type} (k : Nat) (v : Ab) (w : Int) (p : (den Ad)) (KK : Ex → St → Option β) (n : Nat) (x11_3 x66_3 x67_3 : Int) (m7000_3 : (den Cy)) (m37002_3 : Am) (m8900_3 : Ca) : Option β := A1 (Er k) Tryz.f140 [1, 1, 0, 1, 0, 0, 1, 0, 1, 1, 1, 1, 1, 0, 1, 1, 1, 1, 1, 0, 1, 1, 0, 1, 0] 3 KK n (Xqk v w p x11_3 x66_3 x67_3 m7000_3 m37002_3 m8900_3)
def I8 {β : Type} (NX : Int → Int → Int → (den Cy) → Am → Ca → Option β) (EX0 : (Int × Int × Int × (den Cy) × Am × Ca) → Option β) (k : Nat) (v : Ab) (w : Int) (p : (den Ad)) (x11_3 x66_3 x67_3 : Int) (m7000_3 : (den Cy)) (m37002_3 : Am) (m8900_3 : Ca) : Option β := cond (decide (x67_3 < x66_3)) (Az x67_3 m37002_3 (B3 (m8900_3.length) ([(x11_3, (An m37002_3 x67_3))].length) 88 (NX x11_3 x66_3 (i64.wrap (x67_3 + 1)) m7000_3 m37002_3 (m8900_3 ++ [(x11_3, (An m37002_3 x67_3))])))) (EX0 (x11_3, x66_3, x67_3, m7000_3, m37002_3, m8900_3))
def Jd (k : Nat) (v : Ab) (w : Int) (p : (den Ad)) : Nat → Int → Int → Int → (den Cy) → Am → Ca → Option ((Int × Int × Int × (den Cy) × Am × Ca))
 | 0, _, _, _, _, _, _ => none
 | n + 1, x11_3, x66_3, x67_3, m7000_3, m37002_3, m8900_3 => I8 (Jd k v w p n) (fun y3 => some y3) k v w p x11_3 x66_3 x67_3 m7000_3 m37002_3 m8900_3
theorem Xdn {β : Type} (k : Nat) (v : Ab) (w : Int) (p : (den Ad)) (KK : Ex → St → Option β) (n : Nat) : ∀ (x11_3 x66_3 x67_3 : Int) (m7000_3 : (den Cy)) (m37002_3 : Am) (m8900_3 : Ca), Mz k v w p KK n x11_3 x66_3 x67_3 m7000_3 m37002_3 m8900_3 =
  (Jd k v w p n x11_3 x66_3 x67_3 m7000_3 m37002_3 m8900_3).bind fun y3 => KK (.exit 3) ⟨(.one (.s .ro sta v)) :: dz 5 ((.one (.ptr (.cell 6000) 3 0)) :: (.one (.ptr (.cell 7000) 3 0)) :: (.one (.a (.cell 8900) 0 0 none)) :: (.one .d) :: (.one .d) :: (.one (vI y3.1)) :: dz 53 ((.one (.a (.cell 37002) 0 0 none)) :: (.one (vI y3.2.1)) :: (.one (vI y3.2.2.1)) :: (.one (vB false)) :: dz 18 [])), Bd 6000 (Cx J7 ([], [], 0)) (Bd 7000 (Cx J7 y3.2.2.2.1) [eM 37002 (.s .sown Ad y3.2.2.2.2.1), eM 8900 (.s .sown (.pair (.int .i64) Ad) y3.2.2.2.2.2)])⟩ := by
 induction n with
 | zero => intros; rfl
 | succ n ih =>
  intro x11_3 x66_3 x67_3 m7000_3 m37002_3 m8900_3
  refine Eq.trans (b := I8 (Mz k v w p KK n) (fun y3 => KK (.exit 3) ⟨(.one (.s .ro sta v)) :: dz 5 ((.one (.ptr (.cell 6000) 3 0)) :: (.one (.ptr (.cell 7000) 3 0)) :: (.one (.a (.cell 8900) 0 0 none)) :: (.one .d) :: (.one .d) :: (.one (vI y3.1)) :: dz 53 ((.one (.a (.cell 37002) 0 0 none)) :: (.one (vI y3.2.1)) :: (.one (vI y3.2.2.1)) :: (.one (vB false)) :: dz 18 [])), Bd 6000 (Cx J7 ([], [], 0)) (Bd 7000 (Cx J7 y3.2.2.2.1) [eM 37002 (.s .sown Ad y3.2.2.2.2.1), eM 8900 (.s .sown (.pair (.int .i64) Ad) y3.2.2.2.2.2)])⟩) k v w p x11_3 x66_3 x67_3 m7000_3 m37002_3 m8900_3) (by kernel_rfl) ?_
  rw [Jd]
  simp only [I8, z1, z2, z3, z4, z5, z6, z7, z8, Ax, ih]
def Xtp (v : Ab) (w : Int) (p : (den Ad)) (m7000_0 : (den Cy)) (m8900_0 : Ca) : St := ⟨(.one (.s .ro sta v)) :: dz 5 ((.one (.ptr (.cell 6000) 3 0)) :: (.one (.ptr (.cell 7000) 3 0)) :: (.one (.a (.cell 8900) 0 0 none)) :: dz 78 []), Bd 6000 (Cx J7 ([], [], 0)) (Bd 7000 (Cx J7 m7000_0) [eM 8900 (.s .sown (.pair (.int .i64) Ad) m8900_0)])⟩
noncomputable def Dd {β : Type} (k : Nat) (v : Ab) (w : Int) (p : (den Ad)) (K : KT β) (n : Nat) (m7000_0 : (den Cy)) (m8900_0 : Ca) : Option β := A1 (Er k) Tryz.f140 [1, 1, 0, 1, 0] 0 (Ai (Er k) [1, 1, 0, 1, 0] (Al Tryz.f140) 0 (Xc3 k v w p K)) n (Xtp v w p m7000_0 m8900_0)
def Be (k : Nat) (v : Ab) (w : Int) (p : (den Ad)) : Nat → (den Cy) → Ca → Option ((den Cy))
 | 0, _, _ => none
 | n + 1, m7000_0, m8900_0 => cond (decide ((m8900_0.length : Int) > 0)) (cond (decide (0 < (m8900_0.length : Int))) (cond (decide (0 ≤ 1) && decide (1 ≤ (m8900_0.length : Int))) (Az (An m8900_0 0).1 v ((Vd k (An v (An m8900_0 0).1) (An m8900_0 0).2).bind fun b1 => cond (b1.1 == 1) (B3 (m7000_0.1.length) (b1.2.2.length) 80 (Be k v w p n (m7000_0.1 ++ b1.2.2, m7000_0.2.1, i64.wrap (m7000_0.2.2 + 1)) ((m8900_0.take (((m8900_0.length : Int)).toNat)).drop 1))) (cond (b1.1 == 3) (B3 (m7000_0.2.1.length) (b1.2.2.length) 80 (Be k v w p n (m7000_0.1, m7000_0.2.1 ++ b1.2.2, i64.wrap (m7000_0.2.2 + 1)) ((m8900_0.take (((m8900_0.length : Int)).toNat)).drop 1))) (cond (b1.1 == 2) ((F75 k v b1.2.1).bind fun b2 => cond (decide (b2 ≥ 0)) ((Jd k v w p k b2 (b1.2.2.length : Int) 0 (m7000_0.1, m7000_0.2.1, i64.wrap (m7000_0.2.2 + 1)) b1.2.2 ((m8900_0.take (((m8900_0.length : Int)).toNat)).drop 1)).bind fun y3 => Be k v w p n y3.2.2.2.1 y3.2.2.2.2.2) (Be k v w p n (m7000_0.1, m7000_0.2.1, i64.wrap (m7000_0.2.2 + 1)) ((m8900_0.take (((m8900_0.length : Int)).toNat)).drop 1))) (Be k v w p n (m7000_0.1, m7000_0.2.1, i64.wrap (m7000_0.2.2 + 1)) ((m8900_0.take (((m8900_0.length : Int)).toNat)).drop 1)))))) none) none) ((Po k m7000_0.1).bind fun b3 => (Po k m7000_0.2.1).bind fun b4 => some (b3, b4, m7000_0.2.2))
theorem U8 {β : Type} (k n : Nat) (v : Ab) (w : Int) (p : (den Ad)) (y3 : Int × Int × Int × (den Cy) × Am × Ca) (K : KT β) :
  (Ai (Er k) [1, 0, 1, 1, 1, 1, 1, 0, 1, 1, 1, 1, 1, 0, 1, 1, 0, 1, 0] (B1 [1, 1, 0, 1, 0, 0] (Al Tryz.f140)) 0 (Fv (Er k) Tryz.f140 [1, 1, 0, 1, 0] 0 (Ai (Er k) [1, 1, 0, 1, 0] (Al Tryz.f140) 0 (Xc3 k v w p K)) n)) (.exit 3) ⟨(.one (.s .ro sta v)) :: dz 5 ((.one (.ptr (.cell 6000) 3 0)) :: (.one (.ptr (.cell 7000) 3 0)) :: (.one (.a (.cell 8900) 0 0 none)) :: (.one .d) :: (.one .d) :: (.one (vI y3.1)) :: dz 53 ((.one (.a (.cell 37002) 0 0 none)) :: (.one (vI y3.2.1)) :: (.one (vI y3.2.2.1)) :: (.one (vB false)) :: dz 18 [])), Bd 6000 (Cx J7 ([], [], 0)) (Bd 7000 (Cx J7 y3.2.2.2.1) [eM 37002 (.s .sown Ad y3.2.2.2.2.1), eM 8900 (.s .sown (.pair (.int .i64) Ad) y3.2.2.2.2.2)])⟩ =
  Dd k v w p K n y3.2.2.2.1 y3.2.2.2.2.2 := by kernel_rfl
theorem Xa2 {β : Type} (k : Nat) (v : Ab) (w : Int) (p : (den Ad)) (K : KT β) (n : Nat) : ∀ (m7000_0 : (den Cy)) (m8900_0 : Ca), Dd k v w p K n m7000_0 m8900_0 =
  (Be k v w p n m7000_0 m8900_0).bind fun r => K (F140_O.put r) := by
 induction n with
 | zero => intros; rfl
 | succ n ih =>
  intro m7000_0 m8900_0
  refine Eq.trans (b := cond (decide ((m8900_0.length : Int) > 0)) (cond (decide (0 < (m8900_0.length : Int))) (cond (decide (0 ≤ 1) && decide (1 ≤ (m8900_0.length : Int))) (Az (An m8900_0 0).1 v ((Vd k (An v (An m8900_0 0).1) (An m8900_0 0).2).bind fun b1 => cond (b1.1 == 1) (B3 (m7000_0.1.length) (b1.2.2.length) 80 (Dd k v w p K n (m7000_0.1 ++ b1.2.2, m7000_0.2.1, i64.wrap (m7000_0.2.2 + 1)) ((m8900_0.take (((m8900_0.length : Int)).toNat)).drop 1))) (cond (b1.1 == 3) (B3 (m7000_0.2.1.length) (b1.2.2.length) 80 (Dd k v w p K n (m7000_0.1, m7000_0.2.1 ++ b1.2.2, i64.wrap (m7000_0.2.2 + 1)) ((m8900_0.take (((m8900_0.length : Int)).toNat)).drop 1))) (cond (b1.1 == 2) ((F75 k v b1.2.1).bind fun b2 => cond (decide (b2 ≥ 0)) (Mz k v w p (Ai (Er k) [1, 0, 1, 1, 1, 1, 1, 0, 1, 1, 1, 1, 1, 0, 1, 1, 0, 1, 0] (B1 [1, 1, 0, 1, 0, 0] (Al Tryz.f140)) 0 (Fv (Er k) Tryz.f140 [1, 1, 0, 1, 0] 0 (Ai (Er k) [1, 1, 0, 1, 0] (Al Tryz.f140) 0 (Xc3 k v w p K)) n)) k b2 (b1.2.2.length : Int) 0 (m7000_0.1, m7000_0.2.1, i64.wrap (m7000_0.2.2 + 1)) b1.2.2 ((m8900_0.take (((m8900_0.length : Int)).toNat)).drop 1)) (Dd k v w p K n (m7000_0.1, m7000_0.2.1, i64.wrap (m7000_0.2.2 + 1)) ((m8900_0.take (((m8900_0.length : Int)).toNat)).drop 1))) (Dd k v w p K n (m7000_0.1, m7000_0.2.1, i64.wrap (m7000_0.2.2 + 1)) ((m8900_0.take (((m8900_0.length : Int)).toNat)).drop 1)))))) none) none) ((Po k m7000_0.1).bind fun b3 => (Po k m7000_0.2.1).bind fun b4 => K (F140_O.put (b3, b4, m7000_0.2.2)))) (by kernel_rfl) ?_
  rw [Be]
  simp only [z1, z2, z3, z4, z5, z6, z7, z8, Ax, Xdn, U8 k n v w p _ K, ih, Az, B3]
def Us {β : Type} (LP0 : (den Cy) → Ca → Option β) (k : Nat) (v : Ab) (w : Int) (p : (den Ad)) : Option β := Ax p fun p0 p1 p2 p3 p4 p5 p6 p7 p8 => LP0 ([], [], 0) [(w, p0, p1, p2, p3, p4, p5, p6, p7, p8)]
def Xg6 (k : Nat) (v : Ab) (w : Int) (p : (den Ad)) : Option ((den Cy)) := Us (Be k v w p k) k v w p
theorem Xtl {β : Type} (k : Nat) (v : Ab) (w : Int) (p : (den Ad)) (K : KT β) : Ag (Er k) Tryz.f140 (PsT.put Xcc (v, w, p, ())) K = (Xg6 k v w p).bind fun r => K (F140_O.put r) :=
 Eq.trans (b := Us (Dd k v w p K k) k v w p) (by kernel_rfl) (by simp only [Xg6, Us, z1, z2, z3, z4, z5, z6, z7, z8, Ax, Xa2])
def Xoe (k : Nat) : FD := ⟨140, Xcc, F140_O, Xg6 k⟩
theorem X28 (k : Nat) : (Xoe k).Ok Tryz.prog := ⟨fun x => Aa (Aj (Ak (.c (X29 k) (.c (Xv4 k) (.c (Xm9 k) .n)))) _ _ _ _) Ah Tryz.func140 rfl rfl (Xtl k _ _ _ some), .of (by kernel_rfl)⟩
abbrev Xwq (k : Nat) : Env := Ba Bl Ap .own [] k
abbrev Xj5 : List PA := [.agg (.pair mI C3), .agg (.pair mI C3)]
abbrev F217_O : RO := ⟨[.v], [mB]⟩
def Xbf {β : Type} (RET : Bool → Option β) (k : Nat) (v w : (den Ad)) : Option β := cond (v.1 == w.1) (cond (v.2.1 == w.2.1) (cond (v.2.2.1 == w.2.2.1) (RET (v.2.2.2.2.1 == w.2.2.2.2.1)) (RET false)) (RET false)) (RET false)
def Xd4 := Xbf (β := Bool) some
theorem Xua {β : Type} (k : Nat) (v w : (den Ad)) (K : KT β) : Ag (Xwq k) Tryz.f217 (PsT.put Xj5 (v, w, ())) K = (Xd4 k v w).bind fun r => K (F217_O.put r) :=
 Eq.trans (b := Xbf (fun r => K (F217_O.put r)) k v w) (by kernel_rfl) (by simp only [Xd4, Xbf, z1, z2, z3, z4, z5, z6, z7, z8, Ax])
def Wx (k : Nat) : FD := ⟨217, Xj5, F217_O, Xd4 k⟩
theorem Xau (k : Nat) : (Wx k).Ok Tryz.prog := ⟨fun x => Aa (Aj .none _ _ _ _) Ah Tryz.func217 rfl rfl (Xua k _ _ some), .of (by kernel_rfl)⟩
def Xxn : Nat → Hint
 | 0 => ⟨pl 1 1 (pl 3 1 (pl 8 3 [])), pl 1000 2 []⟩
 | _ => ⟨[], []⟩
abbrev U4 (k : Nat) : Env := Ba (A0 [Xej k, Wx k, Kh k]) Xxn .own [] k
abbrev Xcl : List PA := [.agg (.pair (.sl .ro Ad) mI)]
abbrev F267_O : RO := ⟨[.v], [mB]⟩
noncomputable def X0y {β : Type} (k : Nat) (v : (den Ay)) (K : KT β) : Ex → St → Option β := Bi (U4 k) Tryz.f267 (PsT.put Xcl (v, ())) K
def Xr6 (v : (den Ay)) (x3_0 x10_0 : Int) : St := ⟨(.one .d) :: (.one (.ptr (.cell 1000) 2 0)) :: (.one .d) :: (.one (vI x3_0)) :: dz 4 ((.one (.s .ro Ad v.1)) :: (.one (vI (v.1.length : Int))) :: (.one (vI x10_0)) :: dz 57 []), Bd 1000 (Cx (.pair (.sl .ro Ad) mI) v) []⟩
noncomputable def M7 {β : Type} (k : Nat) (v : (den Ay)) (K : KT β) (n : Nat) (x3_0 x10_0 : Int) : Option β := A1 (U4 k) Tryz.f267 [1, 1, 0, 1, 0] 0 (Ai (U4 k) [1, 1, 0, 1, 0] (Al Tryz.f267) 0 (X0y k v K)) n (Xr6 v x3_0 x10_0)
def F6 {β : Type} (NX : Int → Int → Option β) (RET : Bool → Option β) (k : Nat) (v : (den Ay)) (x3_0 x10_0 : Int) : Option β := Bb v fun v0 v1 => cond (decide (x10_0 < (v0.length : Int))) (Az x10_0 v0 ((F89 k (An v0 x10_0)).bind fun b1 => cond (!b1) (RET false) (cond (decide (0 < (v0.length : Int))) ((Xd4 k (An v0 x10_0) (An v0 0)).bind fun b2 => cond (!b2) (RET false) (cond (decide (x10_0 > 0)) (Az (i64.wrap (x10_0 - 1)) v0 (cond (decide ((An v0 x10_0).2.2.2.2.2.1 < (i64.wrap ((An v0 (i64.wrap (x10_0 - 1))).2.2.2.2.2.1 + ((An v0 (i64.wrap (x10_0 - 1))).2.2.2.2.2.2.2.2.length : Int))))) (RET false) (cond (!(An v0 (i64.wrap (x10_0 - 1))).2.2.2.2.2.2.1) (RET false) (NX (i64.wrap (x3_0 + ((An v0 x10_0).2.2.2.2.2.2.2.2.length : Int))) (i64.wrap (x10_0 + 1)))))) (NX (i64.wrap (x3_0 + ((An v0 x10_0).2.2.2.2.2.2.2.2.length : Int))) (i64.wrap (x10_0 + 1))))) none))) (cond (decide ((v0.length : Int) > 0)) (cond (decide (x3_0 ≤ 48)) ((Tm k v1 0 1000000).bind fun b3 => RET b3) (RET false)) (RET false))
def D9 (k : Nat) (v : (den Ay)) : Nat → Int → Int → Option (Bool)
 | 0, _, _ => none
 | n + 1, x3_0, x10_0 => F6 (D9 k v n) some k v x3_0 x10_0
theorem Xbw {β : Type} (k : Nat) (v : (den Ay)) (K : KT β) (n : Nat) : ∀ (x3_0 x10_0 : Int), M7 k v K n x3_0 x10_0 =
  (D9 k v n x3_0 x10_0).bind fun r => K (F267_O.put r) := by
 induction n with
 | zero => intros; rfl
 | succ n ih =>
  intro x3_0 x10_0
  refine Eq.trans (b := F6 (M7 k v K n) (fun r => K (F267_O.put r)) k v x3_0 x10_0) (by kernel_rfl) ?_
  rw [D9]
  simp only [F6, z1, z2, z3, z4, z5, z6, z7, z8, Bb, ih]
def Xdp {β : Type} (LP0 : Int → Int → Option β) (k : Nat) (v : (den Ay)) : Option β := LP0 0 0
def Xbr (k : Nat) (v : (den Ay)) : Option (Bool) := Xdp (D9 k v k) k v
theorem Xrz {β : Type} (k : Nat) (v : (den Ay)) (K : KT β) : Ag (U4 k) Tryz.f267 (PsT.put Xcl (v, ())) K = (Xbr k v).bind fun r => K (F267_O.put r) :=
 Eq.trans (b := Xdp (M7 k v K k) k v) (by kernel_rfl) (by simp only [Xbr, Xdp, z1, z2, z3, z4, z5, z6, z7, z8, Bb, Xbw])
def Xcj (k : Nat) : FD := ⟨267, Xcl, F267_O, Xbr k⟩
theorem Xp4 (k : Nat) : (Xcj k).Ok Tryz.prog := ⟨fun x => Aa (Aj (Ak (.c (Xl5 k) (.c (Xau k) (.c (Mp k) .n)))) _ _ _ _) Ah Tryz.func267 rfl rfl (Xrz k _ some), .of (by kernel_rfl)⟩
abbrev X3v (k : Nat) : Env := Ba (A0 [Wx k]) Ap .own [(false, 1000), (false, 1001)] k
abbrev Xmy : List PA := [.agg (.pair (.sl .ro Ad) mI), .p (.pair (.sl .ro Ad) mI)]
abbrev F269_O : RO := ⟨[.v], [mB, .pair (.sl .ro Ad) mI]⟩
def Xab {β : Type} (RET : (Bool × (den Ay)) → Option β) (k : Nat) (v w : (den Ay)) : Option β := cond (decide (0 < (v.1.length : Int))) (cond (decide (0 < (w.1.length : Int))) ((Xd4 k (An v.1 0) (An w.1 0)).bind fun b1 => RET (b1, w)) none) none
def Xqw := Xab (β := Bool × (den Ay)) some
theorem Xqx {β : Type} (k : Nat) (v w : (den Ay)) (K : KT β) : Ag (X3v k) Tryz.f269 (PsT.put Xmy (v, w, ())) K = (Xqw k v w).bind fun r => K (F269_O.put r) :=
 Eq.trans (b := Xab (fun r => K (F269_O.put r)) k v w) (by kernel_rfl) (by simp only [Xqw, Xab, z1, z2, z3, z4, z5, z6, z7, z8, Bb])
def Xpg (k : Nat) : FD := ⟨269, Xmy, F269_O, Xqw k⟩
theorem X2n (k : Nat) : (Xpg k).Ok Tryz.prog := ⟨fun x => Aa (Aj (Ak (.c (Xau k) .n)) _ _ _ _) Ah Tryz.func269 rfl rfl (Xqx k _ _ some), .of (by kernel_rfl)⟩
def Xz6 : Nat → Hint
 | 0 => ⟨pl 0 2 (pl 7 2 []), pl 1100 2 []⟩
 | _ => ⟨[], []⟩
abbrev Xo (k : Nat) : Env := { Ba (A0 [Xpg k]) Xz6 .own [(false, 1100), (false, 1101)] k with frz := [15] }
abbrev Xc8 : List PA := [.one (.sl .ro Ay), .fc 269 [.pair (.sl .ro Ad) mI]]
abbrev F215_O : RO := ⟨[.v], [mI, .pair (.sl .ro Ad) mI]⟩
noncomputable def X2w {β : Type} (k : Nat) (v : Ae) (wx : (den Ay)) (K : KT β) : Ex → St → Option β := Bi (Xo k) Tryz.f215 (PsT.put Xc8 (v, (wx, ()), ())) K
def Xuf (v : Ae) (wx : (den Ay)) (x8_0 : Int) (m1100_0 : (den Ay)) : St := ⟨(.one (.s .ro Ay v)) :: (.one (.fn 269 [((.cell 1100), 2, 0)])) :: dz 5 ((.one (vI (v.length : Int))) :: (.one (vI x8_0)) :: dz 10 []), Bd 1100 (Cx (.pair (.sl .ro Ad) mI) m1100_0) []⟩
noncomputable def Ni {β : Type} (k : Nat) (v : Ae) (wx : (den Ay)) (K : KT β) (n : Nat) (x8_0 : Int) (m1100_0 : (den Ay)) : Option β := A1 (Xo k) Tryz.f215 [1, 0, 1, 0] 0 (Ai (Xo k) [1, 0, 1, 0] (Al Tryz.f215) 0 (X2w k v wx K)) n (Xuf v wx x8_0 m1100_0)
def Ov {β : Type} (NX : Int → (den Ay) → Option β) (RET : (Int × (den Ay)) → Option β) (k : Nat) (v : Ae) (wx : (den Ay)) (x8_0 : Int) (m1100_0 : (den Ay)) : Option β := cond (decide (x8_0 < (v.length : Int))) (Az x8_0 v ((Xqw k (An v x8_0) m1100_0).bind fun b1 => cond b1.1 (RET (x8_0, b1.2)) (NX (i64.wrap (x8_0 + 1)) b1.2))) (RET ((-1), m1100_0))
def Jj (k : Nat) (v : Ae) (wx : (den Ay)) : Nat → Int → (den Ay) → Option (Int × (den Ay))
 | 0, _, _ => none
 | n + 1, x8_0, m1100_0 => Ov (Jj k v wx n) some k v wx x8_0 m1100_0
theorem Xcf {β : Type} (k : Nat) (v : Ae) (wx : (den Ay)) (K : KT β) (n : Nat) : ∀ (x8_0 : Int) (m1100_0 : (den Ay)), Ni k v wx K n x8_0 m1100_0 =
  (Jj k v wx n x8_0 m1100_0).bind fun r => K (F215_O.put r) := by
 induction n with
 | zero => intros; rfl
 | succ n ih =>
  intro x8_0 m1100_0
  refine Eq.trans (b := Ov (Ni k v wx K n) (fun r => K (F215_O.put r)) k v wx x8_0 m1100_0) (by kernel_rfl) ?_
  rw [Jj]
  simp only [Ov, z1, z2, z3, z4, z5, z6, z7, z8, Bb, ih]
def U6 {β : Type} (LP0 : Int → (den Ay) → Option β) (k : Nat) (v : Ae) (wx : (den Ay)) : Option β := LP0 0 wx
def Xil (k : Nat) (v : Ae) (wx : (den Ay)) : Option (Int × (den Ay)) := U6 (Jj k v wx k) k v wx
theorem Xry {β : Type} (k : Nat) (v : Ae) (wx : (den Ay)) (K : KT β) : Ag (Xo k) Tryz.f215 (PsT.put Xc8 (v, (wx, ()), ())) K = (Xil k v wx).bind fun r => K (F215_O.put r) :=
 Eq.trans (b := U6 (Ni k v wx K k) k v wx) (by kernel_rfl) (by simp only [Xil, U6, z1, z2, z3, z4, z5, z6, z7, z8, Bb, Xcf])
def Xok (k : Nat) : FD := ⟨215, Xc8, F215_O, Xil k⟩
theorem X15 (k : Nat) : (Xok k).Ok Tryz.prog := ⟨fun x => Aa (Vq [15] (Ak (.c (X2n k) .n)) _ _ _ _) Ah Tryz.func215 rfl rfl (Xry k _ _ some), .of (by kernel_rfl)⟩
abbrev Xxx (k : Nat) : Env := Ba (A0 [Xok k]) Ap .own [(false, 1100), (false, 1101)] k
abbrev Xpp : List PA := [.one (.sl .ro Ay), .fc 269 [.pair (.sl .ro Ad) mI]]
abbrev F268_O : RO := ⟨[.v], [mB, .pair (.sl .ro Ad) mI]⟩
def Xh8 (k : Nat) (v : Ae) (wx : (den Ay)) : Option (Bool × (den Ay)) := (Xil k v wx).bind fun b1 => some (decide (b1.1 ≥ 0), b1.2)
theorem Xr8 {β : Type} (k : Nat) (v : Ae) (wx : (den Ay)) (K : KT β) : Ag (Xxx k) Tryz.f268 (PsT.put Xpp (v, (wx, ()), ())) K = (Xh8 k v wx).bind fun r => K (F268_O.put r) :=
 Eq.trans (b := (Xil k v wx).bind fun b1 => K (F268_O.put (decide (b1.1 ≥ 0), b1.2))) (by kernel_rfl) (by simp only [Xh8, z1, z2, z3, z4, z5, z6, z7, z8, Bb])
def Xpz (k : Nat) : FD := ⟨268, Xpp, F268_O, Xh8 k⟩
theorem X1s (k : Nat) : (Xpz k).Ok Tryz.prog := ⟨fun x => Aa (Aj (Ak (.c (X15 k) .n)) _ _ _ _) Ah Tryz.func268 rfl rfl (Xr8 k _ _ some), .of (by kernel_rfl)⟩
def Xzx : Nat → Hint
 | 0 => ⟨pl 0 1 (pl 5 3 []), []⟩
 | _ => ⟨[], []⟩
abbrev Wy (k : Nat) : Env := Ba (A0 [Xcj k, Xpz k]) Xzx .own [] k
abbrev Xaf : List PA := [.one (.sl .ro Ay)]
abbrev F210_O : RO := ⟨[.v], [mB]⟩
noncomputable def Xwg {β : Type} (k : Nat) (v : Ae) (K : KT β) : Ex → St → Option β := Bi (Wy k) Tryz.f210 (PsT.put Xaf (v, ())) K
def Xsy (v : Ae) (x7_0 : Int) : St := ⟨(.one (.s .ro Ay v)) :: dz 4 ((.one (.s .ro Ay v)) :: (.one (vI (v.length : Int))) :: (.one (vI x7_0)) :: dz 18 []), []⟩
noncomputable def Og {β : Type} (k : Nat) (v : Ae) (K : KT β) (n : Nat) (x7_0 : Int) : Option β := A1 (Wy k) Tryz.f210 [1, 0, 1, 0] 0 (Ai (Wy k) [1, 0, 1, 0] (Al Tryz.f210) 0 (Xwg k v K)) n (Xsy v x7_0)
def Gb {β : Type} (NX : Int → Option β) (RET : Bool → Option β) (k : Nat) (v : Ae) (x7_0 : Int) : Option β := cond (decide (x7_0 < (v.length : Int))) (Az x7_0 v ((Xbr k (An v x7_0)).bind fun b1 => cond (!b1) (RET false) (cond (decide (0 ≤ x7_0) && decide (x7_0 ≤ (v.length : Int))) ((Xh8 k (v.take x7_0.toNat) (An v x7_0)).bind fun b2 => cond b2.1 (RET false) (NX (i64.wrap (x7_0 + 1)))) none))) (RET (decide ((v.length : Int) ≤ 3)))
def Gw (k : Nat) (v : Ae) : Nat → Int → Option (Bool)
 | 0, _ => none
 | n + 1, x7_0 => Gb (Gw k v n) some k v x7_0
theorem Xdv {β : Type} (k : Nat) (v : Ae) (K : KT β) (n : Nat) : ∀ (x7_0 : Int), Og k v K n x7_0 =
  (Gw k v n x7_0).bind fun r => K (F210_O.put r) := by
 induction n with
 | zero => intros; rfl
 | succ n ih =>
  intro x7_0
  refine Eq.trans (b := Gb (Og k v K n) (fun r => K (F210_O.put r)) k v x7_0) (by kernel_rfl) ?_
  rw [Gw]
  simp only [Gb, z1, z2, z3, z4, z5, z6, z7, z8, ih]
def Qt {β : Type} (LP0 : Int → Option β) (k : Nat) (v : Ae) : Option β := LP0 0
def X7 (k : Nat) (v : Ae) : Option (Bool) := Qt (Gw k v k) k v
theorem Xrp {β : Type} (k : Nat) (v : Ae) (K : KT β) : Ag (Wy k) Tryz.f210 (PsT.put Xaf (v, ())) K = (X7 k v).bind fun r => K (F210_O.put r) :=
 Eq.trans (b := Qt (Og k v K k) k v) (by kernel_rfl) (by simp only [X7, Qt, z1, z2, z3, z4, z5, z6, z7, z8, Xdv])
def Xoj (k : Nat) : FD := ⟨210, Xaf, F210_O, X7 k⟩
theorem Xzz (k : Nat) : (Xoj k).Ok Tryz.prog := ⟨fun x => Aa (Aj (Ak (.c (Xp4 k) (.c (X1s k) .n))) _ _ _ _) Ah Tryz.func210 rfl rfl (Xrp k _ some), .of (by kernel_rfl)⟩
abbrev X2m (k : Nat) : Env := Ba (A0 [Xdl k]) Ap .own [] k
abbrev Xnb : List PA := [.agg (.pair (.sl .ro Ad) mI)]
abbrev F270_O : RO := ⟨[.a], [.pair (.sl .own Ad) mI]⟩
def Ry (k : Nat) (v : (den Ay)) : Option ((den Ay)) := (Po k v.1).bind fun b1 => some (b1, v.2)
theorem Xrb {β : Type} (k : Nat) (v : (den Ay)) (K : KT β) : Ag (X2m k) Tryz.f270 (PsT.put Xnb (v, ())) K = (Ry k v).bind fun r => K (F270_O.put r) :=
 Eq.trans (b := (Po k v.1).bind fun b1 => K (F270_O.put (b1, v.2))) (by kernel_rfl) (by simp only [Ry, z1, z2, z3, z4, z5, z6, z7, z8, Bb])
def Xcm (k : Nat) : FD := ⟨270, Xnb, F270_O, Ry k⟩
theorem Xpu (k : Nat) : (Xcm k).Ok Tryz.prog := ⟨fun x => Aa (Aj (Ak (.c (Xm9 k) .n)) _ _ _ _) Ah Tryz.func270 rfl rfl (Xrb k _ some), .of (by kernel_rfl)⟩
abbrev X2t (k : Nat) : Env := Ba Bl Ap .own [] k
abbrev Xm8 : List PA := [.one (.sl .own Ay)]
abbrev F271_O : RO := ⟨[.v], [.sl .own Ay]⟩
def Xbn {β : Type} (RET : Ae → Option β) (k : Nat) (v : Ae) : Option β := cond (decide (0 ≤ (v.length : Int)) && decide ((v.length : Int) ≤ (v.length : Int))) (cond (decide ((v.length : Int) = (v.length : Int))) (RET ((v.take ((v.length : Int).toNat)).drop 0)) none) none
def Xsq := Xbn (β := Ae) some
theorem Xr7 {β : Type} (k : Nat) (v : Ae) (K : KT β) : Ag (X2t k) Tryz.f271 (PsT.put Xm8 (v, ())) K = (Xsq k v).bind fun r => K (F271_O.put r) :=
 Eq.trans (b := Xbn (fun r => K (F271_O.put r)) k v) (by kernel_rfl) (by simp only [Xsq, Xbn, z1, z2, z3, z4, z5, z6, z7, z8])
def Xk2 (k : Nat) : FD := ⟨271, Xm8, F271_O, Xsq k⟩
theorem Xyw (k : Nat) : (Xk2 k).Ok Tryz.prog := ⟨fun x => Aa (Aj .none _ _ _ _) Ah Tryz.func271 rfl rfl (Xr7 k _ some), .of (by kernel_rfl)⟩
end
end Go.Proofs.YtdmepjjepogddaaGreat.Gn
end

section
set_option linter.unusedVariables false
set_option linter.unusedSimpArgs false
namespace Go.Proofs.YtdmepjjepogddaaGreat.Gn
open Go.Rf IntKind
noncomputable section
def Xyx : Nat → Hint
 | 0 => ⟨(3, .own .own Ay []) :: (pl 6 3 []), []⟩
 | _ => ⟨[], []⟩
abbrev Vs (k : Nat) : Env := Ba (A0 [Xcm k, Xk2 k]) Xyx .own [] k
abbrev Xaa : List PA := [.one (.sl .ro Ay)]
abbrev F212_O : RO := ⟨[.v], [.sl .own Ay]⟩
noncomputable def X3d {β : Type} (k : Nat) (v : Ae) (K : KT β) : Ex → St → Option β := Bi (Vs k) Tryz.f212 (PsT.put Xaa (v, ())) K
def Xre (v : Ae) (x8_0 : Int) (m3900_0 : Ae) : St := ⟨dz 3 ((.one (.a (.cell 3900) 0 0 none)) :: (.one .d) :: (.one .d) :: (.one (.s .ro Ay v)) :: (.one (vI (v.length : Int))) :: (.one (vI x8_0)) :: dz 11 []), [eM 3900 (.s .own Ay m3900_0)]⟩
noncomputable def Nk {β : Type} (k : Nat) (v : Ae) (K : KT β) (n : Nat) (x8_0 : Int) (m3900_0 : Ae) : Option β := A1 (Vs k) Tryz.f212 [1, 1, 0, 1, 0] 0 (Ai (Vs k) [1, 1, 0, 1, 0] (Al Tryz.f212) 0 (X3d k v K)) n (Xre v x8_0 m3900_0)
def Ek {β : Type} (NX : Int → Ae → Option β) (RET : Ae → Option β) (k : Nat) (v : Ae) (x8_0 : Int) (m3900_0 : Ae) : Option β := cond (decide (x8_0 < (v.length : Int))) (Az x8_0 v ((Ry k (An v x8_0)).bind fun b1 => B3 (m3900_0.length) ([b1].length) 32 (NX (i64.wrap (x8_0 + 1)) (m3900_0 ++ [b1])))) ((Xsq k m3900_0).bind fun b2 => RET b2)
def Hk (k : Nat) (v : Ae) : Nat → Int → Ae → Option (Ae)
 | 0, _, _ => none
 | n + 1, x8_0, m3900_0 => Ek (Hk k v n) some k v x8_0 m3900_0
theorem Xbb {β : Type} (k : Nat) (v : Ae) (K : KT β) (n : Nat) : ∀ (x8_0 : Int) (m3900_0 : Ae), Nk k v K n x8_0 m3900_0 =
  (Hk k v n x8_0 m3900_0).bind fun r => K (F212_O.put r) := by
 induction n with
 | zero => intros; rfl
 | succ n ih =>
  intro x8_0 m3900_0
  refine Eq.trans (b := Ek (Nk k v K n) (fun r => K (F212_O.put r)) k v x8_0 m3900_0) (by kernel_rfl) ?_
  rw [Hk]
  simp only [Ek, z1, z2, z3, z4, z5, z6, z7, z8, ih]
def Sk {β : Type} (LP0 : Int → Ae → Option β) (k : Nat) (v : Ae) : Option β := LP0 0 []
def Mu (k : Nat) (v : Ae) : Option (Ae) := Sk (Hk k v k) k v
theorem Xr0 {β : Type} (k : Nat) (v : Ae) (K : KT β) : Ag (Vs k) Tryz.f212 (PsT.put Xaa (v, ())) K = (Mu k v).bind fun r => K (F212_O.put r) :=
 Eq.trans (b := Sk (Nk k v K k) k v) (by kernel_rfl) (by simp only [Mu, Sk, z1, z2, z3, z4, z5, z6, z7, z8, Xbb])
def Xj0 (k : Nat) : FD := ⟨212, Xaa, F212_O, Mu k⟩
theorem Xyk (k : Nat) : (Xj0 k).Ok Tryz.prog := ⟨fun x => Aa (Aj (Ak (.c (Xpu k) (.c (Xyw k) .n))) _ _ _ _) Ah Tryz.func212 rfl rfl (Xr0 k _ some), .of (by kernel_rfl)⟩
abbrev X3l (k : Nat) : Env := Ba Bl Ap .own [(false, 1000)] k
abbrev Xm2 : List PA := [.agg (.pair (.sl .ro Ad) mI), .p mI]
abbrev F213_O : RO := ⟨[.v], [mB, mI]⟩
def Xpk (k : Nat) (v : (den Ay)) (w : Int) : Option (Bool × Int) := some (decide (v.2 ≤ w), w)
theorem Xqy {β : Type} (k : Nat) (v : (den Ay)) (w : Int) (K : KT β) : Ag (X3l k) Tryz.f213 (PsT.put Xm2 (v, w, ())) K = (Xpk k v w).bind fun r => K (F213_O.put r) :=
 Eq.trans (b := K (F213_O.put (decide (v.2 ≤ w), w))) (by kernel_rfl) (by simp only [Xpk, z1, z2, z3, z4, z5, z6, z7, z8, Bb])
def Xki (k : Nat) : FD := ⟨213, Xm2, F213_O, Xpk k⟩
theorem X08 (k : Nat) : (Xki k).Ok Tryz.prog := ⟨fun x => Aa (Aj .none _ _ _ _) Ah Tryz.func213 rfl rfl (Xqy k _ _ some), .of (by kernel_rfl)⟩
def Xjh : Nat → Hint
 | 0 => ⟨pl 0 2 (pl 7 2 []), (0, .own .sown Ay []) :: (pl 1100 1 [])⟩
 | _ => ⟨[], []⟩
abbrev Me (k : Nat) : Env := { Ba (A0 [Xki k]) Xjh .own [(true, 0), (false, 1100)] k with frz := [15] }
abbrev Qf : List PA := [.one (.lent .own Ay), .fc 213 [mI]]
abbrev F215_2_O : RO := ⟨[.v], [mI, .sl .sown Ay, mI]⟩
noncomputable def Xlj {β : Type} (k : Nat) (v : Ae) (wx : Int) (K : KT β) : Ex → St → Option β := Bi (Me k) Tryz.f215 (PsT.put Qf (v, (wx, ()), ())) K
def Xhs (v : Ae) (wx : Int) (x8_0 m1100_0 : Int) : St := ⟨(.one (.a (.cell 0) 0 0 none)) :: (.one (.fn 213 [((.cell 1100), 1, 0)])) :: dz 5 ((.one (vI (v.length : Int))) :: (.one (vI x8_0)) :: dz 10 []), [eM 0 (.s .sown Ay v), iM 1100 m1100_0]⟩
noncomputable def Ip {β : Type} (k : Nat) (v : Ae) (wx : Int) (K : KT β) (n : Nat) (x8_0 m1100_0 : Int) : Option β := A1 (Me k) Tryz.f215 [1, 0, 1, 0] 0 (Ai (Me k) [1, 0, 1, 0] (Al Tryz.f215) 0 (Xlj k v wx K)) n (Xhs v wx x8_0 m1100_0)
def Ct {β : Type} (NX : Int → Int → Option β) (RET : (Int × Ae × Int) → Option β) (k : Nat) (v : Ae) (wx : Int) (x8_0 m1100_0 : Int) : Option β := cond (decide (x8_0 < (v.length : Int))) (Az x8_0 v ((Xpk k (An v x8_0) m1100_0).bind fun b1 => cond b1.1 (RET (x8_0, v, b1.2)) (NX (i64.wrap (x8_0 + 1)) b1.2))) (RET ((-1), v, m1100_0))
def Dg (k : Nat) (v : Ae) (wx : Int) : Nat → Int → Int → Option (Int × Ae × Int)
 | 0, _, _ => none
 | n + 1, x8_0, m1100_0 => Ct (Dg k v wx n) some k v wx x8_0 m1100_0
theorem Vp {β : Type} (k : Nat) (v : Ae) (wx : Int) (K : KT β) (n : Nat) : ∀ (x8_0 m1100_0 : Int), Ip k v wx K n x8_0 m1100_0 =
  (Dg k v wx n x8_0 m1100_0).bind fun r => K (F215_2_O.put r) := by
 induction n with
 | zero => intros; rfl
 | succ n ih =>
  intro x8_0 m1100_0
  refine Eq.trans (b := Ct (Ip k v wx K n) (fun r => K (F215_2_O.put r)) k v wx x8_0 m1100_0) (by kernel_rfl) ?_
  rw [Dg]
  simp only [Ct, z1, z2, z3, z4, z5, z6, z7, z8, ih]
def Hu {β : Type} (LP0 : Int → Int → Option β) (k : Nat) (v : Ae) (wx : Int) : Option β := LP0 0 wx
def H4 (k : Nat) (v : Ae) (wx : Int) : Option (Int × Ae × Int) := Hu (Dg k v wx k) k v wx
theorem Xgn {β : Type} (k : Nat) (v : Ae) (wx : Int) (K : KT β) : Ag (Me k) Tryz.f215 (PsT.put Qf (v, (wx, ()), ())) K = (H4 k v wx).bind fun r => K (F215_2_O.put r) :=
 Eq.trans (b := Hu (Ip k v wx K k) k v wx) (by kernel_rfl) (by simp only [H4, Hu, z1, z2, z3, z4, z5, z6, z7, z8, Vp])
def Yd (k : Nat) : FD := ⟨215, Qf, F215_2_O, H4 k⟩
theorem Xmt (k : Nat) : (Yd k).Ok Tryz.prog := ⟨fun x => Aa (Vq [15] (Ak (.c (X08 k) .n)) _ _ _ _) Ah Tryz.func215 rfl rfl (Xgn k _ _ some), .of (by kernel_rfl)⟩
def X3j : Nat → Hint
 | 0 => ⟨[], pl 1100 1 []⟩
 | _ => ⟨[], []⟩
abbrev Xw (k : Nat) : Env := Ba (A0 [Yd k]) X3j .own [(false, 1100)] k
abbrev Xca : List PA := [.one (.sl .own Ay), .fc 213 [mI]]
abbrev F211_O : RO := ⟨[.v], [.sl .sown Ay, mI]⟩
noncomputable def X1y {β : Type} (k : Nat) (v : Ae) (wx : Int) (K : KT β) : Ex → St → Option β := Bi (Xw k) Tryz.f211 (PsT.put Xca (v, (wx, ()), ())) K
def Xsk (v : Ae) (wx : Int) (m1100_0 : Int) : St := ⟨dz 42 [], [iM 1100 m1100_0]⟩
noncomputable def Tn {β : Type} (k : Nat) (v : Ae) (wx : Int) (K : KT β) (n : Nat) (m1100_0 : Int) : Option β := A1 (Xw k) Tryz.f211 [1, 1, 1, 0, 1, 0] 0 (Ai (Xw k) [1, 1, 1, 0, 1, 0] (Al Tryz.f211) 0 (X1y k v wx K)) n (Xsk v wx m1100_0)
def Nc {β : Type} (k : Nat) (v : Ae) (wx : Int) (m1100_0 : Int) : Option β := none
def X4 (k : Nat) (v : Ae) (wx : Int) : Nat → Int → Option (Ae × Int)
 | 0, _ => none
 | n + 1, m1100_0 => Nc k v wx m1100_0
theorem Xa0 {β : Type} (k : Nat) (v : Ae) (wx : Int) (K : KT β) (n : Nat) : ∀ (m1100_0 : Int), Tn k v wx K n m1100_0 =
  (X4 k v wx n m1100_0).bind fun r => K (F211_O.put r) := by
 induction n with
 | zero => intros; rfl
 | succ n ih =>
  intro m1100_0
  refine Eq.trans (b := Nc k v wx m1100_0) (by kernel_rfl) ?_
  rw [X4]
  simp only [Nc, z1, z2, z3, z4, z5, z6, z7, z8, ih]
def R9 {β : Type} (LP0 : Int → Option β) (RET : (Ae × Int) → Option β) (k : Nat) (v : Ae) (wx : Int) : Option β := (H4 k v wx).bind fun b1 => cond (b1.1 == (-1)) (RET b1.2) (LP0 b1.2.2)
def Yk (k : Nat) (v : Ae) (wx : Int) : Option (Ae × Int) := R9 (X4 k v wx k) some k v wx
theorem Xsb {β : Type} (k : Nat) (v : Ae) (wx : Int) (K : KT β) : Ag (Xw k) Tryz.f211 (PsT.put Xca (v, (wx, ()), ())) K = (Yk k v wx).bind fun r => K (F211_O.put r) :=
 Eq.trans (b := R9 (Tn k v wx K k) (fun r => K (F211_O.put r)) k v wx) (by kernel_rfl) (by simp only [Yk, R9, z1, z2, z3, z4, z5, z6, z7, z8, Xa0])
def Xps (k : Nat) : FD := ⟨211, Xca, F211_O, Yk k⟩
theorem Xz3 (k : Nat) : (Xps k).Ok Tryz.prog := ⟨fun x => Aa (Aj (Ak (.c (Xmt k) .n)) _ _ _ _) Ah Tryz.func211 rfl rfl (Xsb k _ _ some), .of (by kernel_rfl)⟩
abbrev Xxa (k : Nat) : Env := Ba (A0 [Wx k]) Ap .own [(false, 1000), (false, 1001), (false, 1002), (false, 1003), (false, 1004), (false, 1005), (false, 1006), (false, 1007), (false, 1008)] k
abbrev Xns : List PA := [.agg (.pair (.sl .ro Ad) mI), .p (.pair mI C3)]
abbrev F216_O : RO := ⟨[.v], [mB, .pair mI C3]⟩
def Vj {β : Type} (RET : (Bool × (den Ad)) → Option β) (k : Nat) (v : (den Ay)) (w : (den Ad)) : Option β := cond (decide (0 < (v.1.length : Int))) ((Xd4 k (An v.1 0) w).bind fun b1 => RET (b1, w)) none
def Xhi := Vj (β := Bool × (den Ad)) some
theorem Xq9 {β : Type} (k : Nat) (v : (den Ay)) (w : (den Ad)) (K : KT β) : Ag (Xxa k) Tryz.f216 (PsT.put Xns (v, w, ())) K = (Xhi k v w).bind fun r => K (F216_O.put r) :=
 Eq.trans (b := Vj (fun r => K (F216_O.put r)) k v w) (by kernel_rfl) (by simp only [Xhi, Vj, z1, z2, z3, z4, z5, z6, z7, z8, Ax, Bb])
def Xjw (k : Nat) : FD := ⟨216, Xns, F216_O, Xhi k⟩
theorem X3o (k : Nat) : (Xjw k).Ok Tryz.prog := ⟨fun x => Aa (Aj (Ak (.c (Xau k) .n)) _ _ _ _) Ah Tryz.func216 rfl rfl (Xq9 k _ _ some), .of (by kernel_rfl)⟩
def Xnt : Nat → Hint
 | 0 => ⟨pl 0 2 (pl 7 2 []), pl 0 1 (pl 1100 9 [])⟩
 | _ => ⟨[], []⟩
abbrev Lk (k : Nat) : Env := { Ba (A0 [Xjw k]) Xnt .own [(true, 0), (false, 1100), (false, 1101), (false, 1102), (false, 1103), (false, 1104), (false, 1105), (false, 1106), (false, 1107), (false, 1108)] k with frz := [15] }
abbrev Rn : List PA := [.one (.lent .sown Ay), .fc 216 [.pair mI C3]]
abbrev F215_3_O : RO := ⟨[.v], [mI, .sl .sown Ay, .pair mI C3]⟩
noncomputable def Xkt {β : Type} (k : Nat) (v : Ae) (wx : (den Ad)) (K : KT β) : Ex → St → Option β := Bi (Lk k) Tryz.f215 (PsT.put Rn (v, (wx, ()), ())) K
def Xhm (v : Ae) (wx : (den Ad)) (x8_0 : Int) (m1100_0 : (den Ad)) : St := ⟨(.one (.a (.cell 0) 0 0 none)) :: (.one (.fn 216 [((.cell 1100), 9, 0)])) :: dz 5 ((.one (vI (v.length : Int))) :: (.one (vI x8_0)) :: dz 10 []), (eM 0 (.s .sown Ay v)) :: (Bd 1100 (Cx (.pair mI C3) m1100_0) [])⟩
noncomputable def Ij {β : Type} (k : Nat) (v : Ae) (wx : (den Ad)) (K : KT β) (n : Nat) (x8_0 : Int) (m1100_0 : (den Ad)) : Option β := A1 (Lk k) Tryz.f215 [1, 0, 1, 0] 0 (Ai (Lk k) [1, 0, 1, 0] (Al Tryz.f215) 0 (Xkt k v wx K)) n (Xhm v wx x8_0 m1100_0)
def Dm {β : Type} (NX : Int → (den Ad) → Option β) (RET : (Int × Ae × (den Ad)) → Option β) (k : Nat) (v : Ae) (wx : (den Ad)) (x8_0 : Int) (m1100_0 : (den Ad)) : Option β := cond (decide (x8_0 < (v.length : Int))) (Az x8_0 v ((Xhi k (An v x8_0) m1100_0).bind fun b1 => cond b1.1 (RET (x8_0, v, b1.2)) (NX (i64.wrap (x8_0 + 1)) b1.2))) (RET ((-1), v, m1100_0))
def El (k : Nat) (v : Ae) (wx : (den Ad)) : Nat → Int → (den Ad) → Option (Int × Ae × (den Ad))
 | 0, _, _ => none
 | n + 1, x8_0, m1100_0 => Dm (El k v wx n) some k v wx x8_0 m1100_0
theorem U7 {β : Type} (k : Nat) (v : Ae) (wx : (den Ad)) (K : KT β) (n : Nat) : ∀ (x8_0 : Int) (m1100_0 : (den Ad)), Ij k v wx K n x8_0 m1100_0 =
  (El k v wx n x8_0 m1100_0).bind fun r => K (F215_3_O.put r) := by
 induction n with
 | zero => intros; rfl
 | succ n ih =>
  intro x8_0 m1100_0
  refine Eq.trans (b := Dm (Ij k v wx K n) (fun r => K (F215_3_O.put r)) k v wx x8_0 m1100_0) (by kernel_rfl) ?_
  rw [El]
  simp only [Dm, z1, z2, z3, z4, z5, z6, z7, z8, Ax, ih]
def H5 {β : Type} (LP0 : Int → (den Ad) → Option β) (k : Nat) (v : Ae) (wx : (den Ad)) : Option β := LP0 0 wx
def I2 (k : Nat) (v : Ae) (wx : (den Ad)) : Option (Int × Ae × (den Ad)) := H5 (El k v wx k) k v wx
theorem Xit {β : Type} (k : Nat) (v : Ae) (wx : (den Ad)) (K : KT β) : Ag (Lk k) Tryz.f215 (PsT.put Rn (v, (wx, ()), ())) K = (I2 k v wx).bind fun r => K (F215_3_O.put r) :=
 Eq.trans (b := H5 (Ij k v wx K k) k v wx) (by kernel_rfl) (by simp only [I2, H5, z1, z2, z3, z4, z5, z6, z7, z8, Ax, U7])
def Z6 (k : Nat) : FD := ⟨215, Rn, F215_3_O, I2 k⟩
theorem Xor (k : Nat) : (Z6 k).Ok Tryz.prog := ⟨fun x => Aa (Vq [15] (Ak (.c (X3o k) .n)) _ _ _ _) Ah Tryz.func215 rfl rfl (Xit k _ _ some), .of (by kernel_rfl)⟩
abbrev Xxe (k : Nat) : Env := Ba (A0 [Xdi k]) Ap .own [(false, 1000), (false, 1001), (false, 1002), (false, 1003), (false, 1004), (false, 1005), (false, 1006), (false, 1007), (false, 1008)] k
abbrev Xk7 : List PA := [.agg (.pair mI C3), .p (.pair mI C3)]
abbrev F273_O : RO := ⟨[.v], [mB, .pair mI C3]⟩
def Uh {β : Type} (RET : (Bool × (den Ad)) → Option β) (k : Nat) (v w : (den Ad)) : Option β := cond (v.2.2.2.2.2.1 == w.2.2.2.2.2.1) (cond (v.2.2.2.2.2.2.1 == w.2.2.2.2.2.2.1) ((Xdx k v.2.2.2.2.2.2.2.2 w.2.2.2.2.2.2.2.2).bind fun b1 => RET (b1, w)) (RET (false, w))) (RET (false, w))
def Xif := Uh (β := Bool × (den Ad)) some
theorem Xs5 {β : Type} (k : Nat) (v w : (den Ad)) (K : KT β) : Ag (Xxe k) Tryz.f273 (PsT.put Xk7 (v, w, ())) K = (Xif k v w).bind fun r => K (F273_O.put r) :=
 Eq.trans (b := Uh (fun r => K (F273_O.put r)) k v w) (by kernel_rfl) (by simp only [Xif, Uh, z1, z2, z3, z4, z5, z6, z7, z8, Ax])
def Xn4 (k : Nat) : FD := ⟨273, Xk7, F273_O, Xif k⟩
theorem Xz4 (k : Nat) : (Xn4 k).Ok Tryz.prog := ⟨fun x => Aa (Aj (Ak (.c (Xk0 k) .n)) _ _ _ _) Ah Tryz.func273 rfl rfl (Xs5 k _ _ some), .of (by kernel_rfl)⟩
def X1q : Nat → Hint
 | 0 => ⟨pl 0 2 (pl 7 2 []), pl 1100 9 []⟩
 | _ => ⟨[], []⟩
abbrev V1 (k : Nat) : Env := Ba (A0 [Xn4 k]) X1q .own [(false, 1100), (false, 1101), (false, 1102), (false, 1103), (false, 1104), (false, 1105), (false, 1106), (false, 1107), (false, 1108)] k
abbrev Xc4 : List PA := [.one (.sl .ro Ad), .fc 273 [.pair mI C3]]
abbrev F274_O : RO := ⟨[.v], [mI, .pair mI C3]⟩
noncomputable def Xyd {β : Type} (k : Nat) (v : Am) (wx : (den Ad)) (K : KT β) : Ex → St → Option β := Bi (V1 k) Tryz.f274 (PsT.put Xc4 (v, (wx, ()), ())) K
def Xs1 (v : Am) (wx : (den Ad)) (x8_0 : Int) (m1100_0 : (den Ad)) : St := ⟨(.one (.s .ro Ad v)) :: (.one (.fn 273 [((.cell 1100), 9, 0)])) :: dz 5 ((.one (vI (v.length : Int))) :: (.one (vI x8_0)) :: dz 10 []), Bd 1100 (Cx (.pair mI C3) m1100_0) []⟩
noncomputable def Ox {β : Type} (k : Nat) (v : Am) (wx : (den Ad)) (K : KT β) (n : Nat) (x8_0 : Int) (m1100_0 : (den Ad)) : Option β := A1 (V1 k) Tryz.f274 [1, 0, 1, 0] 0 (Ai (V1 k) [1, 0, 1, 0] (Al Tryz.f274) 0 (Xyd k v wx K)) n (Xs1 v wx x8_0 m1100_0)
def J3 {β : Type} (NX : Int → (den Ad) → Option β) (RET : (Int × (den Ad)) → Option β) (k : Nat) (v : Am) (wx : (den Ad)) (x8_0 : Int) (m1100_0 : (den Ad)) : Option β := cond (decide (x8_0 < (v.length : Int))) (Az x8_0 v ((Xif k (An v x8_0) m1100_0).bind fun b1 => cond b1.1 (RET (x8_0, b1.2)) (NX (i64.wrap (x8_0 + 1)) b1.2))) (RET ((-1), m1100_0))
def Jl (k : Nat) (v : Am) (wx : (den Ad)) : Nat → Int → (den Ad) → Option (Int × (den Ad))
 | 0, _, _ => none
 | n + 1, x8_0, m1100_0 => J3 (Jl k v wx n) some k v wx x8_0 m1100_0
theorem Xcq {β : Type} (k : Nat) (v : Am) (wx : (den Ad)) (K : KT β) (n : Nat) : ∀ (x8_0 : Int) (m1100_0 : (den Ad)), Ox k v wx K n x8_0 m1100_0 =
  (Jl k v wx n x8_0 m1100_0).bind fun r => K (F274_O.put r) := by
 induction n with
 | zero => intros; rfl
 | succ n ih =>
  intro x8_0 m1100_0
  refine Eq.trans (b := J3 (Ox k v wx K n) (fun r => K (F274_O.put r)) k v wx x8_0 m1100_0) (by kernel_rfl) ?_
  rw [Jl]
  simp only [J3, z1, z2, z3, z4, z5, z6, z7, z8, Ax, ih]
def Xbz {β : Type} (LP0 : Int → (den Ad) → Option β) (k : Nat) (v : Am) (wx : (den Ad)) : Option β := LP0 0 wx
def Xn9 (k : Nat) (v : Am) (wx : (den Ad)) : Option (Int × (den Ad)) := Xbz (Jl k v wx k) k v wx
theorem Xru {β : Type} (k : Nat) (v : Am) (wx : (den Ad)) (K : KT β) : Ag (V1 k) Tryz.f274 (PsT.put Xc4 (v, (wx, ()), ())) K = (Xn9 k v wx).bind fun r => K (F274_O.put r) :=
 Eq.trans (b := Xbz (Ox k v wx K k) k v wx) (by kernel_rfl) (by simp only [Xn9, Xbz, z1, z2, z3, z4, z5, z6, z7, z8, Ax, Xcq])
def Xou (k : Nat) : FD := ⟨274, Xc4, F274_O, Xn9 k⟩
theorem Xwv (k : Nat) : (Xou k).Ok Tryz.prog := ⟨fun x => Aa (Aj (Ak (.c (Xz4 k) .n)) _ _ _ _) Ah Tryz.func274 rfl rfl (Xru k _ _ some), .of (by kernel_rfl)⟩
abbrev X0n (k : Nat) : Env := Ba (A0 [Xou k]) Ap .own [(false, 1100), (false, 1101), (false, 1102), (false, 1103), (false, 1104), (false, 1105), (false, 1106), (false, 1107), (false, 1108)] k
abbrev Xml : List PA := [.one (.sl .ro Ad), .fc 273 [.pair mI C3]]
abbrev F272_O : RO := ⟨[.v], [mB, .pair mI C3]⟩
def Xhr (k : Nat) (v : Am) (wx : (den Ad)) : Option (Bool × (den Ad)) := (Xn9 k v wx).bind fun b1 => some (decide (b1.1 ≥ 0), b1.2)
theorem Xqe {β : Type} (k : Nat) (v : Am) (wx : (den Ad)) (K : KT β) : Ag (X0n k) Tryz.f272 (PsT.put Xml (v, (wx, ()), ())) K = (Xhr k v wx).bind fun r => K (F272_O.put r) :=
 Eq.trans (b := (Xn9 k v wx).bind fun b1 => K (F272_O.put (decide (b1.1 ≥ 0), b1.2))) (by kernel_rfl) (by simp only [Xhr, z1, z2, z3, z4, z5, z6, z7, z8, Ax])
def Xjm (k : Nat) : FD := ⟨272, Xml, F272_O, Xhr k⟩
theorem Xxb (k : Nat) : (Xjm k).Ok Tryz.prog := ⟨fun x => Aa (Aj (Ak (.c (Xwv k) .n)) _ _ _ _) Ah Tryz.func272 rfl rfl (Xqe k _ _ some), .of (by kernel_rfl)⟩
abbrev X16 (k : Nat) : Env := Ba Bl Ap .own [(false, 1000), (false, 1001), (false, 1002), (false, 1003), (false, 1004), (false, 1005), (false, 1006), (false, 1007), (false, 1008)] k
abbrev Xjy : List PA := [.agg (.pair mI C3), .p (.pair mI C3)]
abbrev F275_O : RO := ⟨[.v], [mB, .pair mI C3]⟩
def Xir (k : Nat) (v w : (den Ad)) : Option (Bool × (den Ad)) := some (decide (v.2.2.2.2.2.1 > w.2.2.2.2.2.1), w)
theorem Xut {β : Type} (k : Nat) (v w : (den Ad)) (K : KT β) : Ag (X16 k) Tryz.f275 (PsT.put Xjy (v, w, ())) K = (Xir k v w).bind fun r => K (F275_O.put r) :=
 Eq.trans (b := K (F275_O.put (decide (v.2.2.2.2.2.1 > w.2.2.2.2.2.1), w))) (by kernel_rfl) (by simp only [Xir, z1, z2, z3, z4, z5, z6, z7, z8, Ax])
def Xnk (k : Nat) : FD := ⟨275, Xjy, F275_O, Xir k⟩
theorem Xzc (k : Nat) : (Xnk k).Ok Tryz.prog := ⟨fun x => Aa (Aj .none _ _ _ _) Ah Tryz.func275 rfl rfl (Xut k _ _ some), .of (by kernel_rfl)⟩
def Xm6 : Nat → Hint
 | 0 => ⟨pl 0 2 (pl 7 2 []), pl 1100 9 []⟩
 | _ => ⟨[], []⟩
abbrev Lh (k : Nat) : Env := Ba (A0 [Xnk k]) Xm6 .own [(false, 1100), (false, 1101), (false, 1102), (false, 1103), (false, 1104), (false, 1105), (false, 1106), (false, 1107), (false, 1108)] k
abbrev Sl : List PA := [.one (.sl .ro Ad), .fc 275 [.pair mI C3]]
abbrev F274_2_O : RO := ⟨[.v], [mI, .pair mI C3]⟩
noncomputable def Xnd {β : Type} (k : Nat) (v : Am) (wx : (den Ad)) (K : KT β) : Ex → St → Option β := Bi (Lh k) Tryz.f274 (PsT.put Sl (v, (wx, ()), ())) K
def Xhc (v : Am) (wx : (den Ad)) (x8_0 : Int) (m1100_0 : (den Ad)) : St := ⟨(.one (.s .ro Ad v)) :: (.one (.fn 275 [((.cell 1100), 9, 0)])) :: dz 5 ((.one (vI (v.length : Int))) :: (.one (vI x8_0)) :: dz 10 []), Bd 1100 (Cx (.pair mI C3) m1100_0) []⟩
noncomputable def Hw {β : Type} (k : Nat) (v : Am) (wx : (den Ad)) (K : KT β) (n : Nat) (x8_0 : Int) (m1100_0 : (den Ad)) : Option β := A1 (Lh k) Tryz.f274 [1, 0, 1, 0] 0 (Ai (Lh k) [1, 0, 1, 0] (Al Tryz.f274) 0 (Xnd k v wx K)) n (Xhc v wx x8_0 m1100_0)
def Fh {β : Type} (NX : Int → (den Ad) → Option β) (RET : (Int × (den Ad)) → Option β) (k : Nat) (v : Am) (wx : (den Ad)) (x8_0 : Int) (m1100_0 : (den Ad)) : Option β := cond (decide (x8_0 < (v.length : Int))) (Az x8_0 v ((Xir k (An v x8_0) m1100_0).bind fun b1 => cond b1.1 (RET (x8_0, b1.2)) (NX (i64.wrap (x8_0 + 1)) b1.2))) (RET ((-1), m1100_0))
def Ec (k : Nat) (v : Am) (wx : (den Ad)) : Nat → Int → (den Ad) → Option (Int × (den Ad))
 | 0, _, _ => none
 | n + 1, x8_0, m1100_0 => Fh (Ec k v wx n) some k v wx x8_0 m1100_0
theorem Up {β : Type} (k : Nat) (v : Am) (wx : (den Ad)) (K : KT β) (n : Nat) : ∀ (x8_0 : Int) (m1100_0 : (den Ad)), Hw k v wx K n x8_0 m1100_0 =
  (Ec k v wx n x8_0 m1100_0).bind fun r => K (F274_2_O.put r) := by
 induction n with
 | zero => intros; rfl
 | succ n ih =>
  intro x8_0 m1100_0
  refine Eq.trans (b := Fh (Hw k v wx K n) (fun r => K (F274_2_O.put r)) k v wx x8_0 m1100_0) (by kernel_rfl) ?_
  rw [Ec]
  simp only [Fh, z1, z2, z3, z4, z5, z6, z7, z8, Ax, ih]
def Qa {β : Type} (LP0 : Int → (den Ad) → Option β) (k : Nat) (v : Am) (wx : (den Ad)) : Option β := LP0 0 wx
def Vv (k : Nat) (v : Am) (wx : (den Ad)) : Option (Int × (den Ad)) := Qa (Ec k v wx k) k v wx
theorem Xg3 {β : Type} (k : Nat) (v : Am) (wx : (den Ad)) (K : KT β) : Ag (Lh k) Tryz.f274 (PsT.put Sl (v, (wx, ()), ())) K = (Vv k v wx).bind fun r => K (F274_2_O.put r) :=
 Eq.trans (b := Qa (Hw k v wx K k) k v wx) (by kernel_rfl) (by simp only [Vv, Qa, z1, z2, z3, z4, z5, z6, z7, z8, Ax, Up])
def Zi (k : Nat) : FD := ⟨274, Sl, F274_2_O, Vv k⟩
theorem Xlp (k : Nat) : (Zi k).Ok Tryz.prog := ⟨fun x => Aa (Aj (Ak (.c (Xzc k) .n)) _ _ _ _) Ah Tryz.func274 rfl rfl (Xg3 k _ _ some), .of (by kernel_rfl)⟩
abbrev Xwz (k : Nat) : Env := Ba Bl Ap .own [] k
abbrev Xnc : List PA := [.one (.sl .ro Ad)]
abbrev F277_O : RO := ⟨[.v], [.sl .sown Ad]⟩
def Um {β : Type} (RET : Am → Option β) (k : Nat) (v : Am) : Option β := cond (decide (v.length = 0)) none (B3 (([] : Am).length) (v.length) 80 (RET ([] ++ v)))
def Xcb := Um (β := Am) some
theorem Xtb {β : Type} (k : Nat) (v : Am) (K : KT β) : Ag (Xwz k) Tryz.f277 (PsT.put Xnc (v, ())) K = (Xcb k v).bind fun r => K (F277_O.put r) :=
 Eq.trans (b := Um (fun r => K (F277_O.put r)) k v) (by kernel_rfl) (by simp only [Xcb, Um, z1, z2, z3, z4, z5, z6, z7, z8])
def Xo7 (k : Nat) : FD := ⟨277, Xnc, F277_O, Xcb k⟩
theorem Xy7 (k : Nat) : (Xo7 k).Ok Tryz.prog := ⟨fun x => Aa (Aj .none _ _ _ _) Ah Tryz.func277 rfl rfl (Xtb k _ some), .of (by kernel_rfl)⟩
abbrev Xwl (k : Nat) : Env := Ba Bl Ap .own [] k
abbrev Xkx : List PA := [.one (.sl .sown Ad), .one mI, .one (.sl .ro Ad)]
abbrev F276_O : RO := ⟨[.v], [.sl .sown Ad]⟩
def X0 {β : Type} (RET : Am → Option β) (k : Nat) (v : Am) (w : Int) (p : Am) : Option β := cond (decide (0 ≤ w) && decide (w ≤ (v.length : Int))) (cond ((p.length : Int) == 0) (RET v) (cond (w == (v.length : Int)) (B3 (v.length) (p.length) 80 (RET (v ++ p))) none)) none
def Xct := X0 (β := Am) some
theorem Xus {β : Type} (k : Nat) (v : Am) (w : Int) (p : Am) (K : KT β) : Ag (Xwl k) Tryz.f276 (PsT.put Xkx (v, w, p, ())) K = (Xct k v w p).bind fun r => K (F276_O.put r) :=
 Eq.trans (b := X0 (fun r => K (F276_O.put r)) k v w p) (by kernel_rfl) (by simp only [Xct, X0, z1, z2, z3, z4, z5, z6, z7, z8])
def Xjr (k : Nat) : FD := ⟨276, Xkx, F276_O, Xct k⟩
theorem Xzj (k : Nat) : (Xjr k).Ok Tryz.prog := ⟨fun x => Aa (Aj .none _ _ _ _) Ah Tryz.func276 rfl rfl (Xus k _ _ _ some), .of (by kernel_rfl)⟩
abbrev X3p (k : Nat) : Env := Ba (A0 [Xjm k, Xcm k, Zi k, Xo7 k, Xjr k, Xcj k]) Ap .own [] k
abbrev Xo9 : List PA := [.agg (.pair (.sl .ro Ad) mI), .agg (.pair mI C3)]
abbrev F218_O : RO := ⟨[.a, .v], [.pair (.sl .own Ad) mI, mB]⟩
def V5 {β : Type} (RET : (den Ay) × Bool → Option β) (k : Nat) (v : (den Ay)) (w : (den Ad)) : Option β := Bb v fun v0 v1 => (Xhr k v0 w).bind fun b1 => cond b1.1 ((Ry k v).bind fun b2 => RET (b2, true)) ((Vv k v0 b1.2).bind fun b3 => cond (decide (b3.1 < 0)) ((Xcb k v0).bind fun b4 => (Xct k b4 (v0.length : Int) [b3.2]).bind fun b5 => (Xbr k (b5, v1)).bind fun b6 => cond (!b6) (RET (([], 0), false)) ((Ry k (b5, v1)).bind fun b7 => RET (b7, true))) ((Xcb k v0).bind fun b8 => (Xct k b8 b3.1 [b3.2]).bind fun b9 => (Xbr k (b9, v1)).bind fun b10 => cond (!b10) (RET (([], 0), false)) ((Ry k (b9, v1)).bind fun b11 => RET (b11, true))))
def Xhh := V5 (β := (den Ay) × Bool) some
theorem Xrn {β : Type} (k : Nat) (v : (den Ay)) (w : (den Ad)) (K : KT β) : Ag (X3p k) Tryz.f218 (PsT.put Xo9 (v, w, ())) K = (Xhh k v w).bind fun r => K (F218_O.put r) :=
 Eq.trans (b := V5 (fun r => K (F218_O.put r)) k v w) (by kernel_rfl) (by simp only [Xhh, V5, z1, z2, z3, z4, z5, z6, z7, z8, Ax, Bb])
def Xk4 (k : Nat) : FD := ⟨218, Xo9, F218_O, Xhh k⟩
theorem X2f (k : Nat) : (Xk4 k).Ok Tryz.prog := ⟨fun x => Aa (Aj (Ak (.c (Xxb k) (.c (Xpu k) (.c (Xlp k) (.c (Xy7 k) (.c (Xzj k) (.c (Xp4 k) .n))))))) _ _ _ _) Ah Tryz.func218 rfl rfl (Xrn k _ _ some), .of (by kernel_rfl)⟩
abbrev Xz5 : List PA := [.one (.sl .sown Ay), .one mI, .one mI]
abbrev X3r : RO := ⟨[.v], [.sl .own Ay]⟩
def Xrs (k : Nat) (v : Ae) (w p : Int) : Option (Ae) := De.del v w p
def Xpv (k : Nat) : FD := ⟨219, Xz5, X3r, Xrs k⟩
theorem Xz0 (k : Nat) : (Xpv k).Ok Tryz.prog := ⟨fun x => De.con x.1 x.2.1 x.2.2.1, .of (by kernel_rfl)⟩
def Xzh : Nat → Hint
 | 0 => ⟨pl 1 2 (pl 4 2 (pl 15 3 [])), pl 1000 2 (pl 2000 9 (pl 4000 8 ((4008, .own .own (.int .u8) []) :: [])))⟩
 | _ => ⟨[], []⟩
abbrev W7 (k : Nat) : Env := Ba (A0 [Ng k]) Xzh .own [] k
abbrev Xbl : List PA := [.agg (.pair (.sl .ro Ad) mI)]
abbrev F220_O : RO := ⟨[.a, .v], [.pair mI m_7, mB]⟩
noncomputable def X14 {β : Type} (k : Nat) (v : (den Ay)) (K : KT β) : Ex → St → Option β := Bi (W7 k) Tryz.f220 (PsT.put Xbl (v, ())) K
def Xuy (v : (den Ay)) (x5_0 x17_0 : Int) (m4000_0 : (den Ad)) : St := ⟨(.one .d) :: (.one (.ptr (.cell 1000) 2 0)) :: (.one (.ptr (.cell 2000) 9 0)) :: (.one .d) :: (.one (.ptr (.cell 4000) 9 0)) :: (.one (vI x5_0)) :: dz 9 ((.one (.s .ro Ad v.1)) :: (.one (vI (v.1.length : Int))) :: (.one (vI x17_0)) :: dz 33 []), Bd 1000 (Cx (.pair (.sl .ro Ad) mI) v) (Bd 2000 (Cx (.pair mI m_7) (0, 0, 0, 0, 0, 0, false, false, [])) (Bd 4000 (Cx (.pair mI m_7) m4000_0) []))⟩
noncomputable def On {β : Type} (k : Nat) (v : (den Ay)) (K : KT β) (n : Nat) (x5_0 x17_0 : Int) (m4000_0 : (den Ad)) : Option β := A1 (W7 k) Tryz.f220 [1, 1, 1, 1, 0, 1, 0] 0 (Ai (W7 k) [1, 1, 1, 1, 0, 1, 0] (Al Tryz.f220) 0 (X14 k v K)) n (Xuy v x5_0 x17_0 m4000_0)
def Gc {β : Type} (NX : Int → Int → (den Ad) → Option β) (RET : (den Ad) × Bool → Option β) (k : Nat) (v : (den Ay)) (x5_0 x17_0 : Int) (m4000_0 : (den Ad)) : Option β := Bb v fun v0 _ => cond (decide (x17_0 < (v0.length : Int))) (Az x17_0 v0 (cond ((An v0 x17_0).2.2.2.2.2.1 != x5_0) (RET ((0, 0, 0, 0, 0, 0, false, false, []), false)) (B3 (m4000_0.2.2.2.2.2.2.2.2.length) ((An v0 x17_0).2.2.2.2.2.2.2.2.length) 1 (NX (i64.wrap (x5_0 + ((An v0 x17_0).2.2.2.2.2.2.2.2.length : Int))) (i64.wrap (x17_0 + 1)) (m4000_0.1, m4000_0.2.1, m4000_0.2.2.1, m4000_0.2.2.2.1, m4000_0.2.2.2.2.1, m4000_0.2.2.2.2.2.1, m4000_0.2.2.2.2.2.2.1, m4000_0.2.2.2.2.2.2.2.1, m4000_0.2.2.2.2.2.2.2.2 ++ (An v0 x17_0).2.2.2.2.2.2.2.2))))) (Az (i64.wrap ((v0.length : Int) - 1)) v0 (cond (An v0 (i64.wrap ((v0.length : Int) - 1))).2.2.2.2.2.2.1 (RET ((0, 0, 0, 0, 0, 0, false, false, []), false)) ((Pq k (m4000_0.1, m4000_0.2.1, m4000_0.2.2.1, m4000_0.2.2.2.1, m4000_0.2.2.2.2.1, m4000_0.2.2.2.2.2.1, false, m4000_0.2.2.2.2.2.2.2)).bind fun b2 => RET (b2, true))))
def G4 (k : Nat) (v : (den Ay)) : Nat → Int → Int → (den Ad) → Option ((den Ad) × Bool)
 | 0, _, _, _ => none
 | n + 1, x5_0, x17_0, m4000_0 => Gc (G4 k v n) some k v x5_0 x17_0 m4000_0
theorem Xb8 {β : Type} (k : Nat) (v : (den Ay)) (K : KT β) (n : Nat) : ∀ (x5_0 x17_0 : Int) (m4000_0 : (den Ad)), On k v K n x5_0 x17_0 m4000_0 =
  (G4 k v n x5_0 x17_0 m4000_0).bind fun r => K (F220_O.put r) := by
 induction n with
 | zero => intros; rfl
 | succ n ih =>
  intro x5_0 x17_0 m4000_0
  refine Eq.trans (b := Gc (On k v K n) (fun r => K (F220_O.put r)) k v x5_0 x17_0 m4000_0) (by kernel_rfl) ?_
  rw [G4]
  simp only [Gc, z1, z2, z3, z4, z5, z6, z7, z8, Bb, ih]
def Ut {β : Type} (LP0 : Int → Int → (den Ad) → Option β) (k : Nat) (v : (den Ay)) : Option β := cond (decide (0 < (v.1.length : Int))) ((Pq k (An v.1 0)).bind fun b1 => LP0 0 0 (b1.1, b1.2.1, b1.2.2.1, b1.2.2.2.1, b1.2.2.2.2.1, b1.2.2.2.2.2.1, b1.2.2.2.2.2.2.1, b1.2.2.2.2.2.2.2.1, [])) none
def Xhg (k : Nat) (v : (den Ay)) : Option ((den Ad) × Bool) := Ut (G4 k v k) k v
theorem Xrf {β : Type} (k : Nat) (v : (den Ay)) (K : KT β) : Ag (W7 k) Tryz.f220 (PsT.put Xbl (v, ())) K = (Xhg k v).bind fun r => K (F220_O.put r) :=
 Eq.trans (b := Ut (On k v K k) k v) (by kernel_rfl) (by simp only [Xhg, Ut, z1, z2, z3, z4, z5, z6, z7, z8, Bb, Xb8])
def Xkq (k : Nat) : FD := ⟨220, Xbl, F220_O, Xhg k⟩
theorem Xw1 (k : Nat) : (Xkq k).Ok Tryz.prog := ⟨fun x => Aa (Aj (Ak (.c (Sp k) .n)) _ _ _ _) Ah Tryz.func220 rfl rfl (Xrf k _ some), .of (by kernel_rfl)⟩
end
end Go.Proofs.YtdmepjjepogddaaGreat.Gn
end
