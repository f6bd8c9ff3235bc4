/-
  What the proof of this row needs, part 4: the typed evaluator of the translated code, the functions that the law reaches as plain functions, and what they answer.
-/
import Derived.RangeFuncBox
import Derived.RangeFuncLeaves
import Derived.Shelf.Abstract
import Derived.WalkKit
import Derived.OwnWalkIn
import Derived.TacticsInMore
import Derived.LoopNIn
import Derived.LoopIn
import Derived.Test.YtdmepjjepogddaaChecked
import Derived.KernelRfl
import Derived.RangeFuncNested
import Derived.Test.YtdmepjjepogddaaA3
section
namespace Go.Proofs.Ytdmepjjepogddaa.It
open Go.RowKit Go.Shelf Go.Rf
attribute [local go_sem] Oper.semAt_some
set_option linter.unusedVariables false
set_option maxRecDepth 100000 in
set_option maxHeartbeats 2000000 in
theorem mk (w : World) (a : Option Addr) (len cap : Nat) (n : Int) (hn : 1 ≤ n) : CallsIn Fence.wide 1 Try.prog 75 #[.slice a len cap, .int .i64 n] w fun e w' =>
  e = .returned (.func (.func 88) #[] #[.pointer (some ⟨w.heap.size, 0, none⟩), .pointer (some ⟨w.heap.size + 1, 0, none⟩)]) ∧ w' = (w.alloc (.cells #[.slice a len cap] 23)).alloc (.cells #[.int .i64 n] 3) := by
 have hlt : (decide (n < 1)) = false := decide_eq_false (by omega)
 refine callsIn_of_wp Try.func75 rfl trivial ?_ rfl
 simp only [Try.ntmps75, List.size_toArray, List.length_cons, List.length_nil, Nat.reduceAdd, Nat.reduceSub, Array.replicate_succ, Array.replicate_zero, List.push_toArray, List.append_toArray, List.nil_append, List.cons_append]
 gi_wp2
 go_ret
 exact ⟨rfl, rfl⟩
set_option maxRecDepth 100000 in
set_option maxHeartbeats 4000000 in
theorem it (lp N : Nat) (a : Option Addr) (len cap b1 b2 : Nat) (J : Nat → World → Prop) (W : World) (hN : 1 ≤ N) (hl : len ≤ 140737488355328) (hN2 : (N : Int) ≤ 9223372036854775807) (hc : len ≤ cap) (ha : a = none → len = 0)
    (hJ : ∀ j W, J j W → W.cell? ⟨b1, 0, none⟩ = some (.slice a len cap) ∧ W.cell? ⟨b2, 0, none⟩ = some (.int .i64 (N : Int))) (hd : ∀ j W, J j W → J j { W with drawn := W.drawn + 1 })
    (hY : ∀ j W, j * N < len → J j W → YieldAt Fence.wide 0 Try.prog lp #[.slice (a.map (·.add (j * N * 1))) (min N (len - j * N)) (min N (len - j * N))] W fun e W' => e = .returned (.bool true) ∧ J (j + 1) W') (h0 : J 0 W) :
    CallsIn Fence.wide 1 Try.prog 88 #[.func (.yield lp) #[] #[], .pointer (some ⟨b1, 0, none⟩), .pointer (some ⟨b2, 0, none⟩)] W fun e W' => (∃ v, e = .returned v) ∧ J ((len + N - 1) / N) W' := by
  refine callsIn_of_wp Try.func88 rfl trivial ?_ rfl
  simp only [Try.ntmps88, List.size_toArray, List.length_cons, List.length_nil, Nat.reduceAdd, Nat.reduceSub, Array.replicate_succ, Array.replicate_zero, List.push_toArray, List.append_toArray, List.nil_append, List.cons_append]
  gi_wp2
  gi_loopw [4] (fun i wr => ∃ k : Nat, i = .int .i64 ((k * N : Nat) : Int) ∧ (k = 0 ∨ (k - 1) * N < len) ∧ J k wr) (fun i _ => len + N - (intOf i).toNat)
  case atStart => exact ⟨0, by simp, .inl rfl, h0⟩
  case round =>
    obtain ⟨k, rfl, hk, hJs⟩ := hrel
    obtain ⟨hc1, hc2⟩ := hJ k wr hJs
    by_cases hlt : k * N < len
    · obtain ⟨⟨ab, ao, asp⟩, rfl⟩ : ∃ ad, a = some ad := by
        cases a with
        | none => exact absurd (ha rfl) (by omega)
        | some ad => exact ⟨ad, rfl⟩
      have hkn : ((k : Int) * (N : Int)) < (len : Int) := by exact_mod_cast hlt
      have hkc : ((k : Int) * (N : Int)) ≤ (cap : Int) := by omega
      have hk0 : (0 : Int) ≤ (k : Int) * (N : Int) := by exact_mod_cast Nat.zero_le (k * N)
      gi_wp2
      gi_region
      have hm : (if len - k * N < N then ((len - k * N : Nat) : Int) else ((N : Nat) : Int)) = ((min N (len - k * N) : Nat) : Int) := by split <;> omega
      rw [hm]
      obtain ⟨hc3, hc4⟩ := hJ k wr.drew (hd k wr hJs)
      obtain ⟨fn, tmps, assign, body, hy, hR⟩ := hY k wr.drew hlt (hd k wr hJs)
      simp only [Option.map_some, Nat.mul_one] at hy
      have he1 : 1 ≤ min N (len - k * N) := by omega
      have he2 : k * N + min N (len - k * N) ≤ len := by omega
      have he3 : min N (len - k * N) ≤ N := by omega
      generalize min N (len - k * N) = e at *
      have he4 : ((k : Int) * (N : Int)) + (e : Int) ≤ (cap : Int) := by have : ((k * N + e : Nat) : Int) ≤ (len : Int) := by exact_mod_cast he2
                                                                         push_cast at this; omega
      gi_wp2
      refine hR.mono ?_
      rintro e' W3 ⟨rfl, hJ3⟩
      obtain ⟨hc5, hc6⟩ := hJ (k + 1) W3 hJ3
      have hk2 : k = 0 ∨ ((k : Int) * (N : Int)) + (N : Int) ≤ 9223372036854775807 := by
        rcases Nat.eq_zero_or_pos k with h | h
        · exact .inl h
        · right
          have : N ≤ k * N := Nat.le_mul_of_pos_left N h
          have : ((k * N : Nat) : Int) + (N : Int) ≤ 9223372036854775807 := by omega
          push_cast at this
          exact this
      have hk3 : ((k : Int) * (N : Int)) + (N : Int) ≤ 9223372036854775807 := by
        rcases hk2 with rfl | h
        · simpa using hN2
        · exact h
      gi_wp2
      go_roundw
      case rel =>
        refine ⟨k + 1, ?_, .inr (by simpa using hlt), hJ3⟩
        congr 1
        rw [Nat.add_mul]
        push_cast
        omega
      case measure =>
        simp [RowKit.intOf]
        have e1 : ((k : Int) * (N : Int)) = ((k * N : Nat) : Int) := by push_cast; rfl
        rw [e1]
        generalize k * N = q at *
        omega
    · have hkn : ¬ ((k : Int) * (N : Int)) < (len : Int) := by exact_mod_cast hlt
      gi_wp2
      go_end0
      refine ⟨⟨_, rfl⟩, ?_⟩
      have : (len + N - 1) / N = k := by
        rcases hk with rfl | hk
        · have : len = 0 := by omega
          subst this
          rw [Nat.zero_add]
          exact Nat.div_eq_of_lt (by omega)
        · have h1 : 1 ≤ k := by
            rcases Nat.eq_zero_or_pos k with rfl | h
            · simp at hk hlt; omega
            · exact h
          obtain ⟨m, rfl⟩ : ∃ m, k = m + 1 := ⟨k - 1, by omega⟩
          rw [Nat.add_sub_cancel] at hk
          have h2 : (m + 1) * N = m * N + N := Nat.succ_mul m N
          rw [h2] at hlt
          refine Nat.div_eq_of_lt_le ?_ ?_
          · rw [h2]; omega
          · rw [Nat.succ_mul, h2]; omega
      rw [this]
      exact hJs
theorem mkOk : ItMk Try.prog 75 88 := ⟨FnOk.of (by kernel_rfl), fun w a len cap n hn => Calls.mono (callsIn_wide.1 (mk w a len cap n hn)) fun e w' ⟨h1, h2⟩ => by
 subst h2
 have hs : ((w.alloc (.cells #[.slice a len cap] 23)).alloc (.cells #[.int .i64 n] 3)).heap.size = w.heap.size + 2 := by simp
 have c1 : (w.alloc (.cells #[.slice a len cap] 23)).heap[w.heap.size]? = some (.cells #[.slice a len cap] 23) := World.alloc_heap_new w _
 have c2 : ((w.alloc (.cells #[.slice a len cap] 23)).alloc (.cells #[.int .i64 n] 3)).heap[w.heap.size + 1]? = some (.cells #[.int .i64 n] 3) := by
  have := World.alloc_heap_new (w.alloc (.cells #[.slice a len cap] 23)) (.cells #[.int .i64 n] 3); rwa [World.size_alloc] at this
 have c3 : ((w.alloc (.cells #[.slice a len cap] 23)).alloc (.cells #[.int .i64 n] 3)).heap[w.heap.size]? = some (.cells #[.slice a len cap] 23) := (Below.heap_alloc _ _ _ (by simp)).trans c1
 refine ⟨w.heap.size, w.heap.size + 1, h1, ⟨by omega, by omega⟩, ⟨by omega, by omega⟩, by simp only [cellAt, World.cell?]; rw [c3]; rfl, by simp only [cellAt, World.cell?]; rw [c2]; rfl, fun q hq => (Below.heap_alloc _ _ _ (by simp; omega)).trans (Below.heap_alloc _ _ _ hq), by omega, ⟨rfl, rfl, rfl⟩⟩⟩
theorem itOk : ItOk Try.prog 88 (.int .u8) := ⟨FnOk.of (by kernel_rfl), fun lp n a len cap b1 b2 J W hn hl hc ha hJ hd hY h0 => by
 obtain ⟨N, rfl⟩ := Int.eq_ofNat_of_zero_le (show 0 ≤ n by have := hn.1; omega)
 exact it lp N a len cap b1 b2 J W (by have := hn.1; omega) hl hn.2 hc ha hJ hd hY h0⟩
end Go.Proofs.Ytdmepjjepogddaa.It
end

section
set_option linter.unusedVariables false
set_option linter.unusedSimpArgs false
namespace Go.Proofs.Ytdmepjjepogddaa.Gr
open Go.Rf IntKind
noncomputable section
abbrev Br : Ty := (.pair (.int .i64) (.pair (.int .i64) (.pair (.int .i64) (.int .i64))))
abbrev m_1 : MT := .pair mI (.pair mI (.pair mI mI))
abbrev Ey {β : Type} (e : (den Br)) (f : Int → Int → Int → Int → β) : β := f e.1 e.2.1 e.2.2.1 e.2.2.2
def tyT : List (Nat × TyI) := [(3, ⟨(.int .i64), false, 0⟩), (4, ⟨.bool, false, 0⟩), (70, ⟨Br, true, 0⟩)]
def Uy : Xae := [(70, [(0, 1, false), (1, 1, false), (2, 1, false), (3, 1, false)])]
def eqT : List Nat := []
def Bc (tab : Tab) (hint : Nat → Hint) (rm : Rf.Mode) (pins : List (Bool × Nat)) (k : Nat) : Env :=
 { tab := tab, lend := (fun f => cond (Nat.beq f 101) [true] (cond (Nat.beq f 83) [true] (cond (Nat.beq f 62) [true] ([])))), lent := (fun f => cond (Nat.beq f 35) [true] (cond (Nat.beq f 34) [true] (cond (Nat.beq f 33) [true] (cond (Nat.beq f 15) [true] (cond (Nat.beq f 14) [true] (cond (Nat.beq f 13) [true] ([]))))))), pins := pins, ty := asc tyT, fld := J4 Uy, pw := fun _ => none, cw := fun _ => [], hint := hint, eqt := Bt eqT, rm := rm, fuel := k }
theorem tyOk : AllT (TyOk Try.prog) tyT :=
 ⟨.ofInt (b := 8) (by kernel_rfl) (by kernel_rfl), .ofBool (b := 1) (by kernel_rfl) (by kernel_rfl), .ofAgg (b := 32) (by kernel_rfl) (by kernel_rfl), trivial⟩
theorem fldOk : AllF Try.prog Uy :=
 ⟨⟨⟨by kernel_rfl, by kernel_rfl⟩, ⟨by kernel_rfl, by kernel_rfl⟩, ⟨by kernel_rfl, by kernel_rfl⟩, ⟨by kernel_rfl, by kernel_rfl⟩, trivial⟩, trivial⟩
theorem Ah : Try.prog.follows .mixedOrders = true := by kernel_rfl
theorem bldOk : AllT (fun t i => i.agg = true → BldOk Try.prog t (J4 Uy t)) tyT :=
 ⟨nofun, nofun, fun _ => Dk (row := [(0, 1, false), (1, 1, false), (2, 1, false), (3, 1, false)]) rfl (by kernel_rfl) (by kernel_rfl), trivial⟩
theorem eqOkT : AllT (fun t i => Bt eqT t = true → EqOk Try.prog t i.ty) tyT :=
 ⟨fun h => absurd h (by decide), fun h => absurd h (by decide), fun h => absurd h (by decide), trivial⟩
theorem Xd8 (tab : Tab) (hint : Nat → Hint) (rm : Rf.Mode) (pins : List (Bool × Nat)) (k : Nat) : TysOk Try.prog (Bc tab hint rm pins k) :=
 ⟨fun t i h => tyOk.get h, fun s f z h => fldOk.get h, fun t i h => bldOk.get h, fun t i h h2 => eqOkT.get h2 h, fun _ h => by cases h⟩
theorem Ai {tab : Tab} (h : TabFn Try.prog tab) (hint : Nat → Hint) (rm : Rf.Mode) (pins : List (Bool × Nat)) (k : Nat) : EnvOk Try.prog (Bc tab hint rm pins k) := EnvOk.of (Xd8 tab hint rm pins k) h
def Bp : Tab := fun _ _ => none
def Ap : Nat → Hint := fun _ => ⟨[], []⟩
abbrev Xrm (k : Nat) : Env := Bc Bp Ap .own [] k
abbrev Xjt : List PA := [.agg m_1, .one mI]
abbrev F74_O : RO := ⟨[.v], [mB]⟩
def Ye {β : Type} (RET : Bool → Option β) (k : Nat) (v : (den Br)) (w : Int) : Option β := Ey v fun v0 v1 _ _ => cond (decide ((i64.wrap (16 - v1)) < 0)) none (cond (decide ((i64.wrap (16 - v1)) < 0)) none (RET ((w.fdiv (2 ^ (min (i64.wrap (16 - v1)).toNat 64))) == (v0.fdiv (2 ^ (min (i64.wrap (16 - v1)).toNat 64))))))
def F74 := Ye (β := Bool) some
theorem Xl2 {β : Type} (k : Nat) (v : (den Br)) (w : Int) (K : KT β) : Ag (Xrm k) Try.f74 (PsT.put Xjt (v, w, ())) K = (F74 k v w).bind fun r => K (F74_O.put r) :=
 Eq.trans (b := Ye (fun r => K (F74_O.put r)) k v w) (by kernel_rfl) (by simp only [F74, Ye, z1, z2, z3, z4, z5, z6, z7, z8, Ey])
def Xr1 (k : Nat) : FD := ⟨74, Xjt, F74_O, F74 k⟩
theorem Xt5 (k : Nat) : (Xr1 k).Ok Try.prog := ⟨fun x => Ad (Ai .none _ _ _ _) Ah Try.func74 rfl rfl (Xl2 k _ _ some), .of (by kernel_rfl)⟩
end
end Go.Proofs.Ytdmepjjepogddaa.Gr
end

section
namespace Go.Proofs.Ytdmepjjepogddaa.Rt
open Go.RowKit Go.Shelf Go.Rf
attribute [local go_sem] Oper.semAt_some
set_option linter.unusedVariables false
abbrev E : Ty := .pair (.int .i64) (.pair (.int .i64) (.pair (.int .i64) (.int .i64)))
def okB (r : den E) : Bool := decide (0 ≤ (r.2.1 : Int)) && decide ((r.2.1 : Int) ≤ 16)
def Pd (w : Int) (r : den E) : Bool := w.fdiv (2 ^ (16 - r.2.1 : Int).toNat) == (r.1 : Int).fdiv (2 ^ (16 - r.2.1 : Int).toNat)
def Dw (w p : Int) : List (den E) → den E × Bool
 | [] => ((0, 0, 0, 0), false)
 | r :: l => cond (decide ((r.2.1 : Int) < p) && Pd w r) (r, true) (Dw w p l)
def to (v : List (den E)) (w p : Int) : Option (den E × Bool) := cond (v.all okB && decide (v.length ≤ 1000000)) (some (Dw w p v.reverse)) none
set_option maxRecDepth 100000 in
set_option maxHeartbeats 1000000 in
theorem mk (F : Fence) (n : Nat) (hF : F.fn 73) (hro : F.round = none) (w : World) (a : Option Addr) (len cap : Nat) : CallsIn F n Try.prog 73 #[.slice a len cap] w fun e w' =>
  e = .returned (.func (.func 87) #[] #[.pointer (some ⟨w.heap.size, 0, none⟩)]) ∧ w' = w.alloc (.cells #[.slice a len cap] 55) := by
 refine callsIn_of_wp Try.func73 rfl hF ?_ hro
 simp only [Try.ntmps73, List.size_toArray, List.length_cons, List.length_nil, Nat.reduceAdd, Nat.reduceSub, Array.replicate_succ, Array.replicate_zero, List.push_toArray, List.append_toArray, List.nil_append, List.cons_append]
 gi_wp2
 go_ret
 exact ⟨rfl, rfl⟩
def rv (r : den E) : Value := .agg #[.int .i64 r.1, .int .i64 r.2.1, .int .i64 r.2.2.1, .int .i64 r.2.2.2]
def zr : den E := (0, 0, 0, 0)
def Jz {α : Type} (f : Nat → α) (k : Nat) : List α := (List.range k).map f
theorem P9 {α : Type} (f : Nat → α) (k : Nat) : Jz f (k + 1) = Jz f k ++ [f k] := by simp [Jz, List.range_succ]
theorem R7 {α : Type} (f : Nat → α) (k : Nat) : (Jz f k).length = k := by simp [Jz]
def bk (zs : List (den E)) (j : Nat) : Nat × den E := (zs.length - 1 - j, zs[zs.length - 1 - j]?.getD zr)
abbrev RT : Type := { x : Nat × den E // okB x.2 = true }
theorem Xtn {zs : List (den E)} (h : zs.all okB = true) (j : Nat) : okB (bk zs j).2 = true := by
 unfold bk
 by_cases hj : zs.length - 1 - j < zs.length
 ·rw [List.getElem?_eq_getElem hj, Option.getD_some]
  exact List.all_eq_true.1 h _ (List.getElem_mem hj)
 ·rw [List.getElem?_eq_none (by omega)]; rfl
def bks (zs : List (den E)) (h : zs.all okB = true) (j : Nat) : RT := ⟨bk zs j, Xtn h j⟩
set_option maxRecDepth 100000 in
set_option maxHeartbeats 2000000 in
theorem Xto (F : Fence) (n : Nat) (hF : F.fn 87) (hro : F.round = none) (hn : 1 ≤ n) (l Bs n₀ b off cap : Nat) (zs : List (den E)) (hz : zs.all okB = true) (hreach : zs.length ≤ 1000000) (hcap : zs.length ≤ cap) (hb : b < n₀) (J Jx : List RT → World → Prop)
  (hY : ∀ pre x W, J pre W → pre.length < zs.length → YieldAt F (n - 1) Try.prog l #[.int .i64 (x.1.1 : Int), rv x.1.2] W fun e W' =>
   (e = .returned (.bool true) ∧ J (pre ++ [x]) W' ∧ (Below n₀ W W' ∧ W'.cell? ⟨Bs, 0, none⟩ = W.cell? ⟨Bs, 0, none⟩)) ∨ (e = .returned (.bool false) ∧ Jx (pre ++ [x]) W'))
  (W : World) (hBs : W.cell? ⟨Bs, 0, none⟩ = some (.slice (some ⟨b, off, none⟩) zs.length cap))
  (hc : ∀ i, i < zs.length → W.cell? ⟨b, off + i * 4, none⟩ = some (.int .i64 (zs[i]?.getD zr).1) ∧ W.cell? ⟨b, off + i * 4 + 1, none⟩ = some (.int .i64 (zs[i]?.getD zr).2.1) ∧ W.cell? ⟨b, off + i * 4 + 2, none⟩ = some (.int .i64 (zs[i]?.getD zr).2.2.1) ∧ W.cell? ⟨b, off + i * 4 + 3, none⟩ = some (.int .i64 (zs[i]?.getD zr).2.2.2)) (h0 : J [] W) :
  CallsIn F n Try.prog 87 #[.func (.yield l) #[] #[], .pointer (some ⟨Bs, 0, none⟩)] W fun e W' => (∃ v, e = .returned v) ∧
   ((∃ ys, ys = Jz (bks zs hz) zs.length ∧ J ys W') ∨ (∃ pre, (∃ k, k ≤ zs.length ∧ pre = Jz (bks zs hz) k) ∧ Jx pre W')) := by
 refine callsIn_of_wp Try.func87 rfl hF ?_ hro
 simp only [Try.ntmps87, List.size_toArray, List.length_cons, List.length_nil, Nat.reduceAdd, Nat.reduceSub, Array.replicate_succ, Array.replicate_zero, List.push_toArray, List.append_toArray, List.nil_append, List.cons_append]
 gi_wp2
 gi_loopw [3] (fun i wr => ∃ k : Nat, k ≤ zs.length ∧ i = .int .i64 ((zs.length : Int) - 1 - k) ∧ J (Jz (bks zs hz) k) wr ∧ (Below n₀ W wr ∧ wr.cell? ⟨Bs, 0, none⟩ = W.cell? ⟨Bs, 0, none⟩))
  (fun i _ => (RowKit.intOf i + 1).toNat)
 case atStart => exact ⟨0, Nat.zero_le _, by simp, h0, Below.refl _ _, rfl⟩
 case round =>
  obtain ⟨k, hk, rfl, hJs, hnx, hbs⟩ := hrel
  rw [hBs] at hbs
  by_cases hlt : k < zs.length
  ·obtain ⟨fn, tmps, assign, body, hy, hR⟩ := hY _ (bks zs hz k) wr hJs (by rw [R7]; exact hlt)
   obtain ⟨c0, c1, c2, c3⟩ := hc (zs.length - 1 - k) (by omega)
   have d0 := (hnx.cell (p := ⟨b, off + (zs.length - 1 - k) * 4, none⟩) hb).trans c0
   have d1 := (hnx.cell (p := ⟨b, off + (zs.length - 1 - k) * 4 + 1, none⟩) hb).trans c1
   have d2 := (hnx.cell (p := ⟨b, off + (zs.length - 1 - k) * 4 + 2, none⟩) hb).trans c2
   have d3 := (hnx.cell (p := ⟨b, off + (zs.length - 1 - k) * 4 + 3, none⟩) hb).trans c3
   have e1 : ((zs.length : Int) - 1 - (k : Int)) = ((zs.length - 1 - k : Nat) : Int) := by omega
   rw [e1]
   simp only [bks, bk] at hy
   have hj : zs.length - 1 - k < zs.length := by omega
   generalize hjj : zs.length - 1 - k = j at *
   simp only [rv, List.getElem?_eq_getElem hj, Option.getD_some] at hy
   gi_wp2
   refine hR.mono ?_
   rintro e W3 (⟨rfl, hJ3, hk3, hk4⟩ | ⟨rfl, hJx3⟩)
   ·gi_wp2
    go_roundw
    case rel => exact ⟨k + 1, by omega, by congr 1; omega, by rw [P9]; exact hJ3, hnx.trans hk3, by rw [hk4, hbs, hBs]⟩
    case measure => simp [RowKit.intOf]
   ·gi_wp2
    refine bodyPost_ret (results_none rfl _ _ _) rfl ?_
    exact ⟨⟨_, rfl⟩, .inr ⟨_, ⟨k + 1, by omega, (P9 _ _).symm⟩, hJx3⟩⟩
  ·obtain rfl : k = zs.length := by omega
   gi_wp2
   go_end0
   exact ⟨⟨_, rfl⟩, .inl ⟨_, rfl, hJs⟩⟩
set_option maxRecDepth 100000 in
set_option maxHeartbeats 1000000 in
theorem Xva (F : Fence) (n : Nat) (hF : F.fn 87) (hro : F.round = none) (l Bs cap : Nat) (ad : Option Addr) (J : List RT → World → Prop) (W : World) (hBs : W.cell? ⟨Bs, 0, none⟩ = some (.slice ad 0 cap)) (h0 : J [] W) :
  CallsIn F n Try.prog 87 #[.func (.yield l) #[] #[], .pointer (some ⟨Bs, 0, none⟩)] W fun e W' => (∃ v, e = .returned v) ∧ J [] W' := by
 refine callsIn_of_wp Try.func87 rfl hF ?_ hro
 simp only [Try.ntmps87, List.size_toArray, List.length_cons, List.length_nil, Nat.reduceAdd, Nat.reduceSub, Array.replicate_succ, Array.replicate_zero, List.push_toArray, List.append_toArray, List.nil_append, List.cons_append]
 gi_wp2
 gi_loopw [3] (fun i wr => i = .int .i64 (-1) ∧ J [] wr) (fun _ _ => 0)
 case atStart => exact ⟨rfl, h0⟩
 case round =>
  obtain ⟨rfl, hJs⟩ := hrel
  gi_wp2
  go_end0
  exact ⟨⟨_, rfl⟩, hJs⟩
def Rts (n₀ : Nat) (W : World) (sv : Value) (zs : List (den E)) : Prop :=
 (∃ ad c, sv = .slice ad 0 c ∧ zs = []) ∨ ∃ b off cap, sv = .slice (some ⟨b, off, none⟩) zs.length cap ∧ zs.length ≤ cap ∧ b < n₀ ∧
  ∀ i, i < zs.length → W.cell? ⟨b, off + i * 4, none⟩ = some (.int .i64 (zs[i]?.getD zr).1) ∧ W.cell? ⟨b, off + i * 4 + 1, none⟩ = some (.int .i64 (zs[i]?.getD zr).2.1) ∧ W.cell? ⟨b, off + i * 4 + 2, none⟩ = some (.int .i64 (zs[i]?.getD zr).2.2.1) ∧ W.cell? ⟨b, off + i * 4 + 3, none⟩ = some (.int .i64 (zs[i]?.getD zr).2.2.2)
theorem Rts.below {n₀ : Nat} {A B : World} (h : Below n₀ A B) {sv : Value} {zs : List (den E)} : Rts n₀ A sv zs → Rts n₀ B sv zs
 | .inl e => .inl e
 | .inr ⟨b, off, cap, e, hl, hb, hc⟩ => .inr ⟨b, off, cap, e, hl, hb, fun i hi => by
  obtain ⟨c0, c1, c2, c3⟩ := hc i hi
  exact ⟨(h.cell (p := ⟨b, _, none⟩) hb).trans c0, (h.cell (p := ⟨b, _, none⟩) hb).trans c1, (h.cell (p := ⟨b, _, none⟩) hb).trans c2, (h.cell (p := ⟨b, _, none⟩) hb).trans c3⟩⟩
def KP (n₀ Bs : Nat) (A B : World) : Prop := Below n₀ A B ∧ B.cell? ⟨Bs, 0, none⟩ = A.cell? ⟨Bs, 0, none⟩
theorem KP.t {n₀ Bs : Nat} {A B C : World} (h : KP n₀ Bs A B) (k : KP n₀ Bs B C) : KP n₀ Bs A C := ⟨h.1.trans k.1, k.2.trans h.2⟩
theorem Xd0 {W : World} {l q : Nat} {o' : Obj} (h : q ≠ l) : (W.putObj l o').cell? ⟨q, 0, none⟩ = W.cell? ⟨q, 0, none⟩ := by
 simp only [World.cell?, World.putObj_heap_other h]
theorem KP.b {n₀ Bs : Nat} {w : World} (hn : n₀ ≤ w.heap.size) (hB : Bs < w.heap.size) (W : World) (l : Nat) (o o' : Obj) (hl : w.heap.size ≤ l) (h : W.heap[l]? = some o) (h1 : o.isCells = false) (h2 : o.isWalk = false) : KP n₀ Bs W (W.putObj l o') :=
 ⟨belowK_b hn W l o o' hl h h1 h2, Xd0 (by omega)⟩
theorem Xui (F : Fence) (n : Nat) (hF : F.fn 87) (hro : F.round = none) (hn : 1 ≤ n) (Bs n₀ : Nat) (sv : Value) (zs : List (den E)) (hz : zs.all okB = true) (hreach : zs.length ≤ 1000000) (w : World) (hBs : Bs < w.heap.size) (hn₀ : n₀ ≤ w.heap.size)
  (hc : w.cell? ⟨Bs, 0, none⟩ = some sv) (hI : Rts n₀ w sv zs) :
  SeqStopsK F n Try.prog 87 #[.pointer (some ⟨Bs, 0, none⟩)] (fun x : RT => #[Value.int .i64 (x.1.1 : Int), rv x.1.2]) (KP n₀ Bs) (fun ys => ys = Jz (bks zs hz) zs.length)
   (fun pre => ∃ k, k ≤ zs.length ∧ pre = Jz (bks zs hz) k) zs.length w := fun l J Jx W hW _ _ hY h0 => by
 have hc' := (hW.cell (p := ⟨Bs, 0, none⟩) hBs).trans hc
 rcases hI.below (hW.mono hn₀) with ⟨ad, c, rfl, rfl⟩ | ⟨b, off, cap, rfl, hl, hb, hcs⟩
 ·exact (Xva F n hF hro l Bs c ad J W hc' h0).mono fun e W' ⟨he, hj⟩ => ⟨he, .inl ⟨_, rfl, hj⟩⟩
 ·exact Xto F n hF hro hn l Bs n₀ b off cap zs hz hreach hl hb J Jx hY W hc' hcs h0
theorem c74 (r : den E) (w : Int) : Contract Try.prog 74 [.agg [.l (.v (.int .i64 r.1)), .l (.v (.int .i64 r.2.1)), .l (.v (.int .i64 r.2.2.1)), .l (.v (.int .i64 r.2.2.2))], .one (.l (.v (.int .i64 w)))] ⟨Gr.F74 0 r w, fun b => (.one (.v (.bool b)), [])⟩ := (Gr.Xt5 0).con (r, w, ())
theorem Ia (F : Fence) (hF : Fw F) (n : Nat) (r : den E) (w : Int) (hr : okB r = true) (W : World) : CallsIn F n Try.prog 74 #[rv r, .int .i64 w] W fun e W' => e = .returned (.bool (Pd w r)) ∧ Below W.heap.size W W' := by
 obtain ⟨r0, r1, r2, r3⟩ := r
 simp only [okB, Bool.and_eq_true, decide_eq_true_eq] at hr
 obtain ⟨q0, q1⟩ := hr
 have q0 : @LE.le Int _ 0 r1 := q0
 have q1 : @LE.le Int _ r1 16 := q1
 have hF74 : Gr.F74 0 (r0, r1, r2, r3) w = some (Pd w (r0, r1, r2, r3)) := by
  unfold Gr.F74 Gr.Ye Pd
  dsimp only [Gr.Ey]
  have e : IntKind.i64.wrap (16 - r1) = 16 - r1 := by rw [IntKind.wrap_i64]; omega
  rw [e, decide_eq_false (by omega), cond_false, cond_false, Nat.min_eq_left (by omega)]
 have c := c74 (r0, r1, r2, r3) w W (fun _ => False) [rv (r0, r1, r2, r3), .int .i64 w] [[], []]
  ⟨⟨[.int .i64 r0, .int .i64 r1, .int .i64 r2, .int .i64 r3], [[], [], [], []], rfl, ⟨⟨rfl, rfl⟩, ⟨rfl, rfl⟩, ⟨rfl, rfl⟩, ⟨rfl, rfl⟩, trivial⟩, rfl⟩, ⟨rfl, rfl⟩, trivial⟩
  (by simp) (by simp) (fun _ h => h.elim) (List.nodup_nil (α := Nat × Nat)) (fun a ha => by cases ha) (Pd w (r0, r1, r2, r3)) hF74
 have c2 : Calls Try.prog 74 #[rv (r0, r1, r2, r3), .int .i64 w] W fun e W' => e = .returned (.bool (Pd w (r0, r1, r2, r3))) ∧ Below W.heap.size W W' := by
  refine Calls.mono c ?_
  rintro e W' ⟨v, rfl, hP⟩
  obtain ⟨S', bs, bbs, h1, _⟩ := hP.ex
  obtain ⟨rfl, _⟩ := (h1 : v = .bool (Pd w (r0, r1, r2, r3)) ∧ bs = [])
  refine ⟨rfl, hP.io.os, hP.io.tape, hP.io.output, hP.sz, fun q hq => ?_⟩
  exact (hP.frm q hq (by simp)).eq fun o ho => by cases ho
 exact hF.calls c2
def Row4 (W : World) (B : Nat) (r : den E) : Prop := W.heap[B]? = some (.cells #[.int .i64 r.1, .int .i64 r.2.1, .int .i64 r.2.2.1, .int .i64 r.2.2.2] 70 (0, 0))
theorem Row4.lt {W : World} {B : Nat} {r : den E} (h : Row4 W B r) : B < W.heap.size := (Array.getElem?_eq_some_iff.1 h).1
theorem Row4.c {W : World} {B : Nat} {r : den E} (h : Row4 W B r) : W.cell? ⟨B, 0, none⟩ = some (.int .i64 r.1) ∧ W.cell? ⟨B, 1, none⟩ = some (.int .i64 r.2.1) ∧ W.cell? ⟨B, 2, none⟩ = some (.int .i64 r.2.2.1) ∧ W.cell? ⟨B, 3, none⟩ = some (.int .i64 r.2.2.2) := by
 unfold Row4 at h
 simp [World.cell?, h]
theorem Row4.f {W : World} {B : Nat} {r : den E} (h : Row4 W B r) : W.frozen? ⟨B, 0, none⟩ = false ∧ W.frozen? ⟨B, 1, none⟩ = false ∧ W.frozen? ⟨B, 2, none⟩ = false ∧ W.frozen? ⟨B, 3, none⟩ = false := by
 unfold Row4 at h
 simp [World.frozen?, h]
theorem P6 (w p : Int) : ∀ (l : List (den E)), (∀ r ∈ l, (decide ((r.2.1 : Int) < p) && Pd w r) = false) → Dw w p l = ((0, 0, 0, 0), false)
 | [], _ => rfl
 | r :: l, h => by
  rw [Dw, h r List.mem_cons_self, cond_false]
  exact P6 w p l fun x hx => h x (List.mem_cons_of_mem _ hx)
theorem Pt (w p : Int) (r : den E) (b : List (den E)) (hr : (decide ((r.2.1 : Int) < p) && Pd w r) = true) : ∀ (a : List (den E)), (∀ r ∈ a, (decide ((r.2.1 : Int) < p) && Pd w r) = false) → Dw w p (a ++ r :: b) = (r, true)
 | [], _ => by rw [List.nil_append, Dw, hr]; rfl
 | x :: a, h => by
  rw [List.cons_append, Dw, h x List.mem_cons_self, cond_false]
  exact Pt w p r b hr a fun y hy => h y (List.mem_cons_of_mem _ hy)
theorem Tt (v : List (den E)) (hz : v.all okB = true) (k : Nat) (hk : k ≤ v.length) : (Jz (bks v hz) k).map (fun x => x.1.2) = v.reverse.take k := by
 apply List.ext_getElem
 ·simp [Jz]; omega
 ·intro i h1 h2
  have hi : i < k := by simpa [Jz] using h1
  simp only [Jz, List.map_map, List.getElem_map, List.getElem_range, Function.comp_apply, bks, bk, List.getElem_take, List.getElem_reverse]
  rw [List.getElem?_eq_getElem (by omega), Option.getD_some]
theorem Hn {W : World} {B : Nat} {cs : Array Value} {te : TypeId} {fr : Nat × Nat} (h : W.heap[B]? = some (.cells cs te fr)) (o : Nat) (v : Value) : (W.setCell ⟨B, o, none⟩ v).heap[B]? = some (.cells (cs.setIfInBounds o v) te fr) := by
 show (W.heap.modify B _)[B]? = _
 rw [Array.getElem?_modify, if_pos rfl, h]
 rfl
theorem Row4.set {W : World} {B : Nat} {r : den E} (h : Row4 W B r) (r' : den E) : Row4 ((((W.setCell ⟨B, 0, none⟩ (.int .i64 r'.1)).setCell ⟨B, 1, none⟩ (.int .i64 r'.2.1)).setCell ⟨B, 2, none⟩ (.int .i64 r'.2.2.1)).setCell ⟨B, 3, none⟩ (.int .i64 r'.2.2.2)) B r' := by
 have := Hn (Hn (Hn (Hn h 0 (.int .i64 r'.1)) 1 (.int .i64 r'.2.1)) 2 (.int .i64 r'.2.2.1)) 3 (.int .i64 r'.2.2.2)
 simpa [Row4] using this
structure Inv (A : Nat) (w p : Int) (W : World) (sv : Value) (X : World) : Prop where
 b0 : Boxed X A 3 (.int .i64 w)
 b1 : Boxed X (A + 1) 3 (.int .i64 p)
 b2 : ∃ r, Row4 X (A + 1 + 1) r
 b3 : ∃ c, Boxed X (A + 1 + 1 + 1) 4 (.bool c)
 b4 : Boxed X (A + 1 + 1 + 1 + 1) 55 sv
 bel : Below A W X
theorem Inv.heap {A : Nat} {w p : Int} {W : World} {sv : Value} {X Y : World} (h : Inv A w p W sv X) (hs : ∀ k, A ≤ k → k < A + 5 → Y.heap[k]? = X.heap[k]?) (hb : Below A W Y) : Inv A w p W sv Y :=
 ⟨(hs _ (by omega) (by omega)).trans h.b0, (hs _ (by omega) (by omega)).trans h.b1, h.b2.imp fun _ h => (hs _ (by omega) (by omega)).trans h, h.b3.imp fun _ h => (hs _ (by omega) (by omega)).trans h, (hs _ (by omega) (by omega)).trans h.b4, hb⟩
theorem Inv.lt {A : Nat} {w p : Int} {W : World} {sv : Value} {X : World} (h : Inv A w p W sv X) : A + 5 ≤ X.heap.size := by have := h.b4.lt; omega
theorem Inv.own {A : Nat} {w p : Int} {W : World} {sv : Value} (hA : A ≤ W.heap.size) {β : Type} (B : Nat) (hB : A + 5 ≤ B) : OwnFrom B (fun (_ : β) X => Inv A w p W sv X) := fun s X Y row hs hg hr =>
 hs.heap (fun k _ hk => hg.block k (by have := hs.lt; omega) (fun e => by have := (hr k e.symm).1; omega)) (hs.bel.grown hg (by have := hs.lt; omega) (fun k e => by have := (hr k e).1; omega))
theorem Inv.alloc {A : Nat} {w p : Int} {W : World} {sv : Value} {X : World} (h : Inv A w p W sv X) (o : Obj) : Inv A w p W sv (X.alloc o) :=
 h.heap (fun k _ hk => Below.heap_alloc _ _ _ (by have := h.lt; omega)) (h.bel.trans ((Below.refl A X).alloc (by have := h.lt; omega) o))
theorem Inv.call {A : Nat} {w p : Int} {W : World} {sv : Value} {X Y : World} (h : Inv A w p W sv X) (hB : Below X.heap.size X Y) : Inv A w p W sv Y :=
 h.heap (fun k _ hk => hB.block k (by have := h.lt; omega)) (h.bel.trans (hB.mono (by have := h.lt; omega)))
set_option maxRecDepth 100000 in
set_option maxHeartbeats 4000000 in
theorem Xsh (v : List (den E)) (hv : v.length ≤ 1000000) (hok : v.all okB = true) (sv : Value) (w p : Int) (ad : Option Addr) (cap : Nat) (hsv : sv = .slice ad v.length cap) (W : World) (hI : Rts W.heap.size W sv v) :
  CallsIn Fence.wide 3 Try.prog 60 #[sv, .int .i64 w, .int .i64 p] W fun e W' => e = .returned (.tuple #[rv (Dw w p v.reverse).1, .bool (Dw w p v.reverse).2]) ∧ Below W.heap.size W W' := by
 subst hsv
 have h1 : 1 ≤ 3 := by omega
 refine callsIn_of_wp_marks Try.func60 rfl trivial ?_ rfl
 simp only [Try.ntmps60, List.size_toArray, List.length_cons, List.length_nil, Nat.reduceAdd, Nat.reduceSub, Array.replicate_succ, Array.replicate_zero, List.push_toArray, List.append_toArray, List.nil_append, List.cons_append]
 gi_wp2
 refine ⟨trivial, (mk Fence.wide 2 trivial rfl _ _ _ _).mono ?_⟩
 rintro e w' ⟨rfl, rfl⟩
 dsimp only
 gi_wp2
 have hIw := hI
 obtain ⟨w1, hw1⟩ : ∃ w1, (((((W.alloc (Obj.cells #[Value.int IntKind.i64 w] 3)).alloc (Obj.cells #[Value.int IntKind.i64 p] 3)).alloc (Obj.cells #[Value.int IntKind.i64 0, Value.int IntKind.i64 0, Value.int IntKind.i64 0, Value.int IntKind.i64 0] 70)).alloc (Obj.cells #[Value.bool false] 4)).alloc (Obj.cells #[Value.slice ad v.length cap] 55)) = w1 := ⟨_, rfl⟩
 have b0 := Boxed.new W 3 (.int .i64 w)
 have b1 := Boxed.new (W.alloc (Obj.cells #[Value.int IntKind.i64 w] 3)) 3 (.int .i64 p)
 have b2 : Row4 (((W.alloc (Obj.cells #[Value.int IntKind.i64 w] 3)).alloc (Obj.cells #[Value.int IntKind.i64 p] 3)).alloc (Obj.cells #[Value.int IntKind.i64 0, Value.int IntKind.i64 0, Value.int IntKind.i64 0, Value.int IntKind.i64 0] 70)) _ zr := World.alloc_heap_new _ _
 have b3 := Boxed.new (((W.alloc (Obj.cells #[Value.int IntKind.i64 w] 3)).alloc (Obj.cells #[Value.int IntKind.i64 p] 3)).alloc (Obj.cells #[Value.int IntKind.i64 0, Value.int IntKind.i64 0, Value.int IntKind.i64 0, Value.int IntKind.i64 0] 70)) 4 (.bool false)
 have b4 := Boxed.new ((((W.alloc (Obj.cells #[Value.int IntKind.i64 w] 3)).alloc (Obj.cells #[Value.int IntKind.i64 p] 3)).alloc (Obj.cells #[Value.int IntKind.i64 0, Value.int IntKind.i64 0, Value.int IntKind.i64 0, Value.int IntKind.i64 0] 70)).alloc (Obj.cells #[Value.bool false] 4)) 55 (.slice ad v.length cap)
 simp only [World.size_alloc] at b1 b2 b3 b4
 have hB0 : Below W.heap.size W w1 := by
  rw [← hw1]
  exact ((((((Below.refl _ W).alloc (Nat.le_refl _) _).alloc (by simp) _).alloc (by simp; omega) _).alloc (by simp; omega) _).alloc (by simp; omega) _)
 have hs1 : w1.heap.size = W.heap.size + 5 := by rw [← hw1]; simp
 have c0 := (((b0.alloc (Obj.cells #[Value.int IntKind.i64 p] 3)).alloc (Obj.cells #[Value.int IntKind.i64 0, Value.int IntKind.i64 0, Value.int IntKind.i64 0, Value.int IntKind.i64 0] 70)).alloc (Obj.cells #[Value.bool false] 4)).alloc (Obj.cells #[Value.slice ad v.length cap] 55)
 have c1 := ((b1.alloc (Obj.cells #[Value.int IntKind.i64 0, Value.int IntKind.i64 0, Value.int IntKind.i64 0, Value.int IntKind.i64 0] 70)).alloc (Obj.cells #[Value.bool false] 4)).alloc (Obj.cells #[Value.slice ad v.length cap] 55)
 have c3 := b3.alloc (Obj.cells #[Value.slice ad v.length cap] 55)
 have c2 : Row4 w1 (W.heap.size + 1 + 1) zr := by
  rw [← hw1]
  exact (Below.heap_alloc _ _ _ (by simp)).trans ((Below.heap_alloc _ _ _ (by simp)).trans b2)
 rw [hw1] at c0 c1 c3 b4
 rw [hw1]
 simp only [World.size_alloc]
 clear hw1 b0 b1 b2 b3 hI
 generalize hA : W.heap.size = A at *
 have fin : ∀ {r : den E} {c : Bool} {D : Nat} {Y : World} {t8 t9 t12 t13 t14 t15 t16 t17 t18 t19 t20 t21 t22 t23 t24 : Value}, Dw w p v.reverse = (r, c) → A + 5 ≤ D → Row4 Y (A + 1 + 1) r → Boxed Y (A + 1 + 1 + 1) 4 (.bool c) → Y.heap[D]? = some (.deferred (some [])) → Below W.heap.size W Y →
   bodyPostM Fence.wide 3 Try.prog Try.f60 (fun e W' => e = .returned (.tuple #[rv (Dw w p v.reverse).1, .bool (Dw w p v.reverse).2]) ∧ Below W.heap.size W W') .ret
    { tmps := #[.slice ad v.length cap, .int .i64 w, .int .i64 p, undef, .pointer (some ⟨A, 0, none⟩), .pointer (some ⟨A + 1, 0, none⟩), .pointer (some ⟨A + 1 + 1, 0, none⟩), .pointer (some ⟨A + 1 + 1 + 1, 0, none⟩), t8, t9, .slice ad v.length cap, .func (.func 87) #[] #[.pointer (some ⟨A + 1 + 1 + 1 + 1, 0, none⟩)], t12, t13, t14, t15, t16, t17, t18, t19, t20, t21, t22, t23, t24], defers := [{ target := .collected D, args := #[] }] } Y := by
  intro r c D Y t8 t9 t12 t13 t14 t15 t16 t17 t18 t19 t20 t21 t22 t23 t24 hf hD h4 h3 hK hb
  rw [hf]
  refine ⟨by simp, .inl ⟨_, _, rfl, run_takeDeferred hK, ?_⟩⟩
  have r4 : Row4 (Y.putObj D (.deferred none)) (A + 1 + 1) r := (World.putObj_heap_other (by omega)).trans h4
  have r3 : Boxed (Y.putObj D (.deferred none)) (A + 1 + 1 + 1) 4 (.bool c) := (World.putObj_heap_other (by omega)).trans h3
  obtain ⟨q0, q1, q2, q3⟩ := r4.c
  have q4 := r3.cell
  refine ⟨.tuple #[rv r, .bool c], ?_, rfl, hb.trans (belowK_b (w := W) (Nat.le_refl _) Y D _ _ (by omega) hK rfl rfl)⟩
  simp [results, Try.f60, go_sem, q0, q1, q2, q3, q4, rv]
 refine wpIn_rangeFunc_ownH rfl h1 (gf := 87) (lb := #[.pointer (some ⟨A + 1 + 1 + 1 + 1, 0, none⟩)]) rfl trivial (enters_of Try.func87 (by kernel_rfl) rfl)
  (Xui Fence.wide 2 trivial rfl (by omega) (A + 1 + 1 + 1 + 1) A (.slice ad v.length cap) v hok hv w1 (by omega) (by omega) b4.cell (hIw.below hB0)) KP.t (KP.b (by omega) (by omega)) (Below.refl _ _) (fun _ => rfl)
  (fun pre X => (∀ x ∈ pre, (decide ((x.1.2.2.1 : Int) < p) && Pd w x.1.2) = false) ∧ Inv A w p W (.slice ad v.length cap) X)
  (fun c pre X => c = .ret ∧ ∃ ini last, pre = ini ++ [last] ∧ (∀ x ∈ ini, (decide ((x.1.2.2.1 : Int) < p) && Pd w x.1.2) = false) ∧ (decide ((last.1.2.2.1 : Int) < p) && Pd w last.1.2) = true ∧ Row4 X (A + 1 + 1) last.1.2 ∧ Boxed X (A + 1 + 1 + 1) 4 (.bool true) ∧ Below A W X)
  ?ownI ?ownX ?h0
  (fun x a' X => ∃ R, A + 5 ≤ R ∧ Row4 X R x.1.2 ∧ a' = { tmps := #[.slice ad v.length cap, .int .i64 w, .int .i64 p, undef, .pointer (some ⟨A, 0, none⟩), .pointer (some ⟨A + 1, 0, none⟩), .pointer (some ⟨A + 1 + 1, 0, none⟩), .pointer (some ⟨A + 1 + 1 + 1, 0, none⟩), undef, .pointer (some ⟨R, 0, none⟩), .slice ad v.length cap, .func (.func 87) #[] #[.pointer (some ⟨A + 1 + 1 + 1 + 1, 0, none⟩)], .int .i64 (x.1.1 : Int), rv x.1.2, undef, undef, undef, undef, undef, undef, undef, undef, undef, undef, undef], defers := [] }) ?ownA ?assign ?body ?done ?stop
 case ownI => exact OwnFrom.and (ownFrom_pure _ _) (Inv.own (by omega) _ (by omega))
 case ownX =>
  intro c s X Y row ⟨h0, ini, last, h1, h2, h3, h4, h5, h6⟩ hg hr
  have l4 := h4.lt
  have l5 := h5.lt
  exact ⟨h0, ini, last, h1, h2, h3, (hg.block _ l4 (fun e => by have := (hr _ e.symm).1; omega)).trans h4, (hg.block _ l5 (fun e => by have := (hr _ e.symm).1; omega)).trans h5, h6.grown hg (by omega) (fun k e => by have := (hr k e).1; omega)⟩
 case h0 => exact ⟨by simp, c0, c1, ⟨_, c2⟩, ⟨_, c3⟩, b4, hB0⟩
 case ownA =>
  intro x a' s X Y row ⟨R, h1, h2, h3⟩ hg hr
  have l2 := h2.lt
  refine ⟨R, h1, (hg.block _ l2 (fun e => ?_)).trans h2, h3⟩
  obtain ⟨_, o, h4, h5⟩ := hr _ e.symm
  rw [show X.heap[R]? = _ from h2] at h4
  cases h4; cases h5
 case assign =>
  intro l pre x X K ⟨hX0, hX⟩ hK
  simp only [rv]
  gi_wp2
  have hl := hX.lt
  refine hK _ _ (KeepsFrom.of_grownBy (World.grownBy_alloc X _ none) (fun j e => by cases e)) ⟨(Below.refl A X).alloc (by omega) _, ?_⟩ ⟨hX0, hX.alloc _⟩ ⟨X.heap.size, hl, World.alloc_heap_new X _, rfl⟩
  rw [(hX.alloc _).b4.cell, hX.b4.cell]
 case body =>
  rintro l pre x a' X hl hr ⟨i0, hX⟩ ⟨R, hR, hRr, rfl⟩ hlen
  obtain ⟨d0, d1, d2, d3⟩ := hRr.c
  have k1 := hX.b0.cell
  have k2 := hX.b1.cell
  have hlX := hX.lt
  have hRX := hRr.lt
  have stay : ∀ {Y : World} (a' : Act), Below X.heap.size X Y → (decide ((x.1.2.2.1 : Int) < p) && Pd w x.1.2) = false → ownPostG w1.heap.size (KP A (A + 1 + 1 + 1 + 1)) (fun pre X => (∀ x ∈ pre, (decide ((x.1.2.2.1 : Int) < p) && Pd w x.1.2) = false) ∧ Inv A w p W (.slice ad v.length cap) X) (fun c pre X => c = .ret ∧ ∃ ini last, pre = ini ++ [last] ∧ (∀ x ∈ ini, (decide ((x.1.2.2.1 : Int) < p) && Pd w x.1.2) = false) ∧ (decide ((last.1.2.2.1 : Int) < p) && Pd w last.1.2) = true ∧ Row4 X (A + 1 + 1) last.1.2 ∧ Boxed X (A + 1 + 1 + 1) 4 (.bool true) ∧ Below A W X) (pre ++ [x]) X .normal a' Y := fun {Y} a' hB hc =>
   ⟨⟨hB.size, fun k o _ h0 _ => (hB.block k (Array.getElem?_eq_some_iff.1 h0).1).trans h0⟩, ⟨hB.mono (by omega), by rw [(hX.call hB).b4.cell, hX.b4.cell]⟩, fun y hy => (List.mem_append.1 hy).elim (i0 y) (fun e => by rw [List.mem_singleton.1 e]; exact hc), hX.call hB⟩
  simp only [rv]
  gi_wp2
  ·refine ⟨trivial, (Ia _ (.inr ⟨l, rfl⟩) 0 x.1.2 w x.2 X).mono ?_⟩
   rintro e w' ⟨rfl, hB⟩
   dsimp only
   have hRr' : Row4 w' R x.1.2 := (hB.block _ hRX).trans hRr
   obtain ⟨e0, e1, e2, e3⟩ := hRr'.c
   have hX' := hX.call hB
   obtain ⟨r0, hr0⟩ := hX'.b2
   obtain ⟨f0, f1, f2, f3⟩ := hr0.c
   obtain ⟨g0, g1, g2, g3⟩ := hr0.f
   obtain ⟨cb, hcb⟩ := hX'.b3
   have m0 := hcb.cell
   have m1 := hcb.frozen
   cases hf : Pd w x.1.2 with
   | false =>
    gi_wp2
    exact stay _ hB (by rw [hf, Bool.and_false])
   | true =>
    gi_wp2
    rename_i hlt
    have h5 := hr0.set x.1.2
    have nb : ∀ (q : Nat), q ≠ A + 1 + 1 → ((((w'.setCell ⟨A + 1 + 1, 0, none⟩ (.int .i64 x.1.2.1)).setCell ⟨A + 1 + 1, 1, none⟩ (.int .i64 x.1.2.2.1)).setCell ⟨A + 1 + 1, 2, none⟩ (.int .i64 x.1.2.2.2.1)).setCell ⟨A + 1 + 1, 3, none⟩ (.int .i64 x.1.2.2.2.2)).heap[q]? = w'.heap[q]? := fun q hq => by
     rw [Am hq, Am hq, Am hq, Am hq]
    have h6 : Boxed ((((w'.setCell ⟨A + 1 + 1, 0, none⟩ (.int .i64 x.1.2.1)).setCell ⟨A + 1 + 1, 1, none⟩ (.int .i64 x.1.2.2.1)).setCell ⟨A + 1 + 1, 2, none⟩ (.int .i64 x.1.2.2.2.1)).setCell ⟨A + 1 + 1, 3, none⟩ (.int .i64 x.1.2.2.2.2)) (A + 1 + 1 + 1) 4 (.bool cb) := (nb _ (by omega)).trans hcb
    refine ⟨(KeepsFrom.mk hB.size fun k o _ h0 _ => (hB.block k (Array.getElem?_eq_some_iff.1 h0).1).trans h0).trans ((((((KeepsOthers.setCell _ _ _).from _).trans ((KeepsOthers.setCell _ _ _).from _)).trans ((KeepsOthers.setCell _ _ _).from _)).trans ((KeepsOthers.setCell _ _ _).from _)).trans ((KeepsOthers.setCell _ _ _).from _)), rfl, pre, x, rfl, i0, by rw [hf, Bool.and_true]; exact decide_eq_true hlt, ?_, h6.set _, ?_⟩
    ·exact (Am (by omega)).trans h5
    ·exact ((((hX'.bel.setCell (p := ⟨A + 1 + 1, 0, none⟩) (by show A ≤ A + 1 + 1; omega) _).setCell (p := ⟨A + 1 + 1, 1, none⟩) (by show A ≤ A + 1 + 1; omega) _).setCell (p := ⟨A + 1 + 1, 2, none⟩) (by show A ≤ A + 1 + 1; omega) _).setCell (p := ⟨A + 1 + 1, 3, none⟩) (by show A ≤ A + 1 + 1; omega) _).setCell (p := ⟨A + 1 + 1 + 1, 0, none⟩) (by show A ≤ A + 1 + 1 + 1; omega) _
  ·refine ⟨trivial, ?_⟩
   gi_wp2
   rename_i hge
   exact stay _ (Below.refl _ _) (by rw [decide_eq_false (Int.not_lt.2 hge), Bool.false_and])
 case done =>
  rintro D xs X hD rfl ⟨hne, hX⟩ hK
  obtain ⟨r0, hr0⟩ := hX.b2
  obtain ⟨f0, f1, f2, f3⟩ := hr0.c
  obtain ⟨g0, g1, g2, g3⟩ := hr0.f
  obtain ⟨cb, hcb⟩ := hX.b3
  have m0 := hcb.cell
  have m1 := hcb.frozen
  have hfd : Dw w p v.reverse = ((0, 0, 0, 0), false) := P6 w p _ fun r hr => by
   rw [← List.take_length (l := v.reverse), List.length_reverse, ← Tt v hok _ (Nat.le_refl _)] at hr
   obtain ⟨x, hx, rfl⟩ := List.mem_map.1 hr
   exact hne x hx
  gi_wp2
  have nb : ∀ (q : Nat), q ≠ A + 1 + 1 → ((((X.setCell ⟨A + 1 + 1, 0, none⟩ (.int .i64 0)).setCell ⟨A + 1 + 1, 1, none⟩ (.int .i64 0)).setCell ⟨A + 1 + 1, 2, none⟩ (.int .i64 0)).setCell ⟨A + 1 + 1, 3, none⟩ (.int .i64 0)).heap[q]? = X.heap[q]? := fun q hq => by
   rw [Am hq, Am hq, Am hq, Am hq]
  have h6 : Boxed ((((X.setCell ⟨A + 1 + 1, 0, none⟩ (.int .i64 0)).setCell ⟨A + 1 + 1, 1, none⟩ (.int .i64 0)).setCell ⟨A + 1 + 1, 2, none⟩ (.int .i64 0)).setCell ⟨A + 1 + 1, 3, none⟩ (.int .i64 0)) (A + 1 + 1 + 1) 4 (.bool cb) := (nb _ (by omega)).trans hcb
  have h5 := hr0.set zr
  have hbel := ((((hX.bel.setCell (p := ⟨A + 1 + 1, 0, none⟩) (by show A ≤ A + 1 + 1; omega) (.int .i64 0)).setCell (p := ⟨A + 1 + 1, 1, none⟩) (by show A ≤ A + 1 + 1; omega) (.int .i64 0)).setCell (p := ⟨A + 1 + 1, 2, none⟩) (by show A ≤ A + 1 + 1; omega) (.int .i64 0)).setCell (p := ⟨A + 1 + 1, 3, none⟩) (by show A ≤ A + 1 + 1; omega) (.int .i64 0)).setCell (p := ⟨A + 1 + 1 + 1, 0, none⟩) (by show A ≤ A + 1 + 1 + 1; omega) (.bool false)
  exact fin hfd (by omega) ((Am (by omega)).trans h5) (h6.set _) ((Am (by omega)).trans ((nb D (by omega)).trans hK)) (by rw [hA]; exact hbel)
 case stop =>
  rintro D c pre X hD ⟨k, hk, rfl⟩ ⟨rfl, ini, last, e1, e2, e3, hr4, hb3, hbel⟩ hK
  have hfd : Dw w p v.reverse = (last.1.2, true) := by
   have h2 := Tt v hok k hk
   rw [e1, List.map_append, List.map_singleton] at h2
   have h3 : v.reverse = ini.map (fun x => x.1.2) ++ last.1.2 :: v.reverse.drop k := by
    conv => lhs; rw [← List.take_append_drop k v.reverse, ← h2]
    simp
   rw [h3]
   refine Pt w p _ _ e3 _ fun r hr => ?_
   obtain ⟨x, hx, rfl⟩ := List.mem_map.1 hr
   exact e2 x hx
  gi_wp2
  exact fin hfd (by omega) hr4 hb3 hK (by rw [hA]; exact hbel)
theorem Xtf {w : World} {S : Nat → Prop} {a b c : Arg} {vals : List Value} {bss : List (List Nat)} (h : ArgsV w S [a, b, c] vals bss) :
  ∃ y iv z bl bi bv, vals = [y, iv, z] ∧ bss = [bl, bi, bv] ∧ ArgV w S a y bl ∧ ArgV w S b iv bi ∧ ArgV w S c z bv := by
 rcases vals with _ | ⟨y, _ | ⟨iv, _ | ⟨z, _ | _⟩⟩⟩ <;> rcases bss with _ | ⟨bl, _ | ⟨bi, _ | ⟨bv, _ | _⟩⟩⟩ <;> simp only [ArgsV, and_false] at h
 exact ⟨_, _, _, _, _, _, rfl, rfl, h.1, h.2.1, h.2.2.1⟩
theorem Xqx {w : World} {S : Nat → Prop} {m : Rf.Mode} {x : den E} {u : List Value} {b : List Nat} (h : Rd w S E m x u b) : u = [.int .i64 x.1, .int .i64 x.2.1, .int .i64 x.2.2.1, .int .i64 x.2.2.2] := by
 obtain ⟨_, _, _, _, rfl, rfl, ⟨rfl, rfl⟩, _, _, _, _, rfl, rfl, ⟨rfl, rfl⟩, _, _, _, _, rfl, rfl, ⟨rfl, rfl⟩, ⟨rfl, rfl⟩⟩ := h
 rfl
theorem Xll {w : World} {S : Nat → Prop} {v : List (den E)} {y : Value} {bs : List Nat} (h : Rd w S (.sl E) .ro v [y] bs) (hS : ∀ b, S b → b < w.heap.size) :
  (∃ ad cap, y = .slice ad v.length cap) ∧ Rts w.heap.size w y v ∧ bs = [] := by
 obtain ⟨y', hy, ad, c, rfl, hc, _, hr⟩ := h
 simp only [List.cons.injEq, and_true] at hy
 subst hy
 refine ⟨⟨_, _, rfl⟩, ?_, ?_⟩
 ·cases v with
  | nil => exact .inl ⟨_, _, rfl, rfl⟩
  | cons r0 v =>
   rcases hr with ⟨_, h, _⟩ | ⟨b, o, bss, rfl, hl, _, h2, _, hel⟩
   ·cases h
   ·obtain ⟨_, _, h3⟩ := h2 rfl
    refine .inr ⟨b, o, c, rfl, hc, hS _ (h3 (by simp)), fun i hi => ?_⟩
    obtain ⟨vs, hvl, hcell, hrd⟩ := hel i ((r0 :: v)[i]) (bss[i]'(by omega)) (by simp) (List.getElem?_eq_getElem hi) (List.getElem?_eq_getElem (by omega))
    have he := Xqx hrd
    subst he
    rw [List.getElem?_eq_getElem hi, Option.getD_some]
    exact ⟨hcell 0 (by decide), hcell 1 (by decide), hcell 2 (by decide), hcell 3 (by decide)⟩
 ·rcases hr with ⟨_, _, _, h⟩ | ⟨b, o, bss, rfl, hl, _, h2, _, hel⟩
  ·exact h
  ·exact (h2 rfl).1
set_option maxRecDepth 100000 in
theorem con (v : List (den E)) (w p : Int) : Contract Try.prog 60 [.one (.l (.s .ro E v)), .one (.l (.v (.int .i64 w))), .one (.l (.v (.int .i64 p)))]
  ⟨to v w p, fun r => (.tup [(true, enc .own E r.1), (false, [.v (.bool r.2)])], [])⟩ := by
 intro W S vals bss hA hnd hown hS _ _ r hr
 obtain ⟨y, iv, z, bl, bi, bv, rfl, rfl, h1, h2, h3⟩ := Xtf hA
 obtain ⟨rfl, rfl⟩ : iv = .int .i64 w ∧ bi = [] := h2
 obtain ⟨rfl, rfl⟩ : z = .int .i64 p ∧ bv = [] := h3
 have hr : to v w p = some r := hr
 unfold to at hr
 cases hk : (v.all okB && decide (v.length ≤ 1000000)) with
 | false => rw [hk] at hr; cases hr
 | true =>
  rw [hk, cond_true, Option.some.injEq] at hr
  simp only [Bool.and_eq_true, decide_eq_true_eq] at hk
  obtain ⟨⟨ad, cap, hy⟩, hI, rfl⟩ := Xll (show Rd W S (.sl E) .ro v [y] bl from h1) hS
  have c := callsIn_wide.1 (Xsh v hk.2 hk.1 y w p ad cap hy W hI)
  rw [hr] at c
  refine c.mono ?_
  rintro e W' ⟨rfl, hB⟩
  refine ⟨_, rfl, ⟨S, [], [], ⟨[rv r.1, .bool r.2], [[], []], rfl, ⟨⟨_, [[], [], [], []], rfl, ⟨⟨rfl, rfl⟩, ⟨rfl, rfl⟩, ⟨rfl, rfl⟩, ⟨rfl, rfl⟩, trivial⟩, rfl⟩, ⟨rfl, rfl⟩, trivial⟩, rfl⟩, trivial, by simp, by simp, fun _ h => h, fun q h => Nat.lt_of_lt_of_le (hS q h) hB.size, fun q h => .inl h, by simp, by simp [resBk, Pi]⟩, hB.size, ⟨hB.os, hB.tape, hB.output⟩, fun q h1 h2 => .inl (hB.block q h1).symm⟩
#print axioms con
end Go.Proofs.Ytdmepjjepogddaa.Rt
end

section
set_option linter.unusedVariables false
set_option linter.unusedSimpArgs false
namespace Go.Proofs.Ytdmepjjepogddaa.Gn
open Go.Rf IntKind
noncomputable section
abbrev Br : Ty := (.pair (.int .i64) (.pair (.int .i64) (.pair (.int .i64) (.int .i64))))
abbrev sta : Ty := (.pair (.int .i64) (.sl Br))
abbrev An : Ty := (.pair (.int .i64) (.pair (.int .i64) (.pair (.int .i64) (.pair (.int .i64) (.pair (.int .i64) (.pair (.int .i64) (.pair .bool (.pair .bool (.sl (.int .u8))))))))))
abbrev Ma : Ty := (.pair (.int .i64) (.pair (.int .i64) (.sl An)))
abbrev Co : Ty := (.pair (.sl An) (.pair (.sl An) (.int .i64)))
abbrev Ac : Type := List (den (.int .u8))
abbrev Ae : Type := List (den An)
abbrev Ar : Type := List (den Br)
abbrev Ab : Type := List (den sta)
abbrev A7 : Type := List (den (.int .i64))
abbrev D0 : Type := List (den (.sl (.int .u8)))
abbrev A8 : Type := List (den (.pair (.int .i64) An))
abbrev m_1 : MT := .pair mB (.sl .ro (.int .u8))
abbrev m_2 : MT := .pair mI (.pair mI (.pair mB m_1))
abbrev J1 : MT := .pair mI (.pair mI (.pair mI m_2))
abbrev m_4 : MT := .pair mI (.pair mI (.pair mI mI))
abbrev m_5 : MT := .pair mB (.sl .own (.int .u8))
abbrev m_6 : MT := .pair mI (.pair mI (.pair mB m_5))
abbrev m_7 : MT := .pair mI (.pair mI (.pair mI m_6))
abbrev m_8 : MT := .pair mI (.sl .ro (.int .u8))
abbrev m_9 : MT := .pair mI (.sl .own (.int .u8))
abbrev Xch : MT := .pair mI (.pair mI (.sl .own An))
abbrev Xe7 : MT := .pair (.sl .ro An) (.pair (.sl .ro An) mI)
abbrev Ge : MT := .pair (.sl .own An) (.pair (.sl .own An) mI)
abbrev Xck : MT := .pair (.sl .sown An) (.pair (.sl .sown An) mI)
abbrev Xe1 : MT := .pair mI (.pair mI (.sl .sown An))
abbrev m_15 : MT := .pair mB (.lent .own (.int .u8))
abbrev m_16 : MT := .pair mI (.pair mI (.pair mB m_15))
abbrev m_17 : MT := .pair mI (.pair mI (.pair mI m_16))
abbrev m_18 : MT := .pair (.lent .own An) mI
abbrev m_19 : MT := .pair (.lent .own An) m_18
abbrev Aw {β : Type} (e : (den An)) (f : Int → Int → Int → Int → Int → Int → Bool → Bool → Ac → β) : β := f e.1 e.2.1 e.2.2.1 e.2.2.2.1 e.2.2.2.2.1 e.2.2.2.2.2.1 e.2.2.2.2.2.2.1 e.2.2.2.2.2.2.2.1 e.2.2.2.2.2.2.2.2
abbrev Ey {β : Type} (e : (den Br)) (f : Int → Int → Int → Int → β) : β := f e.1 e.2.1 e.2.2.1 e.2.2.2
abbrev u_2 {β : Type} (e : (Int × (Int × Ac))) (f : Int → Int → Ac → β) : β := f e.1 e.2.1 e.2.2
def tyT : List (Nat × TyI) := [(3, ⟨(.int .i64), false, 0⟩), (4, ⟨.bool, false, 0⟩), (5, ⟨(.int .u8), false, 0⟩), (22, ⟨(.sl sta), false, 32⟩), (23, ⟨(.sl (.int .u8)), false, 1⟩), (25, ⟨An, true, 0⟩), (28, ⟨(.sl An), false, 80⟩), (30, ⟨Co, true, 0⟩), (32, ⟨(.sl sta), false, 32⟩), (34, ⟨An, true, 0⟩), (44, ⟨(.sl Br), false, 32⟩), (46, ⟨sta, true, 0⟩), (51, ⟨(.sl (.int .i64)), false, 8⟩), (53, ⟨Ma, true, 0⟩), (55, ⟨(.sl Br), false, 32⟩), (57, ⟨sta, true, 0⟩), (70, ⟨Br, true, 0⟩), (78, ⟨(.pair (.int .i64) An), true, 0⟩), (79, ⟨(.sl (.pair (.int .i64) An)), false, 88⟩), (88, ⟨Br, true, 0⟩), (98, ⟨(.pair (.int .i64) (.pair (.int .i64) (.sl (.int .u8)))), true, 0⟩), (122, ⟨(.sl (.sl (.int .u8))), false, 24⟩)]
def Uy : Xae := [(25, [(0, 1, false), (1, 1, false), (2, 1, false), (3, 1, false), (4, 1, false), (5, 1, false), (6, 1, false), (7, 1, false), (8, 1, false)]), (30, [(0, 1, false), (1, 1, false), (2, 1, false)]), (34, [(0, 1, false), (1, 1, false), (2, 1, false), (3, 1, false), (4, 1, false), (5, 1, false), (6, 1, false), (7, 1, false), (8, 1, false)]), (46, [(0, 1, false), (1, 1, false)]), (53, [(0, 1, false), (1, 1, false), (2, 1, false)]), (57, [(0, 1, false), (1, 1, false)]), (70, [(0, 1, false), (1, 1, false), (2, 1, false), (3, 1, false)]), (78, [(0, 1, false), (1, 9, true)]), (88, [(0, 1, false), (1, 1, false), (2, 1, false), (3, 1, false)]), (98, [(0, 1, false), (1, 1, false), (2, 1, false)])]
def eqT : List Nat := []
def Bc (tab : Tab) (hint : Nat → Hint) (rm : Rf.Mode) (pins : List (Bool × Nat)) (k : Nat) : Env :=
 { tab := tab, lend := (fun f => cond (Nat.beq f 101) [true] (cond (Nat.beq f 83) [true] (cond (Nat.beq f 62) [true] ([])))), lent := (fun f => cond (Nat.beq f 35) [true] (cond (Nat.beq f 34) [true] (cond (Nat.beq f 33) [true] (cond (Nat.beq f 15) [true] (cond (Nat.beq f 14) [true] (cond (Nat.beq f 13) [true] ([]))))))), pins := pins, ty := asc tyT, fld := J4 Uy, pw := fun _ => none, cw := fun _ => [], hint := hint, eqt := Bt eqT, rm := rm, fuel := k, itr := [(75, 88, (.int .u8))] }
theorem tyOk : AllT (TyOk Try.prog) tyT :=
 ⟨.ofInt (b := 8) (by kernel_rfl) (by kernel_rfl), .ofBool (b := 1) (by kernel_rfl) (by kernel_rfl), .ofInt (b := 1) (by kernel_rfl) (by kernel_rfl), .ofSl (te := 46) (b := 24) (by kernel_rfl) (by kernel_rfl) (by kernel_rfl) nofun, .ofSl (te := 5) (b := 24) (by kernel_rfl) (by kernel_rfl) (by kernel_rfl) (fun _ h => by cases h; kernel_rfl), .ofAgg (b := 80) (by kernel_rfl) (by kernel_rfl), .ofSl (te := 34) (b := 24) (by kernel_rfl) (by kernel_rfl) (by kernel_rfl) nofun, .ofAgg (b := 56) (by kernel_rfl) (by kernel_rfl), .ofSl (te := 57) (b := 24) (by kernel_rfl) (by kernel_rfl) (by kernel_rfl) nofun, .ofAgg (b := 80) (by kernel_rfl) (by kernel_rfl), .ofSl (te := 88) (b := 24) (by kernel_rfl) (by kernel_rfl) (by kernel_rfl) nofun, .ofAgg (b := 32) (by kernel_rfl) (by kernel_rfl), .ofSl (te := 3) (b := 24) (by kernel_rfl) (by kernel_rfl) (by kernel_rfl) (fun _ h => by cases h; kernel_rfl), .ofAgg (b := 40) (by kernel_rfl) (by kernel_rfl), .ofSl (te := 70) (b := 24) (by kernel_rfl) (by kernel_rfl) (by kernel_rfl) nofun, .ofAgg (b := 32) (by kernel_rfl) (by kernel_rfl), .ofAgg (b := 32) (by kernel_rfl) (by kernel_rfl), .ofAgg (b := 88) (by kernel_rfl) (by kernel_rfl), .ofSl (te := 78) (b := 24) (by kernel_rfl) (by kernel_rfl) (by kernel_rfl) nofun, .ofAgg (b := 32) (by kernel_rfl) (by kernel_rfl), .ofAgg (b := 40) (by kernel_rfl) (by kernel_rfl), .ofSl (te := 23) (b := 24) (by kernel_rfl) (by kernel_rfl) (by kernel_rfl) nofun, trivial⟩
theorem fldOk : AllF Try.prog Uy :=
 ⟨⟨⟨by kernel_rfl, by kernel_rfl⟩, ⟨by kernel_rfl, by kernel_rfl⟩, ⟨by kernel_rfl, by kernel_rfl⟩, ⟨by kernel_rfl, by kernel_rfl⟩, ⟨by kernel_rfl, by kernel_rfl⟩, ⟨by kernel_rfl, by kernel_rfl⟩, ⟨by kernel_rfl, by kernel_rfl⟩, ⟨by kernel_rfl, by kernel_rfl⟩, ⟨by kernel_rfl, by kernel_rfl⟩, trivial⟩, ⟨⟨by kernel_rfl, by kernel_rfl⟩, ⟨by kernel_rfl, by kernel_rfl⟩, ⟨by kernel_rfl, by kernel_rfl⟩, trivial⟩, ⟨⟨by kernel_rfl, by kernel_rfl⟩, ⟨by kernel_rfl, by kernel_rfl⟩, ⟨by kernel_rfl, by kernel_rfl⟩, ⟨by kernel_rfl, by kernel_rfl⟩, ⟨by kernel_rfl, by kernel_rfl⟩, ⟨by kernel_rfl, by kernel_rfl⟩, ⟨by kernel_rfl, by kernel_rfl⟩, ⟨by kernel_rfl, by kernel_rfl⟩, ⟨by kernel_rfl, by kernel_rfl⟩, trivial⟩, ⟨⟨by kernel_rfl, by kernel_rfl⟩, ⟨by kernel_rfl, by kernel_rfl⟩, trivial⟩, ⟨⟨by kernel_rfl, by kernel_rfl⟩, ⟨by kernel_rfl, by kernel_rfl⟩, ⟨by kernel_rfl, by kernel_rfl⟩, trivial⟩, ⟨⟨by kernel_rfl, by kernel_rfl⟩, ⟨by kernel_rfl, by kernel_rfl⟩, trivial⟩, ⟨⟨by kernel_rfl, by kernel_rfl⟩, ⟨by kernel_rfl, by kernel_rfl⟩, ⟨by kernel_rfl, by kernel_rfl⟩, ⟨by kernel_rfl, by kernel_rfl⟩, trivial⟩, ⟨⟨by kernel_rfl, by kernel_rfl⟩, ⟨by kernel_rfl, by kernel_rfl⟩, trivial⟩, ⟨⟨by kernel_rfl, by kernel_rfl⟩, ⟨by kernel_rfl, by kernel_rfl⟩, ⟨by kernel_rfl, by kernel_rfl⟩, ⟨by kernel_rfl, by kernel_rfl⟩, trivial⟩, ⟨⟨by kernel_rfl, by kernel_rfl⟩, ⟨by kernel_rfl, by kernel_rfl⟩, ⟨by kernel_rfl, by kernel_rfl⟩, trivial⟩, trivial⟩
theorem Ah : Try.prog.follows .mixedOrders = true := by kernel_rfl
theorem bldOk : AllT (fun t i => i.agg = true → BldOk Try.prog t (J4 Uy t)) tyT :=
 ⟨nofun, nofun, nofun, nofun, nofun, fun _ => Dk (row := [(0, 1, false), (1, 1, false), (2, 1, false), (3, 1, false), (4, 1, false), (5, 1, false), (6, 1, false), (7, 1, false), (8, 1, false)]) rfl (by kernel_rfl) (by kernel_rfl), nofun, fun _ => Dk (row := [(0, 1, false), (1, 1, false), (2, 1, false)]) rfl (by kernel_rfl) (by kernel_rfl), nofun, fun _ => Dk (row := [(0, 1, false), (1, 1, false), (2, 1, false), (3, 1, false), (4, 1, false), (5, 1, false), (6, 1, false), (7, 1, false), (8, 1, false)]) rfl (by kernel_rfl) (by kernel_rfl), nofun, fun _ => Dk (row := [(0, 1, false), (1, 1, false)]) rfl (by kernel_rfl) (by kernel_rfl), nofun, fun _ => Dk (row := [(0, 1, false), (1, 1, false), (2, 1, false)]) rfl (by kernel_rfl) (by kernel_rfl), nofun, fun _ => Dk (row := [(0, 1, false), (1, 1, false)]) rfl (by kernel_rfl) (by kernel_rfl), fun _ => Dk (row := [(0, 1, false), (1, 1, false), (2, 1, false), (3, 1, false)]) rfl (by kernel_rfl) (by kernel_rfl), fun _ => Dk (row := [(0, 1, false), (1, 9, true)]) rfl (by kernel_rfl) (by kernel_rfl), nofun, fun _ => Dk (row := [(0, 1, false), (1, 1, false), (2, 1, false), (3, 1, false)]) rfl (by kernel_rfl) (by kernel_rfl), fun _ => Dk (row := [(0, 1, false), (1, 1, false), (2, 1, false)]) rfl (by kernel_rfl) (by kernel_rfl), nofun, trivial⟩
theorem eqOkT : AllT (fun t i => Bt eqT t = true → EqOk Try.prog t i.ty) tyT :=
 ⟨fun h => absurd h (by decide), fun h => absurd h (by decide), fun h => absurd h (by decide), fun h => absurd h (by decide), fun h => absurd h (by decide), fun h => absurd h (by decide), fun h => absurd h (by decide), fun h => absurd h (by decide), fun h => absurd h (by decide), fun h => absurd h (by decide), fun h => absurd h (by decide), fun h => absurd h (by decide), fun h => absurd h (by decide), fun h => absurd h (by decide), fun h => absurd h (by decide), fun h => absurd h (by decide), fun h => absurd h (by decide), fun h => absurd h (by decide), fun h => absurd h (by decide), fun h => absurd h (by decide), fun h => absurd h (by decide), fun h => absurd h (by decide), trivial⟩
theorem Xd8 (tab : Tab) (hint : Nat → Hint) (rm : Rf.Mode) (pins : List (Bool × Nat)) (k : Nat) : TysOk Try.prog (Bc tab hint rm pins k) :=
 ⟨fun t i h => tyOk.get h, fun s f z h => fldOk.get h, fun t i h => bldOk.get h, fun t i h h2 => eqOkT.get h2 h, fun z hz => by obtain rfl := List.mem_singleton.1 hz; exact ⟨It.mkOk, It.itOk⟩⟩
theorem Ai {tab : Tab} (h : TabFn Try.prog tab) (hint : Nat → Hint) (rm : Rf.Mode) (pins : List (Bool × Nat)) (k : Nat) : EnvOk Try.prog (Bc tab hint rm pins k) := EnvOk.of (Xd8 tab hint rm pins k) h
def Bp : Tab := fun _ _ => none
def Ap : Nat → Hint := fun _ => ⟨[], []⟩
end
end Go.Proofs.Ytdmepjjepogddaa.Gn
end

section
set_option linter.unusedVariables false
set_option linter.unusedSimpArgs false
namespace Go.Proofs.Ytdmepjjepogddaa.Gn
open Go.Rf IntKind
noncomputable section
abbrev Xq5 (k : Nat) : Env := Bc Bp Ap .own [] k
abbrev Xgz : List PA := [.one mI, .one mI, .one mI]
abbrev F21_O : RO := ⟨[.v], [mB]⟩
def Ki (k : Nat) (v w p : Int) : Option (Bool) := cond (decide (v ≥ w)) (some (decide (v ≤ p))) (some false)
theorem Xm7 {β : Type} (k : Nat) (v w p : Int) (K : KT β) : Ag (Xq5 k) Try.f21 (PsT.put Xgz (v, w, p, ())) K = (Ki k v w p).bind fun r => K (F21_O.put r) :=
 Eq.trans (b := cond (decide (v ≥ w)) (K (F21_O.put (decide (v ≤ p)))) (K (F21_O.put false))) (by kernel_rfl) (by simp only [Ki, z1, z2, z3, z4, z5, z6, z7, z8])
def F1 (k : Nat) : FD := ⟨21, Xgz, F21_O, Ki k⟩
theorem Hy (k : Nat) : (F1 k).Ok Try.prog := ⟨fun x => Ad (Ai .none _ _ _ _) Ah Try.func21 rfl rfl (Xm7 k _ _ _ some), .of (by kernel_rfl)⟩
abbrev Xul (k : Nat) : Env := Bc Bp Ap .own [] k
abbrev Xir : List PA := [.one mI]
abbrev F68_O : RO := ⟨[.v], [mI]⟩
def Xt {β : Type} (RET : Int → Option β) (k : Nat) (v : Int) : Option β := cond (decide ((i64.wrap (16 - v)) < 0)) none (RET (i64.wrap (1 * 2 ^ (min (i64.wrap (16 - v)).toNat 64))))
def F68 := Xt (β := Int) some
theorem Xo4 {β : Type} (k : Nat) (v : Int) (K : KT β) : Ag (Xul k) Try.f68 (PsT.put Xir (v, ())) K = (F68 k v).bind fun r => K (F68_O.put r) :=
 Eq.trans (b := Xt (fun r => K (F68_O.put r)) k v) (by kernel_rfl) (by simp only [F68, Xt, z1, z2, z3, z4, z5, z6, z7, z8])
def Xcg (k : Nat) : FD := ⟨68, Xir, F68_O, F68 k⟩
theorem Xi7 (k : Nat) : (Xcg k).Ok Try.prog := ⟨fun x => Ad (Ai .none _ _ _ _) Ah Try.func68 rfl rfl (Xo4 k _ some), .of (by kernel_rfl)⟩
abbrev Xt0 (k : Nat) : Env := Bc (A1 [F1 k, Xcg k]) Ap .own [] k
abbrev Xhi : List PA := [.agg m_4]
abbrev F64_O : RO := ⟨[.v], [mB]⟩
def Xr {β : Type} (RET : Bool → Option β) (k : Nat) (v : (den Br)) : Option β := Ey v fun v0 v1 v2 v3 => (Ki k v1 0 16).bind fun b1 => cond b1 ((Ki k v0 0 65535).bind fun b2 => cond b2 ((F68 k v1).bind fun b3 => cond (decide (b3 = 0)) none (cond ((v0.tmod b3) == 0) ((Ki k v2 0 65535).bind fun b4 => cond b4 ((Ki k v3 1 48).bind fun b5 => RET b5) (RET false)) (RET false))) (RET false)) (RET false)
def F64 := Xr (β := Bool) some
theorem Xmx {β : Type} (k : Nat) (v : (den Br)) (K : KT β) : Ag (Xt0 k) Try.f64 (PsT.put Xhi (v, ())) K = (F64 k v).bind fun r => K (F64_O.put r) :=
 Eq.trans (b := Xr (fun r => K (F64_O.put r)) k v) (by kernel_rfl) (by simp only [F64, Xr, z1, z2, z3, z4, z5, z6, z7, z8, Ey])
def Xd4 (k : Nat) : FD := ⟨64, Xhi, F64_O, F64 k⟩
theorem Xiw (k : Nat) : (Xd4 k).Ok Try.prog := ⟨fun x => Ad (Ai (Aj (.c (Hy k) (.c (Xi7 k) .n))) _ _ _ _) Ah Try.func64 rfl rfl (Xmx k _ some), .of (by kernel_rfl)⟩
def Xt4 : Nat → Hint
 | 0 => ⟨pl 0 1 (pl 3 1 []), []⟩
 | _ => ⟨[], []⟩
abbrev Wt (k : Nat) : Env := Bc (A1 [Xd4 k]) Xt4 .own [] k
abbrev Xbx : List PA := [.one (.sl .ro Br)]
abbrev F51_O : RO := ⟨[.v], [mB]⟩
noncomputable def Xsw {β : Type} (k : Nat) (v : Ar) (K : KT β) : Ex → St → Option β := Bz (Wt k) Try.f51 (PsT.put Xbx (v, ())) K
def Xkm (v : Ar) (x3_0 : Int) : St := ⟨(.one (.s .ro Br v)) :: (.one .d) :: (.one .d) :: (.one (vI x3_0)) :: dz 59 [], []⟩
noncomputable def M8 {β : Type} (k : Nat) (v : Ar) (K : KT β) (n : Nat) (x3_0 : Int) : Option β := A6 (Wt k) Try.f51 [1, 0, 1, 0] 0 (Ak (Wt k) [1, 0, 1, 0] (Al Try.f51) 0 (Xsw k v K)) n (Xkm v x3_0)
def Js {β : Type} (NX : Int → Option β) (RET : Bool → Option β) (k : Nat) (v : Ar) (x3_0 : Int) : Option β := cond (decide (x3_0 < (v.length : Int))) (A2 x3_0 v ((F64 k (Af v x3_0)).bind fun b1 => cond (!b1) (RET false) (cond (decide (x3_0 > 0)) (A2 (i64.wrap (x3_0 - 1)) v (A2 x3_0 v (cond (decide ((Af v (i64.wrap (x3_0 - 1))).2.1 > (Af v x3_0).2.1)) (RET false) (A2 (i64.wrap (x3_0 - 1)) v (A2 x3_0 v (cond ((Af v (i64.wrap (x3_0 - 1))).2.1 == (Af v x3_0).2.1) (A2 (i64.wrap (x3_0 - 1)) v (A2 x3_0 v (cond (decide ((Af v (i64.wrap (x3_0 - 1))).1 ≥ (Af v x3_0).1)) (RET false) (NX (i64.wrap (x3_0 + 1)))))) (NX (i64.wrap (x3_0 + 1))))))))) (NX (i64.wrap (x3_0 + 1)))))) (RET (decide ((v.length : Int) ≤ 8)))
def Lc (k : Nat) (v : Ar) : Nat → Int → Option (Bool)
 | 0, _ => none
 | n + 1, x3_0 => Js (Lc k v n) some k v x3_0
theorem Y6 {β : Type} (k : Nat) (v : Ar) (K : KT β) (n : Nat) : ∀ (x3_0 : Int), M8 k v K n x3_0 =
  (Lc k v n x3_0).bind fun r => K (F51_O.put r) := by
 induction n with
 | zero => intros; rfl
 | succ n ih =>
  intro x3_0
  refine Eq.trans (b := Js (M8 k v K n) (fun r => K (F51_O.put r)) k v x3_0) (by kernel_rfl) ?_
  rw [Lc]
  simp only [Js, z1, z2, z3, z4, z5, z6, z7, z8, ih]
def Xb1 {β : Type} (LP0 : Int → Option β) (k : Nat) (v : Ar) : Option β := LP0 0
def F51 (k : Nat) (v : Ar) : Option (Bool) := Xb1 (Lc k v k) k v
theorem Xl5 {β : Type} (k : Nat) (v : Ar) (K : KT β) : Ag (Wt k) Try.f51 (PsT.put Xbx (v, ())) K = (F51 k v).bind fun r => K (F51_O.put r) :=
 Eq.trans (b := Xb1 (M8 k v K k) k v) (by kernel_rfl) (by simp only [F51, Xb1, z1, z2, z3, z4, z5, z6, z7, z8, Y6])
def Xen (k : Nat) : FD := ⟨51, Xbx, F51_O, F51 k⟩
theorem Xga (k : Nat) : (Xen k).Ok Try.prog := ⟨fun x => Ad (Ai (Aj (.c (Xiw k) .n)) _ _ _ _) Ah Try.func51 rfl rfl (Xl5 k _ some), .of (by kernel_rfl)⟩
abbrev Xp1 (k : Nat) : Env := Bc (A1 [F1 k, Xen k]) Ap .own [] k
abbrev Xjx : List PA := [.agg (.pair mI (.sl .ro Br))]
abbrev F38_O : RO := ⟨[.v], [mB]⟩
def F38 (k : Nat) (v : (den sta)) : Option (Bool) := (Ki k v.1 0 65535).bind fun b1 => cond b1 ((F51 k v.2).bind fun b2 => some b2) (some false)
theorem Xmc {β : Type} (k : Nat) (v : (den sta)) (K : KT β) : Ag (Xp1 k) Try.f38 (PsT.put Xjx (v, ())) K = (F38 k v).bind fun r => K (F38_O.put r) :=
 Eq.trans (b := (Ki k v.1 0 65535).bind fun b1 => cond b1 ((F51 k v.2).bind fun b2 => K (F38_O.put b2)) (K (F38_O.put false))) (by kernel_rfl) (by simp only [F38, z1, z2, z3, z4, z5, z6, z7, z8])
def Xc8 (k : Nat) : FD := ⟨38, Xjx, F38_O, F38 k⟩
theorem Xix (k : Nat) : (Xc8 k).Ok Try.prog := ⟨fun x => Ad (Ai (Aj (.c (Hy k) (.c (Xga k) .n))) _ _ _ _) Ah Try.func38 rfl rfl (Xmc k _ some), .of (by kernel_rfl)⟩
def Xps : Nat → Hint
 | 0 => ⟨pl 0 1 (pl 3 1 []), []⟩
 | 2 => ⟨pl 0 1 (pl 3 2 []), []⟩
 | _ => ⟨[], []⟩
abbrev D7 (k : Nat) : Env := Bc (A1 [Xc8 k]) Xps .own [] k
abbrev Xdj : List PA := [.one (.sl .ro sta)]
abbrev F19_O : RO := ⟨[.v], [mB]⟩
noncomputable def Yi {β : Type} (k : Nat) (v : Ab) (K : KT β) : Ex → St → Option β := Bz (D7 k) Try.f19 (PsT.put Xdj (v, ())) K
def Xne (v : Ab) (x3_2 x4_2 : Int) : St := ⟨(.one (.s .ro sta v)) :: (.one .d) :: (.one .d) :: (.one (vI x3_2)) :: (.one (vI x4_2)) :: dz 31 [], []⟩
noncomputable def Mu {β : Type} (k : Nat) (v : Ab) (KK : Ex → St → Option β) (n : Nat) (x3_2 x4_2 : Int) : Option β := A6 (D7 k) Try.f19 [1, 0, 1, 0, 0, 1, 0, 0, 1, 1, 0] 2 KK n (Xne v x3_2 x4_2)
def Jh {β : Type} (NX : Int → Int → Option β) (EX0 : (Int × Int) → Option β) (EX1 : (Int × Int) → Option β) (k : Nat) (v : Ab) (x3_2 x4_2 : Int) : Option β := cond (decide (x4_2 < x3_2)) (A2 x4_2 v (A2 x3_2 v (cond ((Af v x4_2).1 == (Af v x3_2).1) (EX0 (x3_2, x4_2)) (NX x3_2 (i64.wrap (x4_2 + 1)))))) (EX1 (x3_2, x4_2))
def Ig (k : Nat) (v : Ab) : Nat → Int → Int → Option ((Sum (Int × Int) (Int × Int)))
 | 0, _, _ => none
 | n + 1, x3_2, x4_2 => Jh (Ig k v n) (fun y2 => some (.inl y2)) (fun y2 => some (.inr y2)) k v x3_2 x4_2
theorem Ys {β : Type} (k : Nat) (v : Ab) (KK : Ex → St → Option β) (n : Nat) : ∀ (x3_2 x4_2 : Int), Mu k v KK n x3_2 x4_2 =
  (Ig k v n x3_2 x4_2).bind fun z => Z3 (fun y2 => KK .ret ⟨(.one (.s .ro sta v)) :: (.one .d) :: (.one (vB false)) :: (.one (vI y2.1)) :: (.one (vI y2.2)) :: dz 12 ((.one (vI y2.2)) :: (.one (vI y2.1)) :: (.one (vB true)) :: (.one .d) :: (.one .d) :: (.one (.s .ro sta v)) :: (.one (vI y2.2)) :: (.one (.ptr (.elem 24000 y2.2.toNat 0) 2 0)) :: (.one (.ptr (.elem 24000 y2.2.toNat 0) 2 0)) :: (.one (vI (Af v y2.2).1)) :: (.one (.s .ro sta v)) :: (.one (vI y2.1)) :: (.one (.ptr (.elem 29000 y2.1.toNat 0) 2 0)) :: (.one (.ptr (.elem 29000 y2.1.toNat 0) 2 0)) :: (.one (vI (Af v y2.1).1)) :: (.one (vB true)) :: dz 3 []), [eM 24000 (.s .ro sta v), eM 29000 (.s .ro sta v)]⟩) (fun y2 => KK (.exit 2) ⟨(.one (.s .ro sta v)) :: (.one .d) :: (.one .d) :: (.one (vI y2.1)) :: (.one (vI y2.2)) :: dz 12 ((.one (vI y2.2)) :: (.one (vI y2.1)) :: (.one (vB false)) :: dz 16 []), []⟩) z := by
 induction n with
 | zero => intros; rfl
 | succ n ih =>
  intro x3_2 x4_2
  refine Eq.trans (b := Jh (Mu k v KK n) (fun y2 => KK .ret ⟨(.one (.s .ro sta v)) :: (.one .d) :: (.one (vB false)) :: (.one (vI y2.1)) :: (.one (vI y2.2)) :: dz 12 ((.one (vI y2.2)) :: (.one (vI y2.1)) :: (.one (vB true)) :: (.one .d) :: (.one .d) :: (.one (.s .ro sta v)) :: (.one (vI y2.2)) :: (.one (.ptr (.elem 24000 y2.2.toNat 0) 2 0)) :: (.one (.ptr (.elem 24000 y2.2.toNat 0) 2 0)) :: (.one (vI (Af v y2.2).1)) :: (.one (.s .ro sta v)) :: (.one (vI y2.1)) :: (.one (.ptr (.elem 29000 y2.1.toNat 0) 2 0)) :: (.one (.ptr (.elem 29000 y2.1.toNat 0) 2 0)) :: (.one (vI (Af v y2.1).1)) :: (.one (vB true)) :: dz 3 []), [eM 24000 (.s .ro sta v), eM 29000 (.s .ro sta v)]⟩) (fun y2 => KK (.exit 2) ⟨(.one (.s .ro sta v)) :: (.one .d) :: (.one .d) :: (.one (vI y2.1)) :: (.one (vI y2.2)) :: dz 12 ((.one (vI y2.2)) :: (.one (vI y2.1)) :: (.one (vB false)) :: dz 16 []), []⟩) k v x3_2 x4_2) (by kernel_rfl) ?_
  rw [Ig]
  simp only [Jh, z1, z2, z3, z4, z5, z6, z7, z8, ih]
def Xke (v : Ab) (x3_0 : Int) : St := ⟨(.one (.s .ro sta v)) :: (.one .d) :: (.one .d) :: (.one (vI x3_0)) :: dz 32 [], []⟩
noncomputable def Oc {β : Type} (k : Nat) (v : Ab) (K : KT β) (n : Nat) (x3_0 : Int) : Option β := A6 (D7 k) Try.f19 [1, 0, 1, 0] 0 (Ak (D7 k) [1, 0, 1, 0] (Al Try.f19) 0 (Yi k v K)) n (Xke v x3_0)
def I8 (k : Nat) (v : Ab) : Nat → Int → Option (Bool)
 | 0, _ => none
 | n + 1, x3_0 => cond (decide (x3_0 < (v.length : Int))) (A2 x3_0 v ((F38 k (Af v x3_0)).bind fun b1 => cond (!b1) (some false) ((Ig k v k x3_0 0).bind fun z2 => Z3 (fun y2 => some false) (fun y2 => I8 k v n (i64.wrap (y2.1 + 1))) z2))) (some (decide ((v.length : Int) ≤ 5)))
theorem Sf {β : Type} (k n : Nat) (v : Ab) (y2 : Int × Int) (K : KT β) :
  (Ak (D7 k) [1, 0, 0, 1, 1, 0] (B0 [1, 0, 1, 0, 0] (Al Try.f19)) 0 (Il (D7 k) Try.f19 [1, 0, 1, 0] 0 (Ak (D7 k) [1, 0, 1, 0] (Al Try.f19) 0 (Yi k v K)) n)) .ret ⟨(.one (.s .ro sta v)) :: (.one .d) :: (.one (vB false)) :: (.one (vI y2.1)) :: (.one (vI y2.2)) :: dz 12 ((.one (vI y2.2)) :: (.one (vI y2.1)) :: (.one (vB true)) :: (.one .d) :: (.one .d) :: (.one (.s .ro sta v)) :: (.one (vI y2.2)) :: (.one (.ptr (.elem 24000 y2.2.toNat 0) 2 0)) :: (.one (.ptr (.elem 24000 y2.2.toNat 0) 2 0)) :: (.one (vI (Af v y2.2).1)) :: (.one (.s .ro sta v)) :: (.one (vI y2.1)) :: (.one (.ptr (.elem 29000 y2.1.toNat 0) 2 0)) :: (.one (.ptr (.elem 29000 y2.1.toNat 0) 2 0)) :: (.one (vI (Af v y2.1).1)) :: (.one (vB true)) :: dz 3 []), [eM 24000 (.s .ro sta v), eM 29000 (.s .ro sta v)]⟩ =
  K (F19_O.put false) := by kernel_rfl
theorem Sp {β : Type} (k n : Nat) (v : Ab) (y2 : Int × Int) (K : KT β) :
  (Ak (D7 k) [1, 0, 0, 1, 1, 0] (B0 [1, 0, 1, 0, 0] (Al Try.f19)) 0 (Il (D7 k) Try.f19 [1, 0, 1, 0] 0 (Ak (D7 k) [1, 0, 1, 0] (Al Try.f19) 0 (Yi k v K)) n)) (.exit 2) ⟨(.one (.s .ro sta v)) :: (.one .d) :: (.one .d) :: (.one (vI y2.1)) :: (.one (vI y2.2)) :: dz 12 ((.one (vI y2.2)) :: (.one (vI y2.1)) :: (.one (vB false)) :: dz 16 []), []⟩ =
  Oc k v K n (i64.wrap (y2.1 + 1)) := by kernel_rfl
theorem Xaq {β : Type} (k : Nat) (v : Ab) (K : KT β) (n : Nat) : ∀ (x3_0 : Int), Oc k v K n x3_0 =
  (I8 k v n x3_0).bind fun r => K (F19_O.put r) := by
 induction n with
 | zero => intros; rfl
 | succ n ih =>
  intro x3_0
  refine Eq.trans (b := cond (decide (x3_0 < (v.length : Int))) (A2 x3_0 v ((F38 k (Af v x3_0)).bind fun b1 => cond (!b1) (K (F19_O.put false)) (Mu k v (Ak (D7 k) [1, 0, 0, 1, 1, 0] (B0 [1, 0, 1, 0, 0] (Al Try.f19)) 0 (Il (D7 k) Try.f19 [1, 0, 1, 0] 0 (Ak (D7 k) [1, 0, 1, 0] (Al Try.f19) 0 (Yi k v K)) n)) k x3_0 0))) (K (F19_O.put (decide ((v.length : Int) ≤ 5))))) (by kernel_rfl) ?_
  rw [I8]
  simp only [z1, z2, z3, z4, z5, z6, z7, z8, Ys, Sf k n v _ K, Sp k n v _ K, ih, A2, Dv]
def Xba {β : Type} (LP0 : Int → Option β) (k : Nat) (v : Ab) : Option β := LP0 0
def F19 (k : Nat) (v : Ab) : Option (Bool) := Xba (I8 k v k) k v
theorem Xns {β : Type} (k : Nat) (v : Ab) (K : KT β) : Ag (D7 k) Try.f19 (PsT.put Xdj (v, ())) K = (F19 k v).bind fun r => K (F19_O.put r) :=
 Eq.trans (b := Xba (Oc k v K k) k v) (by kernel_rfl) (by simp only [F19, Xba, z1, z2, z3, z4, z5, z6, z7, z8, Xaq])
def Xhq (k : Nat) : FD := ⟨19, Xdj, F19_O, F19 k⟩
theorem Xsm (k : Nat) : (Xhq k).Ok Try.prog := ⟨fun x => Ad (Ai (Aj (.c (Xix k) .n)) _ _ _ _) Ah Try.func19 rfl rfl (Xns k _ some), .of (by kernel_rfl)⟩
abbrev Xtb (k : Nat) : Env := Bc (A1 [F1 k]) Ap .own [] k
abbrev Xhz : List PA := [.agg (.pair mI J1)]
abbrev F20_O : RO := ⟨[.v], [mB]⟩
def Vj {β : Type} (RET : Bool → Option β) (k : Nat) (v : (den An)) : Option β := Aw v fun v0 v1 v2 v3 v4 v5 v6 v7 v8 => (Ki k v0 0 65535).bind fun b1 => cond (!b1) (RET false) ((Ki k v1 0 65535).bind fun b2 => cond (!b2) (RET false) ((Ki k v2 0 255).bind fun b3 => cond (!b3) (RET false) ((Ki k v3 0 255).bind fun b4 => cond (!b4) (RET false) ((Ki k v4 0 255).bind fun b5 => cond (!b5) (RET false) ((Ki k v5 0 255).bind fun b6 => cond (!b6) (RET false) (cond (decide ((v8.length : Int) ≤ 48)) (cond (!v6) (cond (!v7) (RET true) (cond (v5 == 0) (RET (!v6)) (RET false))) (cond (decide ((v8.length : Int) > 0)) (cond (!v7) (RET true) (cond (v5 == 0) (RET (!v6)) (RET false))) (RET false))) (RET false)))))))
def F20 := Vj (β := Bool) some
theorem Xph {β : Type} (k : Nat) (v : (den An)) (K : KT β) : Ag (Xtb k) Try.f20 (PsT.put Xhz (v, ())) K = (F20 k v).bind fun r => K (F20_O.put r) :=
 Eq.trans (b := Vj (fun r => K (F20_O.put r)) k v) (by kernel_rfl) (by simp only [F20, Vj, z1, z2, z3, z4, z5, z6, z7, z8, Aw])
def Qq (k : Nat) : FD := ⟨20, Xhz, F20_O, F20 k⟩
theorem S4 (k : Nat) : (Qq k).Ok Try.prog := ⟨fun x => Ad (Ai (Aj (.c (Hy k) .n)) _ _ _ _) Ah Try.func20 rfl rfl (Xph k _ some), .of (by kernel_rfl)⟩
abbrev Xqq (k : Nat) : Env := Bc Bp Ap .own [] k
abbrev Xi1 : List PA := [.agg (.pair mI J1)]
abbrev F39_O : RO := ⟨[.a], [.pair mI m_7]⟩
def F39 (k : Nat) (v : (den An)) : Option ((den An)) := Aw v fun v0 v1 v2 v3 v4 v5 v6 v7 v8 => Dv (([] : Ac).length) (v8.length) 1 (some (v0, v1, v2, v3, v4, v5, v6, v7, [] ++ v8))
theorem Xlu {β : Type} (k : Nat) (v : (den An)) (K : KT β) : Ag (Xqq k) Try.f39 (PsT.put Xi1 (v, ())) K = (F39 k v).bind fun r => K (F39_O.put r) :=
 Eq.trans (b := Dv (([] : Ac).length) (v.2.2.2.2.2.2.2.2.length) 1 (K (F39_O.put (v.1, v.2.1, v.2.2.1, v.2.2.2.1, v.2.2.2.2.1, v.2.2.2.2.2.1, v.2.2.2.2.2.2.1, v.2.2.2.2.2.2.2.1, [] ++ v.2.2.2.2.2.2.2.2)))) (by kernel_rfl) (by simp only [F39, z1, z2, z3, z4, z5, z6, z7, z8, Aw])
def Xh7 (k : Nat) : FD := ⟨39, Xi1, F39_O, F39 k⟩
theorem Xr3 (k : Nat) : (Xh7 k).Ok Try.prog := ⟨fun x => Ad (Ai .none _ _ _ _) Ah Try.func39 rfl rfl (Xlu k _ some), .of (by kernel_rfl)⟩
def Xq0 : Nat → Hint
 | 0 => ⟨pl 0 1 ((5, .own .own (.int .u8) []) :: (pl 6 1 [])), []⟩
 | _ => ⟨[], []⟩
abbrev Vk (k : Nat) : Env := Bc (A1 [F1 k]) Xq0 .own [] k
abbrev Xdb : List PA := [.one mI, .one mI]
abbrev F77_O : RO := ⟨[.v], [.sl .own (.int .u8)]⟩
noncomputable def Xsq {β : Type} (k : Nat) (v w : Int) (K : KT β) : Ex → St → Option β := Bz (Vk k) Try.f77 (PsT.put Xdb (v, w, ())) K
def Xk1 (v w : Int) (x6_0 : Int) (m5900_0 : Ac) : St := ⟨(.one (vI v)) :: dz 4 ((.one (.a (.cell 5900) 0 0 none)) :: (.one (vI x6_0)) :: dz 30 []), [eM 5900 (.s .own (.int .u8) m5900_0)]⟩
noncomputable def Mr {β : Type} (k : Nat) (v w : Int) (K : KT β) (n : Nat) (x6_0 : Int) (m5900_0 : Ac) : Option β := A6 (Vk k) Try.f77 [1, 1, 1, 0, 1, 0] 0 (Ak (Vk k) [1, 1, 1, 0, 1, 0] (Al Try.f77) 0 (Xsq k v w K)) n (Xk1 v w x6_0 m5900_0)
def Es {β : Type} (NX : Int → Ac → Option β) (RET : Ac → Option β) (k : Nat) (v w : Int) (x6_0 : Int) (m5900_0 : Ac) : Option β := cond (decide (x6_0 ≥ 0)) (cond (decide ((i64.wrap (8 * x6_0)) < 0)) none (Dv (m5900_0.length) ([u8.wrap ((v.fdiv (2 ^ (min (i64.wrap (8 * x6_0)).toNat 64))).tmod 256)].length) 1 (NX (i64.wrap (x6_0 - 1)) (m5900_0 ++ [u8.wrap ((v.fdiv (2 ^ (min (i64.wrap (8 * x6_0)).toNat 64))).tmod 256)])))) (RET m5900_0)
def G9 (k : Nat) (v w : Int) : Nat → Int → Ac → Option (Ac)
 | 0, _, _ => none
 | n + 1, x6_0, m5900_0 => Es (G9 k v w n) some k v w x6_0 m5900_0
theorem Xag {β : Type} (k : Nat) (v w : Int) (K : KT β) (n : Nat) : ∀ (x6_0 : Int) (m5900_0 : Ac), Mr k v w K n x6_0 m5900_0 =
  (G9 k v w n x6_0 m5900_0).bind fun r => K (F77_O.put r) := by
 induction n with
 | zero => intros; rfl
 | succ n ih =>
  intro x6_0 m5900_0
  refine Eq.trans (b := Es (Mr k v w K n) (fun r => K (F77_O.put r)) k v w x6_0 m5900_0) (by kernel_rfl) ?_
  rw [G9]
  simp only [Es, z1, z2, z3, z4, z5, z6, z7, z8, ih]
def V8 {β : Type} (LP0 : Int → Ac → Option β) (RET : Ac → Option β) (k : Nat) (v w : Int) : Option β := (Ki k w 1 4).bind fun b1 => cond (!b1) (RET []) (cond (decide ((i64.wrap (8 * w)) < 0)) none ((Ki k v 0 (i64.wrap ((i64.wrap (1 * 2 ^ (min (i64.wrap (8 * w)).toNat 64))) - 1))).bind fun b2 => cond (!b2) (RET []) (LP0 (i64.wrap (w - 1)) [])))
def F77 (k : Nat) (v w : Int) : Option (Ac) := V8 (G9 k v w k) some k v w
theorem Xm1 {β : Type} (k : Nat) (v w : Int) (K : KT β) : Ag (Vk k) Try.f77 (PsT.put Xdb (v, w, ())) K = (F77 k v w).bind fun r => K (F77_O.put r) :=
 Eq.trans (b := V8 (Mr k v w K k) (fun r => K (F77_O.put r)) k v w) (by kernel_rfl) (by simp only [F77, V8, z1, z2, z3, z4, z5, z6, z7, z8, Xag])
def Yn (k : Nat) : FD := ⟨77, Xdb, F77_O, F77 k⟩
theorem Xa7 (k : Nat) : (Yn k).Ok Try.prog := ⟨fun x => Ad (Ai (Aj (.c (Hy k) .n)) _ _ _ _) Ah Try.func77 rfl rfl (Xm1 k _ _ some), .of (by kernel_rfl)⟩
abbrev Xs4 (k : Nat) : Env := Bc Bp Ap .own [] k
abbrev Xh9 : List PA := [.agg (.pair mI J1)]
abbrev F89_O : RO := ⟨[.v], [mI]⟩
def F89 (k : Nat) (v : (den An)) : Option (Int) := cond v.2.2.2.2.2.2.1 (cond v.2.2.2.2.2.2.2.1 (some 3) (some 1)) (cond v.2.2.2.2.2.2.2.1 (some 2) (some 0))
theorem Xk0 {β : Type} (k : Nat) (v : (den An)) (K : KT β) : Ag (Xs4 k) Try.f89 (PsT.put Xh9 (v, ())) K = (F89 k v).bind fun r => K (F89_O.put r) :=
 Eq.trans (b := cond v.2.2.2.2.2.2.1 (cond v.2.2.2.2.2.2.2.1 (K (F89_O.put 3)) (K (F89_O.put 1))) (cond v.2.2.2.2.2.2.2.1 (K (F89_O.put 2)) (K (F89_O.put 0)))) (by kernel_rfl) (by simp only [F89, z1, z2, z3, z4, z5, z6, z7, z8, Aw])
def Xi4 (k : Nat) : FD := ⟨89, Xh9, F89_O, F89 k⟩
theorem Xuw (k : Nat) : (Xi4 k).Ok Try.prog := ⟨fun x => Ad (Ai .none _ _ _ _) Ah Try.func89 rfl rfl (Xk0 k _ some), .of (by kernel_rfl)⟩
abbrev Xq6 (k : Nat) : Env := Bc (A1 [Yn k, Xi4 k]) Ap .own [] k
abbrev Xjb : List PA := [.agg (.pair mI J1)]
abbrev F76_O : RO := ⟨[.v], [.sl .own (.int .u8)]⟩
def Wd {β : Type} (RET : Ac → Option β) (k : Nat) (v : (den An)) : Option β := Aw v fun v0 v1 v2 v3 v4 v5 _ _ v8 => (F77 k v0 2).bind fun b1 => (F77 k v1 2).bind fun b2 => Dv (b1.length) (b2.length) 1 ((F89 k v).bind fun b3 => Dv ((b1 ++ b2).length) ([u8.wrap v2, u8.wrap v3, u8.wrap v4, u8.wrap v5, u8.wrap b3, u8.wrap (v8.length : Int)].length) 1 (RET ((b1 ++ b2) ++ [u8.wrap v2, u8.wrap v3, u8.wrap v4, u8.wrap v5, u8.wrap b3, u8.wrap (v8.length : Int)])))
def F76 := Wd (β := Ac) some
theorem Xl9 {β : Type} (k : Nat) (v : (den An)) (K : KT β) : Ag (Xq6 k) Try.f76 (PsT.put Xjb (v, ())) K = (F76 k v).bind fun r => K (F76_O.put r) :=
 Eq.trans (b := Wd (fun r => K (F76_O.put r)) k v) (by kernel_rfl) (by simp only [F76, Wd, z1, z2, z3, z4, z5, z6, z7, z8, Aw])
def Xgh (k : Nat) : FD := ⟨76, Xjb, F76_O, F76 k⟩
theorem Xry (k : Nat) : (Xgh k).Ok Try.prog := ⟨fun x => Ad (Ai (Aj (.c (Xa7 k) (.c (Xuw k) .n))) _ _ _ _) Ah Try.func76 rfl rfl (Xl9 k _ some), .of (by kernel_rfl)⟩
def Xp6 : Nat → Hint
 | 0 => ⟨pl 0 1 (pl 3 2 []), []⟩
 | _ => ⟨[], []⟩
abbrev Xu (k : Nat) : Env := Bc Bp Xp6 .own [] k
abbrev Xdn : List PA := [.one (.sl .ro (.int .u8))]
abbrev F90_O : RO := ⟨[.v], [mI]⟩
noncomputable def Xp3 {β : Type} (k : Nat) (v : Ac) (K : KT β) : Ex → St → Option β := Bz (Xu k) Try.f90 (PsT.put Xdn (v, ())) K
def Xnn (v : Ac) (x3_0 x4_0 : Int) : St := ⟨(.one (.s .ro (.int .u8) v)) :: (.one .d) :: (.one .d) :: (.one (vI x3_0)) :: (.one (vI x4_0)) :: dz 29 [], []⟩
noncomputable def M0 {β : Type} (k : Nat) (v : Ac) (K : KT β) (n : Nat) (x3_0 x4_0 : Int) : Option β := A6 (Xu k) Try.f90 [1, 1, 0, 1, 0] 0 (Ak (Xu k) [1, 1, 0, 1, 0] (Al Try.f90) 0 (Xp3 k v K)) n (Xnn v x3_0 x4_0)
def Er {β : Type} (NX : Int → Int → Option β) (RET : Int → Option β) (k : Nat) (v : Ac) (x3_0 x4_0 : Int) : Option β := cond (decide (x4_0 < (v.length : Int))) (cond ((x4_0.tmod 2) == 0) (A2 x4_0 v (cond (decide ((i64.wrap (x3_0 + (i64.wrap ((i64.wrap (Af v x4_0)) * 256)))) > 65535)) (NX (i64.wrap ((i64.wrap (x3_0 + (i64.wrap ((i64.wrap (Af v x4_0)) * 256)))) - 65535)) (i64.wrap (x4_0 + 1))) (NX (i64.wrap (x3_0 + (i64.wrap ((i64.wrap (Af v x4_0)) * 256)))) (i64.wrap (x4_0 + 1))))) (A2 x4_0 v (cond (decide ((i64.wrap (x3_0 + (i64.wrap (Af v x4_0)))) > 65535)) (NX (i64.wrap ((i64.wrap (x3_0 + (i64.wrap (Af v x4_0)))) - 65535)) (i64.wrap (x4_0 + 1))) (NX (i64.wrap (x3_0 + (i64.wrap (Af v x4_0)))) (i64.wrap (x4_0 + 1)))))) (RET x3_0)
def Fe (k : Nat) (v : Ac) : Nat → Int → Int → Option (Int)
 | 0, _, _ => none
 | n + 1, x3_0, x4_0 => Er (Fe k v n) some k v x3_0 x4_0
theorem Xaf {β : Type} (k : Nat) (v : Ac) (K : KT β) (n : Nat) : ∀ (x3_0 x4_0 : Int), M0 k v K n x3_0 x4_0 =
  (Fe k v n x3_0 x4_0).bind fun r => K (F90_O.put r) := by
 induction n with
 | zero => intros; rfl
 | succ n ih =>
  intro x3_0 x4_0
  refine Eq.trans (b := Er (M0 k v K n) (fun r => K (F90_O.put r)) k v x3_0 x4_0) (by kernel_rfl) ?_
  rw [Fe]
  simp only [Er, z1, z2, z3, z4, z5, z6, z7, z8, ih]
def Yl {β : Type} (LP0 : Int → Int → Option β) (k : Nat) (v : Ac) : Option β := LP0 0 0
def F90 (k : Nat) (v : Ac) : Option (Int) := Yl (Fe k v k) k v
theorem Xot {β : Type} (k : Nat) (v : Ac) (K : KT β) : Ag (Xu k) Try.f90 (PsT.put Xdn (v, ())) K = (F90 k v).bind fun r => K (F90_O.put r) :=
 Eq.trans (b := Yl (M0 k v K k) k v) (by kernel_rfl) (by simp only [F90, Yl, z1, z2, z3, z4, z5, z6, z7, z8, Xaf])
def Xgg (k : Nat) : FD := ⟨90, Xdn, F90_O, F90 k⟩
theorem Xu5 (k : Nat) : (Xgg k).Ok Try.prog := ⟨fun x => Ad (Ai .none _ _ _ _) Ah Try.func90 rfl rfl (Xot k _ some), .of (by kernel_rfl)⟩
abbrev Xun (k : Nat) : Env := Bc (A1 [Xgg k]) Ap .own [] k
abbrev Xic : List PA := [.one (.sl .ro (.int .u8))]
abbrev F78_O : RO := ⟨[.v], [mI]⟩
def F78 (k : Nat) (v : Ac) : Option (Int) := (F90 k v).bind fun b1 => some (i64.wrap (65535 - b1))
theorem Xl3 {β : Type} (k : Nat) (v : Ac) (K : KT β) : Ag (Xun k) Try.f78 (PsT.put Xic (v, ())) K = (F78 k v).bind fun r => K (F78_O.put r) :=
 Eq.trans (b := (F90 k v).bind fun b1 => K (F78_O.put (i64.wrap (65535 - b1)))) (by kernel_rfl) (by simp only [F78, z1, z2, z3, z4, z5, z6, z7, z8])
def Xgk (k : Nat) : FD := ⟨78, Xic, F78_O, F78 k⟩
theorem Xsd (k : Nat) : (Xgk k).Ok Try.prog := ⟨fun x => Ad (Ai (Aj (.c (Xu5 k) .n)) _ _ _ _) Ah Try.func78 rfl rfl (Xl3 k _ some), .of (by kernel_rfl)⟩
abbrev Xu3 (k : Nat) : Env := Bc (A1 [Qq k, Xgh k, Xgk k, Yn k]) Ap .own [] k
abbrev Xjz : List PA := [.agg (.pair mI J1)]
abbrev F65_O : RO := ⟨[.v], [.sl .own (.int .u8)]⟩
def W6 {β : Type} (RET : Ac → Option β) (k : Nat) (v : (den An)) : Option β := (F20 k v).bind fun b1 => cond (!b1) (RET []) ((F76 k v).bind fun b2 => (F78 k b2).bind fun b3 => (F77 k b3 2).bind fun b4 => Dv (b2.length) (b4.length) 1 (Dv ((b2 ++ b4).length) (v.2.2.2.2.2.2.2.2.length) 1 (RET ((b2 ++ b4) ++ v.2.2.2.2.2.2.2.2))))
def F65 := W6 (β := Ac) some
theorem Xnc {β : Type} (k : Nat) (v : (den An)) (K : KT β) : Ag (Xu3 k) Try.f65 (PsT.put Xjz (v, ())) K = (F65 k v).bind fun r => K (F65_O.put r) :=
 Eq.trans (b := W6 (fun r => K (F65_O.put r)) k v) (by kernel_rfl) (by simp only [F65, W6, z1, z2, z3, z4, z5, z6, z7, z8, Aw])
def Xij (k : Nat) : FD := ⟨65, Xjz, F65_O, F65 k⟩
theorem Xu6 (k : Nat) : (Xij k).Ok Try.prog := ⟨fun x => Ad (Ai (Aj (.c (S4 k) (.c (Xry k) (.c (Xsd k) (.c (Xa7 k) .n))))) _ _ _ _) Ah Try.func65 rfl rfl (Xnc k _ some), .of (by kernel_rfl)⟩
abbrev Xum (k : Nat) : Env := Bc (A1 [F1 k]) Ap .own [] k
abbrev Xf8 : List PA := [.agg (.pair mI m_8)]
abbrev F79_O : RO := ⟨[.v], [mB]⟩
def Xn {β : Type} (RET : Bool → Option β) (k : Nat) (v : (Int × (Int × Ac))) : Option β := (Ki k v.1 1 6).bind fun b1 => cond b1 ((Ki k v.2.1 0 65535).bind fun b2 => cond b2 (RET (decide ((v.2.2.length : Int) ≤ 20))) (RET false)) (RET false)
def F79 := Xn (β := Bool) some
theorem Xmq {β : Type} (k : Nat) (v : (Int × (Int × Ac))) (K : KT β) : Ag (Xum k) Try.f79 (PsT.put Xf8 (v, ())) K = (F79 k v).bind fun r => K (F79_O.put r) :=
 Eq.trans (b := Xn (fun r => K (F79_O.put r)) k v) (by kernel_rfl) (by simp only [F79, Xn, z1, z2, z3, z4, z5, z6, z7, z8])
def Xdc (k : Nat) : FD := ⟨79, Xf8, F79_O, F79 k⟩
theorem Xik (k : Nat) : (Xdc k).Ok Try.prog := ⟨fun x => Ad (Ai (Aj (.c (Hy k) .n)) _ _ _ _) Ah Try.func79 rfl rfl (Xmq k _ some), .of (by kernel_rfl)⟩
abbrev Xsu (k : Nat) : Env := Bc (A1 [Xdc k, Yn k]) Ap .own [] k
abbrev Xjk : List PA := [.agg (.pair mI m_8)]
abbrev F66_O : RO := ⟨[.v], [.sl .own (.int .u8)]⟩
def Xc {β : Type} (RET : Ac → Option β) (k : Nat) (v : (Int × (Int × Ac))) : Option β := u_2 v fun v0 v1 v2 => (F79 k v).bind fun b1 => cond (!b1) (RET []) ((F77 k v1 2).bind fun b2 => Dv ([u8.wrap v0].length) (b2.length) 1 (Dv (([u8.wrap v0] ++ b2).length) ([u8.wrap (v2.length : Int)].length) 1 (Dv ((([u8.wrap v0] ++ b2) ++ [u8.wrap (v2.length : Int)]).length) (v2.length) 1 (RET ((([u8.wrap v0] ++ b2) ++ [u8.wrap (v2.length : Int)]) ++ v2)))))
def F66 := Xc (β := Ac) some
theorem Xo6 {β : Type} (k : Nat) (v : (Int × (Int × Ac))) (K : KT β) : Ag (Xsu k) Try.f66 (PsT.put Xjk (v, ())) K = (F66 k v).bind fun r => K (F66_O.put r) :=
 Eq.trans (b := Xc (fun r => K (F66_O.put r)) k v) (by kernel_rfl) (by simp only [F66, Xc, z1, z2, z3, z4, z5, z6, z7, z8, u_2])
def Xho (k : Nat) : FD := ⟨66, Xjk, F66_O, F66 k⟩
theorem Xtk (k : Nat) : (Xho k).Ok Try.prog := ⟨fun x => Ad (Ai (Aj (.c (Xik k) (.c (Xa7 k) .n))) _ _ _ _) Ah Try.func66 rfl rfl (Xo6 k _ some), .of (by kernel_rfl)⟩
def Xr0 : Nat → Hint
 | 0 => ⟨pl 0 3 (pl 7 2 []), []⟩
 | _ => ⟨[], []⟩
abbrev Vu (k : Nat) : Env := Bc (A1 [F1 k]) Xr0 .own [] k
abbrev Xed : List PA := [.one (.sl .ro (.int .u8)), .one mI, .one mI]
abbrev F91_O : RO := ⟨[.v], [mI]⟩
noncomputable def Xrn {β : Type} (k : Nat) (v : Ac) (w p : Int) (K : KT β) : Ex → St → Option β := Bz (Vu k) Try.f91 (PsT.put Xed (v, w, p, ())) K
def Xj8 (v : Ac) (w p : Int) (x7_0 x8_0 : Int) : St := ⟨(.one (.s .ro (.int .u8) v)) :: (.one (vI w)) :: (.one (vI p)) :: dz 4 ((.one (vI x7_0)) :: (.one (vI x8_0)) :: dz 28 []), []⟩
noncomputable def Of {β : Type} (k : Nat) (v : Ac) (w p : Int) (K : KT β) (n : Nat) (x7_0 x8_0 : Int) : Option β := A6 (Vu k) Try.f91 [1, 1, 1, 0, 1, 0] 0 (Ak (Vu k) [1, 1, 1, 0, 1, 0] (Al Try.f91) 0 (Xrn k v w p K)) n (Xj8 v w p x7_0 x8_0)
def Ez {β : Type} (NX : Int → Int → Option β) (RET : Int → Option β) (k : Nat) (v : Ac) (w p : Int) (x7_0 x8_0 : Int) : Option β := cond (decide (x8_0 < p)) (A2 (i64.wrap (w + x8_0)) v (NX (i64.wrap ((i64.wrap (x7_0 * 256)) + (i64.wrap (Af v (i64.wrap (w + x8_0)))))) (i64.wrap (x8_0 + 1)))) (RET x7_0)
def Gt (k : Nat) (v : Ac) (w p : Int) : Nat → Int → Int → Option (Int)
 | 0, _, _ => none
 | n + 1, x7_0, x8_0 => Ez (Gt k v w p n) some k v w p x7_0 x8_0
theorem Yz {β : Type} (k : Nat) (v : Ac) (w p : Int) (K : KT β) (n : Nat) : ∀ (x7_0 x8_0 : Int), Of k v w p K n x7_0 x8_0 =
  (Gt k v w p n x7_0 x8_0).bind fun r => K (F91_O.put r) := by
 induction n with
 | zero => intros; rfl
 | succ n ih =>
  intro x7_0 x8_0
  refine Eq.trans (b := Ez (Of k v w p K n) (fun r => K (F91_O.put r)) k v w p x7_0 x8_0) (by kernel_rfl) ?_
  rw [Gt]
  simp only [Ez, z1, z2, z3, z4, z5, z6, z7, z8, ih]
def Wl {β : Type} (LP0 : Int → Int → Option β) (RET : Int → Option β) (k : Nat) (v : Ac) (w p : Int) : Option β := (Ki k p 1 4).bind fun b1 => cond (!b1) (RET (-1)) ((Ki k w 0 (i64.wrap ((v.length : Int) - p))).bind fun b2 => cond (!b2) (RET (-1)) (LP0 0 0))
def F91 (k : Nat) (v : Ac) (w p : Int) : Option (Int) := Wl (Gt k v w p k) some k v w p
theorem Xks {β : Type} (k : Nat) (v : Ac) (w p : Int) (K : KT β) : Ag (Vu k) Try.f91 (PsT.put Xed (v, w, p, ())) K = (F91 k v w p).bind fun r => K (F91_O.put r) :=
 Eq.trans (b := Wl (Of k v w p K k) (fun r => K (F91_O.put r)) k v w p) (by kernel_rfl) (by simp only [F91, Wl, z1, z2, z3, z4, z5, z6, z7, z8, Yz])
def Xju (k : Nat) : FD := ⟨91, Xed, F91_O, F91 k⟩
theorem Xqi (k : Nat) : (Xju k).Ok Try.prog := ⟨fun x => Ad (Ai (Aj (.c (Hy k) .n)) _ _ _ _) Ah Try.func91 rfl rfl (Xks k _ _ _ some), .of (by kernel_rfl)⟩
end
end Go.Proofs.Ytdmepjjepogddaa.Gn
end

section
set_option linter.unusedVariables false
set_option linter.unusedSimpArgs false
namespace Go.Proofs.Ytdmepjjepogddaa.Gn
open Go.Rf IntKind
noncomputable section
abbrev Xsy (k : Nat) : Env := Bc (A1 [Xju k, Xdc k]) Ap .own [] k
abbrev Xja : Type := (Int × (Int × Ac)) × Bool
abbrev Xgm : List PA := [.one (.sl .ro (.int .u8))]
abbrev F80_O : RO := ⟨[.a, .v], [.pair mI m_9, mB]⟩
def Vm {β : Type} (RET : Xja → Option β) (k : Nat) (v : Ac) : Option β := cond (decide ((v.length : Int) < 4)) (RET ((0, 0, []), false)) (cond (decide (0 < (v.length : Int))) ((F91 k v 1 2).bind fun b1 => cond (decide (0 ≤ 4) && decide (4 ≤ (v.length : Int))) (Dv (([] : Ac).length) ((v.drop 4).length) 1 ((F79 k (i64.wrap (Af v 0), b1, [] ++ (v.drop 4))).bind fun b2 => cond (!b2) (RET ((0, 0, []), false)) (cond (decide (3 < (v.length : Int))) (cond ((i64.wrap (Af v 3)) != (([] ++ (v.drop 4)).length : Int)) (RET ((0, 0, []), false)) (RET ((i64.wrap (Af v 0), b1, [] ++ (v.drop 4)), true))) none))) none) none)
def F80 := Vm (β := Xja) some
theorem Xms {β : Type} (k : Nat) (v : Ac) (K : KT β) : Ag (Xsy k) Try.f80 (PsT.put Xgm (v, ())) K = (F80 k v).bind fun r => K (F80_O.put r) :=
 Eq.trans (b := Vm (fun r => K (F80_O.put r)) k v) (by kernel_rfl) (by simp only [F80, Vm, z1, z2, z3, z4, z5, z6, z7, z8])
def Xf9 (k : Nat) : FD := ⟨80, Xgm, F80_O, F80 k⟩
theorem Xup (k : Nat) : (Xf9 k).Ok Try.prog := ⟨fun x => Ad (Ai (Aj (.c (Xqi k) (.c (Xik k) .n))) _ _ _ _) Ah Try.func80 rfl rfl (Xms k _ some), .of (by kernel_rfl)⟩
abbrev Xqv (k : Nat) : Env := Bc (A1 [Xf9 k]) Ap .own [] k
abbrev Xi0 : List PA := [.agg (.pair mI J1)]
abbrev F67_O : RO := ⟨[.v], [mB]⟩
def Wn {β : Type} (RET : Bool → Option β) (k : Nat) (v : (den An)) : Option β := (F80 k v.2.2.2.2.2.2.2.2).bind fun b1 => cond b1.2 (cond (v.2.2.1 == 1) (RET (decide (b1.1.1 ≥ 3))) (RET false)) (RET false)
def F67 := Wn (β := Bool) some
theorem Xn8 {β : Type} (k : Nat) (v : (den An)) (K : KT β) : Ag (Xqv k) Try.f67 (PsT.put Xi0 (v, ())) K = (F67 k v).bind fun r => K (F67_O.put r) :=
 Eq.trans (b := Wn (fun r => K (F67_O.put r)) k v) (by kernel_rfl) (by simp only [F67, Wn, z1, z2, z3, z4, z5, z6, z7, z8, Aw])
def Xj6 (k : Nat) : FD := ⟨67, Xi0, F67_O, F67 k⟩
theorem Xub (k : Nat) : (Xj6 k).Ok Try.prog := ⟨fun x => Ad (Ai (Aj (.c (Xup k) .n)) _ _ _ _) Ah Try.func67 rfl rfl (Xn8 k _ some), .of (by kernel_rfl)⟩
abbrev Xs0 (k : Nat) : Env := Bc (A1 [Xij k, Xho k, Qq k, F1 k, Xj6 k]) Ap .own [] k
abbrev Xj0 : List PA := [.agg (.pair mI J1), .one mI, .one mI, .one mI]
abbrev F52_O : RO := ⟨[.a, .v], [.pair mI m_7, mB]⟩
def Xw {β : Type} (RET : (den An) × Bool → Option β) (k : Nat) (v : (den An)) (w p q : Int) : Option β := (F65 k v).bind fun b1 => cond (decide (0 ≤ (if 20 < (b1.length : Int) then 20 else (b1.length : Int))) && decide ((if 20 < (b1.length : Int) then 20 else (b1.length : Int)) ≤ (b1.length : Int))) ((F66 k (p, q, (b1.take ((if 20 < (b1.length : Int) then 20 else (b1.length : Int)).toNat)).drop 0)).bind fun b2 => (F20 k v).bind fun b3 => cond (!b3) (RET ((0, 0, 0, 0, 0, 0, false, false, []), false)) ((Ki k w 0 65535).bind fun b4 => cond (!b4) (RET ((0, 0, 0, 0, 0, 0, false, false, []), false)) ((Ki k p 3 6).bind fun b5 => cond (!b5) (RET ((0, 0, 0, 0, 0, 0, false, false, []), false)) (cond ((b2.length : Int) == 0) (RET ((0, 0, 0, 0, 0, 0, false, false, []), false)) ((F67 k v).bind fun b6 => cond b6 (RET ((0, 0, 0, 0, 0, 0, false, false, []), false)) (cond (decide (v.2.2.2.2.2.1 > 0)) (RET ((0, 0, 0, 0, 0, 0, false, false, []), false)) (RET ((w, v.1, 1, 64, v.2.2.2.2.1, 0, false, false, b2), true)))))))) none
def F52 := Xw (β := (den An) × Bool) some
theorem Xoa {β : Type} (k : Nat) (v : (den An)) (w p q : Int) (K : KT β) : Ag (Xs0 k) Try.f52 (PsT.put Xj0 (v, w, p, q, ())) K = (F52 k v w p q).bind fun r => K (F52_O.put r) :=
 Eq.trans (b := Xw (fun r => K (F52_O.put r)) k v w p q) (by kernel_rfl) (by simp only [F52, Xw, z1, z2, z3, z4, z5, z6, z7, z8, Aw])
def Xhf (k : Nat) : FD := ⟨52, Xj0, F52_O, F52 k⟩
theorem Xt3 (k : Nat) : (Xhf k).Ok Try.prog := ⟨fun x => Ad (Ai (Aj (.c (Xu6 k) (.c (Xtk k) (.c (S4 k) (.c (Hy k) (.c (Xub k) .n)))))) _ _ _ _) Ah Try.func52 rfl rfl (Xoa k _ _ _ _ some), .of (by kernel_rfl)⟩
abbrev Xta (k : Nat) : Env := Bc (A1 [Xhf k]) Ap .own [] k
abbrev Xgl : List PA := [.agg (.pair mI (.sl .ro Br)), .agg (.pair mI J1), .one mI, .one mI]
abbrev F40_O : RO := ⟨[.a], [Xch]⟩
def F40 (k : Nat) (v : (den sta)) (w : (den An)) (p q : Int) : Option ((den Ma)) := (F52 k w v.1 p q).bind fun b1 => cond (!b1.2) (some (0, 0, [])) (some (3, 0, [b1.1]))
theorem Xm9 {β : Type} (k : Nat) (v : (den sta)) (w : (den An)) (p q : Int) (K : KT β) : Ag (Xta k) Try.f40 (PsT.put Xgl (v, w, p, q, ())) K = (F40 k v w p q).bind fun r => K (F40_O.put r) :=
 Eq.trans (b := (F52 k w v.1 p q).bind fun b1 => cond (!b1.2) (K (F40_O.put (0, 0, []))) (K (F40_O.put (3, 0, [b1.1])))) (by kernel_rfl) (by simp only [F40, z1, z2, z3, z4, z5, z6, z7, z8, Aw])
def Xg4 (k : Nat) : FD := ⟨40, Xgl, F40_O, F40 k⟩
theorem Xuq (k : Nat) : (Xg4 k).Ok Try.prog := ⟨fun x => Ad (Ai (Aj (.c (Xt3 k) .n)) _ _ _ _) Ah Try.func40 rfl rfl (Xm9 k _ _ _ _ some), .of (by kernel_rfl)⟩
abbrev Xso (k : Nat) : Env := Bc (A1 [Xd4 k, F1 k, Xcg k]) Ap .own [] k
abbrev Xig : List PA := [.agg m_4, .one mI]
abbrev F53_O : RO := ⟨[.v], [mB]⟩
def Xo {β : Type} (RET : Bool → Option β) (k : Nat) (v : (den Br)) (w : Int) : Option β := (F64 k v).bind fun b1 => cond b1 ((Ki k w 0 65535).bind fun b2 => cond b2 ((F68 k v.2.1).bind fun b3 => cond (decide (b3 = 0)) none ((F68 k v.2.1).bind fun b4 => cond (decide (b4 = 0)) none (RET ((i64.wrap (w.tdiv b3)) == (i64.wrap (v.1.tdiv b4)))))) (RET false)) (RET false)
def F53 := Xo (β := Bool) some
theorem Xmp {β : Type} (k : Nat) (v : (den Br)) (w : Int) (K : KT β) : Ag (Xso k) Try.f53 (PsT.put Xig (v, w, ())) K = (F53 k v w).bind fun r => K (F53_O.put r) :=
 Eq.trans (b := Xo (fun r => K (F53_O.put r)) k v w) (by kernel_rfl) (by simp only [F53, Xo, z1, z2, z3, z4, z5, z6, z7, z8, Ey])
def Xif (k : Nat) : FD := ⟨53, Xig, F53_O, F53 k⟩
theorem Xrx (k : Nat) : (Xif k).Ok Try.prog := ⟨fun x => Ad (Ai (Aj (.c (Xiw k) (.c (Hy k) (.c (Xi7 k) .n)))) _ _ _ _) Ah Try.func53 rfl rfl (Xmp k _ _ some), .of (by kernel_rfl)⟩
def Xrc : Nat → Hint
 | 0 => ⟨pl 0 2 (pl 4 1 (pl 6 1 [])), pl 4000 4 []⟩
 | _ => ⟨[], []⟩
abbrev Ww (k : Nat) : Env := Bc (A1 [Xen k, Xif k]) Xrc .own [] k
abbrev Xdo : List PA := [.one (.sl .ro Br), .one mI]
abbrev F41_O : RO := ⟨[.a, .v], [m_4, mB]⟩
noncomputable def Xrv {β : Type} (k : Nat) (v : Ar) (w : Int) (K : KT β) : Ex → St → Option β := Bz (Ww k) Try.f41 (PsT.put Xdo (v, w, ())) K
def Xoo (v : Ar) (w : Int) (x6_0 : Int) : St := ⟨(.one (.s .ro Br v)) :: (.one (vI w)) :: (.one .d) :: (.one .d) :: (.one (.ptr (.cell 4000) 4 0)) :: (.one .d) :: (.one (vI x6_0)) :: dz 22 [], Cf 4000 (Jf m_4 (0, 0, 0, 0)) []⟩
noncomputable def M7 {β : Type} (k : Nat) (v : Ar) (w : Int) (K : KT β) (n : Nat) (x6_0 : Int) : Option β := A6 (Ww k) Try.f41 [1, 0, 1, 0] 0 (Ak (Ww k) [1, 0, 1, 0] (Al Try.f41) 0 (Xrv k v w K)) n (Xoo v w x6_0)
def G3 {β : Type} (NX : Int → Option β) (RET : (den Br) × Bool → Option β) (k : Nat) (v : Ar) (w : Int) (x6_0 : Int) : Option β := cond (decide (x6_0 ≥ 0)) ((F51 k v).bind fun b1 => cond b1 (A2 x6_0 v ((F53 k (Af v x6_0) w).bind fun b2 => cond b2 (A2 x6_0 v (RET ((Af v x6_0), true))) (NX (i64.wrap (x6_0 - 1))))) (RET ((0, 0, 0, 0), false))) (RET ((0, 0, 0, 0), false))
def Ih (k : Nat) (v : Ar) (w : Int) : Nat → Int → Option ((den Br) × Bool)
 | 0, _ => none
 | n + 1, x6_0 => G3 (Ih k v w n) some k v w x6_0
theorem Zh {β : Type} (k : Nat) (v : Ar) (w : Int) (K : KT β) (n : Nat) : ∀ (x6_0 : Int), M7 k v w K n x6_0 =
  (Ih k v w n x6_0).bind fun r => K (F41_O.put r) := by
 induction n with
 | zero => intros; rfl
 | succ n ih =>
  intro x6_0
  refine Eq.trans (b := G3 (M7 k v w K n) (fun r => K (F41_O.put r)) k v w x6_0) (by kernel_rfl) ?_
  rw [Ih]
  simp only [G3, z1, z2, z3, z4, z5, z6, z7, z8, ih]
def Wb {β : Type} (LP0 : Int → Option β) (k : Nat) (v : Ar) (w : Int) : Option β := LP0 (i64.wrap ((v.length : Int) - 1))
def F41 (k : Nat) (v : Ar) (w : Int) : Option ((den Br) × Bool) := Wb (Ih k v w k) k v w
theorem Xpl {β : Type} (k : Nat) (v : Ar) (w : Int) (K : KT β) : Ag (Ww k) Try.f41 (PsT.put Xdo (v, w, ())) K = (F41 k v w).bind fun r => K (F41_O.put r) :=
 Eq.trans (b := Wb (M7 k v w K k) k v w) (by kernel_rfl) (by simp only [F41, Wb, z1, z2, z3, z4, z5, z6, z7, z8, Zh])
def Xhp (k : Nat) : FD := ⟨41, Xdo, F41_O, F41 k⟩
theorem Xrh (k : Nat) : (Xhp k).Ok Try.prog := ⟨fun x => Ad (Ai (Aj (.c (Xga k) (.c (Xrx k) .n))) _ _ _ _) Ah Try.func41 rfl rfl (Xpl k _ _ some), .of (by kernel_rfl)⟩
def Xt1 : Nat → Hint
 | 0 => ⟨pl 1 2 ((6, .own .own An []) :: (pl 7 1 [])), pl 2000 9 []⟩
 | _ => ⟨[], []⟩
abbrev Xq (k : Nat) : Env := Bc (A1 [Qq k, F1 k]) Xt1 .own [] k
abbrev Xcv : List PA := [.agg (.pair mI J1), .one mI]
abbrev F42_O : RO := ⟨[.v, .v], [.sl .own An, mB]⟩
noncomputable def Xsk {β : Type} (k : Nat) (v : (den An)) (w : Int) (K : KT β) : Ex → St → Option β := Bz (Xq k) Try.f42 (PsT.put Xcv (v, w, ())) K
def Xo8 (v : (den An)) (w : Int) (x7_0 : Int) (m6900_0 : Ae) : St := ⟨(.one .d) :: (.one (vI w)) :: (.one (.ptr (.cell 2000) 9 0)) :: dz 3 ((.one (.a (.cell 6900) 0 0 none)) :: (.one (vI x7_0)) :: dz 75 []), Cf 2000 (Jf (.pair mI J1) v) [eM 6900 (.s .own An m6900_0)]⟩
noncomputable def Oh {β : Type} (k : Nat) (v : (den An)) (w : Int) (K : KT β) (n : Nat) (x7_0 : Int) (m6900_0 : Ae) : Option β := A6 (Xq k) Try.f42 [1, 1, 1, 0, 1, 0] 0 (Ak (Xq k) [1, 1, 1, 0, 1, 0] (Al Try.f42) 0 (Xsk k v w K)) n (Xo8 v w x7_0 m6900_0)
def Ev {β : Type} (k : Nat) (v : (den An)) (w : Int) (NX : Int → Ae → Option β) (RET : (Ae × Bool) → Option β) (x7_0 : Int) (m6900_0 : Ae) : Option β := Aw v fun v0 v1 v2 v3 v4 v5 v6 v7 v8 => cond v6 (cond (decide (0 ≤ (if (v8.length : Int) < (i64.wrap (x7_0 + w)) then (v8.length : Int) else i64.wrap (x7_0 + w))) && decide ((if (v8.length : Int) < (i64.wrap (x7_0 + w)) then (v8.length : Int) else i64.wrap (x7_0 + w)) ≤ (v8.length : Int))) (cond (decide (0 ≤ x7_0) && decide (x7_0 ≤ (if (v8.length : Int) < (i64.wrap (x7_0 + w)) then (v8.length : Int) else i64.wrap (x7_0 + w)))) (Dv (([] : Ac).length) (((v8.take ((if (v8.length : Int) < (i64.wrap (x7_0 + w)) then (v8.length : Int) else i64.wrap (x7_0 + w)).toNat)).drop x7_0.toNat).length) 1 (cond (decide ((i64.wrap (v5 + x7_0)) > 255)) (RET ([], false)) (Dv (m6900_0.length) ([(v0, v1, v2, v3, v4, i64.wrap (v5 + x7_0), true, v7, [] ++ ((v8.take ((if (v8.length : Int) < (i64.wrap (x7_0 + w)) then (v8.length : Int) else i64.wrap (x7_0 + w)).toNat)).drop x7_0.toNat))].length) 80 (NX (i64.wrap (x7_0 + w)) (m6900_0 ++ [(v0, v1, v2, v3, v4, i64.wrap (v5 + x7_0), true, v7, [] ++ ((v8.take ((if (v8.length : Int) < (i64.wrap (x7_0 + w)) then (v8.length : Int) else i64.wrap (x7_0 + w)).toNat)).drop x7_0.toNat))]))))) none) none) (cond (decide (0 ≤ (if (v8.length : Int) < (i64.wrap (x7_0 + w)) then (v8.length : Int) else i64.wrap (x7_0 + w))) && decide ((if (v8.length : Int) < (i64.wrap (x7_0 + w)) then (v8.length : Int) else i64.wrap (x7_0 + w)) ≤ (v8.length : Int))) (cond (decide (0 ≤ x7_0) && decide (x7_0 ≤ (if (v8.length : Int) < (i64.wrap (x7_0 + w)) then (v8.length : Int) else i64.wrap (x7_0 + w)))) (Dv (([] : Ac).length) (((v8.take ((if (v8.length : Int) < (i64.wrap (x7_0 + w)) then (v8.length : Int) else i64.wrap (x7_0 + w)).toNat)).drop x7_0.toNat).length) 1 (cond (decide ((i64.wrap (v5 + x7_0)) > 255)) (RET ([], false)) (Dv (m6900_0.length) ([(v0, v1, v2, v3, v4, i64.wrap (v5 + x7_0), decide ((if (v8.length : Int) < (i64.wrap (x7_0 + w)) then (v8.length : Int) else i64.wrap (x7_0 + w)) < (v8.length : Int)), v7, [] ++ ((v8.take ((if (v8.length : Int) < (i64.wrap (x7_0 + w)) then (v8.length : Int) else i64.wrap (x7_0 + w)).toNat)).drop x7_0.toNat))].length) 80 (NX (i64.wrap (x7_0 + w)) (m6900_0 ++ [(v0, v1, v2, v3, v4, i64.wrap (v5 + x7_0), decide ((if (v8.length : Int) < (i64.wrap (x7_0 + w)) then (v8.length : Int) else i64.wrap (x7_0 + w)) < (v8.length : Int)), v7, [] ++ ((v8.take ((if (v8.length : Int) < (i64.wrap (x7_0 + w)) then (v8.length : Int) else i64.wrap (x7_0 + w)).toNat)).drop x7_0.toNat))]))))) none) none)
def Fv {β : Type} (NX : Int → Ae → Option β) (RET : (Ae × Bool) → Option β) (k : Nat) (v : (den An)) (w : Int) (x7_0 : Int) (m6900_0 : Ae) : Option β := cond (x7_0 == 0) (Ev k v w NX RET x7_0 m6900_0) (cond (decide (x7_0 < (v.2.2.2.2.2.2.2.2.length : Int))) (Ev k v w NX RET x7_0 m6900_0) (RET (m6900_0, true)))
def Fl (k : Nat) (v : (den An)) (w : Int) : Nat → Int → Ae → Option (Ae × Bool)
 | 0, _, _ => none
 | n + 1, x7_0, m6900_0 => Fv (Fl k v w n) some k v w x7_0 m6900_0
theorem Yw {β : Type} (k : Nat) (v : (den An)) (w : Int) (K : KT β) (n : Nat) : ∀ (x7_0 : Int) (m6900_0 : Ae), Oh k v w K n x7_0 m6900_0 =
  (Fl k v w n x7_0 m6900_0).bind fun r => K (F42_O.put r) := by
 induction n with
 | zero => intros; rfl
 | succ n ih =>
  intro x7_0 m6900_0
  refine Eq.trans (b := Fv (Oh k v w K n) (fun r => K (F42_O.put r)) k v w x7_0 m6900_0) (by kernel_rfl) ?_
  rw [Fl]
  simp only [Fv, Ev, z1, z2, z3, z4, z5, z6, z7, z8, Aw, ih]
def Wa {β : Type} (LP0 : Int → Ae → Option β) (RET : (Ae × Bool) → Option β) (k : Nat) (v : (den An)) (w : Int) : Option β := (F20 k v).bind fun b1 => cond (!b1) (RET ([], false)) ((Ki k w 1 48).bind fun b2 => cond (!b2) (RET ([], false)) (cond (decide ((v.2.2.2.2.2.2.2.2.length : Int) > w)) (cond v.2.2.2.2.2.2.2.1 (RET ([], false)) (LP0 0 [])) (LP0 0 [])))
def F42 (k : Nat) (v : (den An)) (w : Int) : Option (Ae × Bool) := Wa (Fl k v w k) some k v w
theorem Xmi {β : Type} (k : Nat) (v : (den An)) (w : Int) (K : KT β) : Ag (Xq k) Try.f42 (PsT.put Xcv (v, w, ())) K = (F42 k v w).bind fun r => K (F42_O.put r) :=
 Eq.trans (b := Wa (Oh k v w K k) (fun r => K (F42_O.put r)) k v w) (by kernel_rfl) (by simp only [F42, Wa, z1, z2, z3, z4, z5, z6, z7, z8, Aw, Yw])
def Xh8 (k : Nat) : FD := ⟨42, Xcv, F42_O, F42 k⟩
theorem Xr8 (k : Nat) : (Xh8 k).Ok Try.prog := ⟨fun x => Ad (Ai (Aj (.c (S4 k) (.c (Hy k) .n))) _ _ _ _) Ah Try.func42 rfl rfl (Xmi k _ _ some), .of (by kernel_rfl)⟩
abbrev Xut (k : Nat) : Env := Bc (A1 [Xc8 k, Qq k, Xh7 k, Xg4 k, Xhp k, Xh8 k]) Ap .own [] k
abbrev Xjp : List PA := [.agg (.pair mI (.sl .ro Br)), .agg (.pair mI J1)]
abbrev F22_O : RO := ⟨[.a], [Xch]⟩
def N3 {β : Type} (k : Nat) (v : (den sta)) (w : (den An)) (RET : (den Ma) → Option β) (b5 : (den Br) × Bool) : Option β := (F39 k w).bind fun b8 => (F42 k (b8.1, b8.2.1, b8.2.2.1, i64.wrap (w.2.2.2.1 - 1), b8.2.2.2.2) b5.1.2.2.2).bind fun b9 => cond (!b9.2) (RET (0, 0, [])) (RET (2, b5.1.2.2.1, b9.1))
def Xh {β : Type} (RET : (den Ma) → Option β) (k : Nat) (v : (den sta)) (w : (den An)) : Option β := (F38 k v).bind fun b1 => cond (!b1) (RET (0, 0, [])) ((F20 k w).bind fun b2 => cond (!b2) (RET (0, 0, [])) (cond (w.2.1 == v.1) ((F39 k w).bind fun b3 => RET (1, 0, [b3])) (cond (decide (w.2.2.2.1 < 2)) ((F40 k v w 4 0).bind fun b4 => RET b4) ((F41 k v.2 w.2.1).bind fun b5 => cond (!b5.2) ((F40 k v w 3 0).bind fun b6 => RET b6) (cond (decide ((w.2.2.2.2.2.2.2.2.length : Int) > b5.1.2.2.2)) (cond w.2.2.2.2.2.2.2.1 ((F40 k v w 6 b5.1.2.2.2).bind fun b7 => RET b7) (N3 k v w RET b5)) (N3 k v w RET b5))))))
def F22 := Xh (β := (den Ma)) some
theorem Xm8 {β : Type} (k : Nat) (v : (den sta)) (w : (den An)) (K : KT β) : Ag (Xut k) Try.f22 (PsT.put Xjp (v, w, ())) K = (F22 k v w).bind fun r => K (F22_O.put r) :=
 Eq.trans (b := Xh (fun r => K (F22_O.put r)) k v w) (by kernel_rfl) (by simp only [F22, Xh, N3, z1, z2, z3, z4, z5, z6, z7, z8, Aw])
def Xjs (k : Nat) : FD := ⟨22, Xjp, F22_O, F22 k⟩
theorem Xrl (k : Nat) : (Xjs k).Ok Try.prog := ⟨fun x => Ad (Ai (Aj (.c (Xix k) (.c (S4 k) (.c (Xr3 k) (.c (Xuq k) (.c (Xrh k) (.c (Xr8 k) .n))))))) _ _ _ _) Ah Try.func22 rfl rfl (Xm8 k _ _ some), .of (by kernel_rfl)⟩
def Xrz : Nat → Hint
 | 0 => ⟨pl 0 2 (pl 5 1 []), []⟩
 | _ => ⟨[], []⟩
abbrev Vw (k : Nat) : Env := Bc Bp Xrz .own [] k
abbrev Xa9 : List PA := [.one (.sl .ro sta), .one mI]
abbrev F23_O : RO := ⟨[.v], [mI]⟩
noncomputable def Xqd {β : Type} (k : Nat) (v : Ab) (w : Int) (K : KT β) : Ex → St → Option β := Bz (Vw k) Try.f23 (PsT.put Xa9 (v, w, ())) K
def Xnz (v : Ab) (w : Int) (x5_0 : Int) : St := ⟨(.one (.s .ro sta v)) :: (.one (vI w)) :: dz 3 ((.one (vI x5_0)) :: dz 14 []), []⟩
noncomputable def O2 {β : Type} (k : Nat) (v : Ab) (w : Int) (K : KT β) (n : Nat) (x5_0 : Int) : Option β := A6 (Vw k) Try.f23 [1, 0, 1, 0] 0 (Ak (Vw k) [1, 0, 1, 0] (Al Try.f23) 0 (Xqd k v w K)) n (Xnz v w x5_0)
def J2 {β : Type} (NX : Int → Option β) (RET : Int → Option β) (k : Nat) (v : Ab) (w : Int) (x5_0 : Int) : Option β := cond (decide (x5_0 < (v.length : Int))) (A2 x5_0 v (cond ((Af v x5_0).1 == w) (RET x5_0) (NX (i64.wrap (x5_0 + 1))))) (RET (-1))
def Lb (k : Nat) (v : Ab) (w : Int) : Nat → Int → Option (Int)
 | 0, _ => none
 | n + 1, x5_0 => J2 (Lb k v w n) some k v w x5_0
theorem Z8 {β : Type} (k : Nat) (v : Ab) (w : Int) (K : KT β) (n : Nat) : ∀ (x5_0 : Int), O2 k v w K n x5_0 =
  (Lb k v w n x5_0).bind fun r => K (F23_O.put r) := by
 induction n with
 | zero => intros; rfl
 | succ n ih =>
  intro x5_0
  refine Eq.trans (b := J2 (O2 k v w K n) (fun r => K (F23_O.put r)) k v w x5_0) (by kernel_rfl) ?_
  rw [Lb]
  simp only [J2, z1, z2, z3, z4, z5, z6, z7, z8, ih]
def Xdr {β : Type} (LP0 : Int → Option β) (k : Nat) (v : Ab) (w : Int) : Option β := LP0 0
def F23 (k : Nat) (v : Ab) (w : Int) : Option (Int) := Xdr (Lb k v w k) k v w
theorem Xos {β : Type} (k : Nat) (v : Ab) (w : Int) (K : KT β) : Ag (Vw k) Try.f23 (PsT.put Xa9 (v, w, ())) K = (F23 k v w).bind fun r => K (F23_O.put r) :=
 Eq.trans (b := Xdr (O2 k v w K k) k v w) (by kernel_rfl) (by simp only [F23, Xdr, z1, z2, z3, z4, z5, z6, z7, z8, Z8])
def Xgq (k : Nat) : FD := ⟨23, Xa9, F23_O, F23 k⟩
theorem Xsc (k : Nat) : (Xgq k).Ok Try.prog := ⟨fun x => Ad (Ai .none _ _ _ _) Ah Try.func23 rfl rfl (Xos k _ _ some), .of (by kernel_rfl)⟩
def F6_h : Nat → Hint
 | 0 => ⟨pl 0 1 (pl 6 2 ((8, .own .own (.int .i64) []) :: (9, .own .sown An []) :: (pl 10 1 []))), pl 6000 3 ((7000, .own .sown An []) :: (7001, .own .sown An []) :: (pl 7002 1 []))⟩
 | 2 => ⟨pl 0 1 (pl 6 2 ((8, .own .own (.int .i64) []) :: (9, .own .sown An []) :: (pl 10 4 []))), pl 6000 3 ((7000, .own .sown An []) :: (7001, .own .sown An []) :: (pl 7002 1 (pl 11000 2 ((11002, .own .sown An []) :: (pl 53002 1 [])))))⟩
 | _ => ⟨[], []⟩
abbrev Mq (k : Nat) : Env := Bc (A1 [Xhq k, Qq k, F1 k, Xjs k, Xgq k]) F6_h .ro [] k
abbrev Xny : List PA := [.one (.sl .ro sta), .one mI, .agg (.pair mI J1)]
abbrev F6_O : RO := ⟨[.a], [Xe7]⟩
noncomputable def Xlr {β : Type} (k : Nat) (v : Ab) (w : Int) (p : (den An)) (K : KT β) : Ex → St → Option β := Bz (Mq k) Try.f6 (PsT.put Xny (v, w, p, ())) K
def Xt9 (v : Ab) (w : Int) (p : (den An)) (x10_2 x12_2 x13_2 : Int) (m7000_2 : (den Co)) (m11000_2 : (den Ma)) (m8900_2 : A7) (m9900_2 : Ae) : St := ⟨(.one (.s .ro sta v)) :: dz 5 ((.one (.ptr (.cell 6000) 3 0)) :: (.one (.ptr (.cell 7000) 3 0)) :: (.one (.a (.cell 8900) 0 0 none)) :: (.one (.a (.cell 9900) 0 0 none)) :: (.one (vI x10_2)) :: (.one (.ptr (.cell 11000) 3 0)) :: (.one (vI x12_2)) :: (.one (vI x13_2)) :: dz 99 []), Cf 6000 (Jf Ge ([], [], 0)) (Cf 7000 (Jf Xck m7000_2) (Cf 11000 (Jf Xe1 m11000_2) [eM 53002 .d, eM 8900 (.s .own (.int .i64) m8900_2), eM 9900 (.s .sown An m9900_2)]))⟩
noncomputable def Q3 {β : Type} (k : Nat) (v : Ab) (w : Int) (p : (den An)) (KK : Ex → St → Option β) (n : Nat) (x10_2 x12_2 x13_2 : Int) (m7000_2 : (den Co)) (m11000_2 : (den Ma)) (m8900_2 : A7) (m9900_2 : Ae) : Option β := A6 (Mq k) Try.f6 [1, 1, 1, 1, 1, 0, 1, 0, 0, 1, 0, 0, 1, 1, 1, 1, 0] 2 KK n (Xt9 v w p x10_2 x12_2 x13_2 m7000_2 m11000_2 m8900_2 m9900_2)
def Mj {β : Type} (NX : Int → Int → Int → (den Co) → (den Ma) → A7 → Ae → Option β) (EX0 : (Int × Int × Int × (den Ma) × (den Co) × A7 × Ae) → Option β) (k : Nat) (v : Ab) (w : Int) (p : (den An)) (x10_2 x12_2 x13_2 : Int) (m7000_2 : (den Co)) (m11000_2 : (den Ma)) (m8900_2 : A7) (m9900_2 : Ae) : Option β := cond (decide (x13_2 < (m11000_2.2.2.length : Int))) (cond (m11000_2.1 == 1) (A2 x13_2 m11000_2.2.2 (Dv (m7000_2.1.length) ([(Af m11000_2.2.2 x13_2)].length) 80 (NX x10_2 x12_2 (i64.wrap (x13_2 + 1)) (m7000_2.1 ++ [(Af m11000_2.2.2 x13_2)], m7000_2.2) m11000_2 m8900_2 m9900_2))) (cond (m11000_2.1 == 3) (A2 x13_2 m11000_2.2.2 (Dv (m7000_2.2.1.length) ([(Af m11000_2.2.2 x13_2)].length) 80 (NX x10_2 x12_2 (i64.wrap (x13_2 + 1)) (m7000_2.1, m7000_2.2.1 ++ [(Af m11000_2.2.2 x13_2)], m7000_2.2.2) m11000_2 m8900_2 m9900_2))) (cond (decide (x12_2 ≥ 0)) (Dv (m8900_2.length) ([x12_2].length) 8 (A2 x13_2 m11000_2.2.2 (Dv (m9900_2.length) ([(Af m11000_2.2.2 x13_2)].length) 80 (NX x10_2 x12_2 (i64.wrap (x13_2 + 1)) m7000_2 m11000_2 (m8900_2 ++ [x12_2]) (m9900_2 ++ [(Af m11000_2.2.2 x13_2)]))))) (NX x10_2 x12_2 (i64.wrap (x13_2 + 1)) m7000_2 m11000_2 m8900_2 m9900_2)))) (EX0 (x10_2, x12_2, x13_2, m11000_2, m7000_2, m8900_2, m9900_2))
def P2 (k : Nat) (v : Ab) (w : Int) (p : (den An)) : Nat → Int → Int → Int → (den Co) → (den Ma) → A7 → Ae → Option ((Int × Int × Int × (den Ma) × (den Co) × A7 × Ae))
 | 0, _, _, _, _, _, _, _ => none
 | n + 1, x10_2, x12_2, x13_2, m7000_2, m11000_2, m8900_2, m9900_2 => Mj (P2 k v w p n) (fun y2 => some y2) k v w p x10_2 x12_2 x13_2 m7000_2 m11000_2 m8900_2 m9900_2
theorem Xaz {β : Type} (k : Nat) (v : Ab) (w : Int) (p : (den An)) (KK : Ex → St → Option β) (n : Nat) : ∀ (x10_2 x12_2 x13_2 : Int) (m7000_2 : (den Co)) (m11000_2 : (den Ma)) (m8900_2 : A7) (m9900_2 : Ae), Q3 k v w p KK n x10_2 x12_2 x13_2 m7000_2 m11000_2 m8900_2 m9900_2 =
  (P2 k v w p n x10_2 x12_2 x13_2 m7000_2 m11000_2 m8900_2 m9900_2).bind fun y2 => KK (.exit 2) ⟨(.one (.s .ro sta v)) :: dz 5 ((.one (.ptr (.cell 6000) 3 0)) :: (.one (.ptr (.cell 7000) 3 0)) :: (.one (.a (.cell 8900) 0 0 none)) :: (.one (.a (.cell 9900) 0 0 none)) :: (.one (vI y2.1)) :: (.one (.ptr (.cell 11000) 3 0)) :: (.one (vI y2.2.1)) :: (.one (vI y2.2.2.1)) :: dz 48 ((.one (vI y2.2.2.1)) :: (.one (.ptr (.cell 11002) 1 0)) :: (.one (.a (.cell 11002) 0 0 none)) :: (.one (vI (y2.2.2.2.1.2.2.length : Int))) :: (.one (vB false)) :: dz 46 [])), Cf 6000 (Jf Ge ([], [], 0)) (Cf 7000 (Jf Xck y2.2.2.2.2.1) (Cf 11000 (Jf Xe1 y2.2.2.2.1) [eM 53002 .d, eM 8900 (.s .own (.int .i64) y2.2.2.2.2.2.1), eM 9900 (.s .sown An y2.2.2.2.2.2.2)]))⟩ := by
 induction n with
 | zero => intros; rfl
 | succ n ih =>
  intro x10_2 x12_2 x13_2 m7000_2 m11000_2 m8900_2 m9900_2
  refine Eq.trans (b := Mj (Q3 k v w p KK n) (fun y2 => KK (.exit 2) ⟨(.one (.s .ro sta v)) :: dz 5 ((.one (.ptr (.cell 6000) 3 0)) :: (.one (.ptr (.cell 7000) 3 0)) :: (.one (.a (.cell 8900) 0 0 none)) :: (.one (.a (.cell 9900) 0 0 none)) :: (.one (vI y2.1)) :: (.one (.ptr (.cell 11000) 3 0)) :: (.one (vI y2.2.1)) :: (.one (vI y2.2.2.1)) :: dz 48 ((.one (vI y2.2.2.1)) :: (.one (.ptr (.cell 11002) 1 0)) :: (.one (.a (.cell 11002) 0 0 none)) :: (.one (vI (y2.2.2.2.1.2.2.length : Int))) :: (.one (vB false)) :: dz 46 [])), Cf 6000 (Jf Ge ([], [], 0)) (Cf 7000 (Jf Xck y2.2.2.2.2.1) (Cf 11000 (Jf Xe1 y2.2.2.2.1) [eM 53002 .d, eM 8900 (.s .own (.int .i64) y2.2.2.2.2.2.1), eM 9900 (.s .sown An y2.2.2.2.2.2.2)]))⟩) k v w p x10_2 x12_2 x13_2 m7000_2 m11000_2 m8900_2 m9900_2) (by kernel_rfl) ?_
  rw [P2]
  simp only [Mj, z1, z2, z3, z4, z5, z6, z7, z8, Aw, ih]
def Xu7 (v : Ab) (w : Int) (p : (den An)) (x10_0 : Int) (m7000_0 : (den Co)) (m8900_0 : A7) (m9900_0 : Ae) : St := ⟨(.one (.s .ro sta v)) :: dz 5 ((.one (.ptr (.cell 6000) 3 0)) :: (.one (.ptr (.cell 7000) 3 0)) :: (.one (.a (.cell 8900) 0 0 none)) :: (.one (.a (.cell 9900) 0 0 none)) :: (.one (vI x10_0)) :: dz 102 []), Cf 6000 (Jf Ge ([], [], 0)) (Cf 7000 (Jf Xck m7000_0) [eM 8900 (.s .own (.int .i64) m8900_0), eM 9900 (.s .sown An m9900_0)])⟩
noncomputable def Rj {β : Type} (k : Nat) (v : Ab) (w : Int) (p : (den An)) (K : KT β) (n : Nat) (x10_0 : Int) (m7000_0 : (den Co)) (m8900_0 : A7) (m9900_0 : Ae) : Option β := A6 (Mq k) Try.f6 [1, 1, 1, 1, 1, 0, 1, 0] 0 (Ak (Mq k) [1, 1, 1, 1, 1, 0, 1, 0] (Al Try.f6) 0 (Xlr k v w p K)) n (Xu7 v w p x10_0 m7000_0 m8900_0 m9900_0)
def Fp (k : Nat) (v : Ab) (w : Int) (p : (den An)) : Nat → Int → (den Co) → A7 → Ae → Option ((den Co))
 | 0, _, _, _, _ => none
 | n + 1, x10_0, m7000_0, m8900_0, m9900_0 => cond (decide (x10_0 < (m9900_0.length : Int))) (A2 x10_0 m8900_0 (A2 (Af m8900_0 x10_0) v (A2 x10_0 m9900_0 ((F22 k (Af v (Af m8900_0 x10_0)) (Af m9900_0 x10_0)).bind fun b4 => (F23 k v b4.2.1).bind fun b5 => (P2 k v w p k x10_0 b5 0 (m7000_0.1, m7000_0.2.1, i64.wrap (m7000_0.2.2 + 1)) b4 m8900_0 m9900_0).bind fun y2 => Fp k v w p n (i64.wrap (y2.1 + 1)) y2.2.2.2.2.1 y2.2.2.2.2.2.1 y2.2.2.2.2.2.2)))) (some m7000_0)
theorem Ui {β : Type} (k n : Nat) (v : Ab) (w : Int) (p : (den An)) (y2 : Int × Int × Int × (den Ma) × (den Co) × A7 × Ae) (K : KT β) :
  (Ak (Mq k) [1, 0, 0, 1, 1, 1, 1, 0] (B0 [1, 1, 1, 1, 1, 0, 1, 0, 0] (Al Try.f6)) 0 (Il (Mq k) Try.f6 [1, 1, 1, 1, 1, 0, 1, 0] 0 (Ak (Mq k) [1, 1, 1, 1, 1, 0, 1, 0] (Al Try.f6) 0 (Xlr k v w p K)) n)) (.exit 2) ⟨(.one (.s .ro sta v)) :: dz 5 ((.one (.ptr (.cell 6000) 3 0)) :: (.one (.ptr (.cell 7000) 3 0)) :: (.one (.a (.cell 8900) 0 0 none)) :: (.one (.a (.cell 9900) 0 0 none)) :: (.one (vI y2.1)) :: (.one (.ptr (.cell 11000) 3 0)) :: (.one (vI y2.2.1)) :: (.one (vI y2.2.2.1)) :: dz 48 ((.one (vI y2.2.2.1)) :: (.one (.ptr (.cell 11002) 1 0)) :: (.one (.a (.cell 11002) 0 0 none)) :: (.one (vI (y2.2.2.2.1.2.2.length : Int))) :: (.one (vB false)) :: dz 46 [])), Cf 6000 (Jf Ge ([], [], 0)) (Cf 7000 (Jf Xck y2.2.2.2.2.1) (Cf 11000 (Jf Xe1 y2.2.2.2.1) [eM 53002 .d, eM 8900 (.s .own (.int .i64) y2.2.2.2.2.2.1), eM 9900 (.s .sown An y2.2.2.2.2.2.2)]))⟩ =
  Rj k v w p K n (i64.wrap (y2.1 + 1)) y2.2.2.2.2.1 y2.2.2.2.2.2.1 y2.2.2.2.2.2.2 := by kernel_rfl
theorem Xcs {β : Type} (k : Nat) (v : Ab) (w : Int) (p : (den An)) (K : KT β) (n : Nat) : ∀ (x10_0 : Int) (m7000_0 : (den Co)) (m8900_0 : A7) (m9900_0 : Ae), Rj k v w p K n x10_0 m7000_0 m8900_0 m9900_0 =
  (Fp k v w p n x10_0 m7000_0 m8900_0 m9900_0).bind fun r => K (F6_O.put r) := by
 induction n with
 | zero => intros; rfl
 | succ n ih =>
  intro x10_0 m7000_0 m8900_0 m9900_0
  refine Eq.trans (b := cond (decide (x10_0 < (m9900_0.length : Int))) (A2 x10_0 m8900_0 (A2 (Af m8900_0 x10_0) v (A2 x10_0 m9900_0 ((F22 k (Af v (Af m8900_0 x10_0)) (Af m9900_0 x10_0)).bind fun b4 => (F23 k v b4.2.1).bind fun b5 => Q3 k v w p (Ak (Mq k) [1, 0, 0, 1, 1, 1, 1, 0] (B0 [1, 1, 1, 1, 1, 0, 1, 0, 0] (Al Try.f6)) 0 (Il (Mq k) Try.f6 [1, 1, 1, 1, 1, 0, 1, 0] 0 (Ak (Mq k) [1, 1, 1, 1, 1, 0, 1, 0] (Al Try.f6) 0 (Xlr k v w p K)) n)) k x10_0 b5 0 (m7000_0.1, m7000_0.2.1, i64.wrap (m7000_0.2.2 + 1)) b4 m8900_0 m9900_0)))) (K (F6_O.put m7000_0))) (by kernel_rfl) ?_
  rw [Fp]
  simp only [z1, z2, z3, z4, z5, z6, z7, z8, Aw, Xaz, Ui k n v w p _ K, ih, A2, Dv]
def Xfb {β : Type} (LP0 : Int → (den Co) → A7 → Ae → Option β) (RET : (den Co) → Option β) (k : Nat) (v : Ab) (w : Int) (p : (den An)) : Option β := Aw p fun p0 p1 p2 p3 p4 p5 p6 p7 p8 => (F19 k v).bind fun b1 => cond (!b1) (RET ([], [], 0)) ((F20 k p).bind fun b2 => cond (!b2) (RET ([], [], 0)) ((Ki k w 0 (i64.wrap ((v.length : Int) - 1))).bind fun b3 => cond (!b3) (RET ([], [], 0)) (LP0 0 ([], [], 0) [w] [(p0, p1, p2, p3, p4, p5, p6, p7, p8)])))
def F6 (k : Nat) (v : Ab) (w : Int) (p : (den An)) : Option ((den Co)) := Xfb (Fp k v w p k) some k v w p
theorem Xp8 {β : Type} (k : Nat) (v : Ab) (w : Int) (p : (den An)) (K : KT β) : Ag (Mq k) Try.f6 (PsT.put Xny (v, w, p, ())) K = (F6 k v w p).bind fun r => K (F6_O.put r) :=
 Eq.trans (b := Xfb (Rj k v w p K k) (fun r => K (F6_O.put r)) k v w p) (by kernel_rfl) (by simp only [F6, Xfb, z1, z2, z3, z4, z5, z6, z7, z8, Aw, Xcs])
def F6_d (k : Nat) : FD := ⟨6, Xny, F6_O, F6 k⟩
theorem F6_q (k : Nat) : (F6_d k).Ok Try.prog := ⟨fun x => Ad (Ai (Aj (.c (Xsm k) (.c (S4 k) (.c (Hy k) (.c (Xrl k) (.c (Xsc k) .n)))))) _ _ _ _) Ah Try.func6 rfl rfl (Xp8 k _ _ _ some), .of (by kernel_rfl)⟩
end
end Go.Proofs.Ytdmepjjepogddaa.Gn
end

section
set_option linter.unusedVariables false
set_option linter.unusedSimpArgs false
namespace Go.Proofs.Ytdmepjjepogddaa.Gn
open Go.Rf IntKind
noncomputable section
abbrev Xqy (k : Nat) : Env := Bc Bp Ap .own [] k
abbrev Xhy : List PA := [.one mI, .one mI, .one mI]
abbrev F27_O : RO := ⟨[.v], [mB]⟩
def Tz (k : Nat) (v w p : Int) : Option (Bool) := cond (decide (v ≥ w)) (some (decide (v ≤ p))) (some false)
theorem Xlj {β : Type} (k : Nat) (v w p : Int) (K : KT β) : Ag (Xqy k) Try.f27 (PsT.put Xhy (v, w, p, ())) K = (Tz k v w p).bind fun r => K (F27_O.put r) :=
 Eq.trans (b := cond (decide (v ≥ w)) (K (F27_O.put (decide (v ≤ p)))) (K (F27_O.put false))) (by kernel_rfl) (by simp only [Tz, z1, z2, z3, z4, z5, z6, z7, z8])
def L1 (k : Nat) : FD := ⟨27, Xhy, F27_O, Tz k⟩
theorem O5 (k : Nat) : (L1 k).Ok Try.prog := ⟨fun x => Ad (Ai .none _ _ _ _) Ah Try.func27 rfl rfl (Xlj k _ _ _ some), .of (by kernel_rfl)⟩
abbrev Xq4 (k : Nat) : Env := Bc (A1 [L1 k]) Ap .own [] k
abbrev Xi6 : List PA := [.one mI]
abbrev F46_O : RO := ⟨[.v], [mB]⟩
def W7 (k : Nat) (v : Int) : Option (Bool) := (Tz k v 0 65535).bind fun b1 => some b1
theorem Xlv {β : Type} (k : Nat) (v : Int) (K : KT β) : Ag (Xq4 k) Try.f46 (PsT.put Xi6 (v, ())) K = (W7 k v).bind fun r => K (F46_O.put r) :=
 Eq.trans (b := (Tz k v 0 65535).bind fun b1 => K (F46_O.put b1)) (by kernel_rfl) (by simp only [W7, z1, z2, z3, z4, z5, z6, z7, z8])
def Pm (k : Nat) : FD := ⟨46, Xi6, F46_O, W7 k⟩
theorem Tp (k : Nat) : (Pm k).Ok Try.prog := ⟨fun x => Ad (Ai (Aj (.c (O5 k) .n)) _ _ _ _) Ah Try.func46 rfl rfl (Xlv k _ some), .of (by kernel_rfl)⟩
abbrev Xs3 (k : Nat) : Env := Bc (A1 [L1 k, Pm k]) Ap .own [] k
abbrev Xjn : List PA := [.agg m_4]
abbrev F69_O : RO := ⟨[.v], [mB]⟩
def Wm {β : Type} (RET : Bool → Option β) (k : Nat) (v : (den Br)) : Option β := Ey v fun v0 v1 v2 v3 => (Tz k v1 0 16).bind fun b1 => cond b1 ((W7 k v0).bind fun b2 => cond b2 (cond (decide ((i64.wrap (16 - v1)) < 0)) none (cond (decide ((i64.wrap (1 * 2 ^ (min (i64.wrap (16 - v1)).toNat 64))) = 0)) none (cond ((v0.tmod (i64.wrap (1 * 2 ^ (min (i64.wrap (16 - v1)).toNat 64)))) == 0) ((W7 k v2).bind fun b3 => cond b3 ((Tz k v3 1 48).bind fun b4 => RET b4) (RET false)) (RET false)))) (RET false)) (RET false)
def F69 := Wm (β := Bool) some
theorem Xlo {β : Type} (k : Nat) (v : (den Br)) (K : KT β) : Ag (Xs3 k) Try.f69 (PsT.put Xjn (v, ())) K = (F69 k v).bind fun r => K (F69_O.put r) :=
 Eq.trans (b := Wm (fun r => K (F69_O.put r)) k v) (by kernel_rfl) (by simp only [F69, Wm, z1, z2, z3, z4, z5, z6, z7, z8, Ey])
def Xh3 (k : Nat) : FD := ⟨69, Xjn, F69_O, F69 k⟩
theorem Xsg (k : Nat) : (Xh3 k).Ok Try.prog := ⟨fun x => Ad (Ai (Aj (.c (O5 k) (.c (Tp k) .n))) _ _ _ _) Ah Try.func69 rfl rfl (Xlo k _ some), .of (by kernel_rfl)⟩
abbrev Xs5 (k : Nat) : Env := Bc Bp Ap .own [] k
abbrev Xhc : List PA := [.one mI]
abbrev F92_O : RO := ⟨[.v], [mB]⟩
def F92 (k : Nat) (v : Int) : Option (Bool) := some (v != v)
theorem Xo9 {β : Type} (k : Nat) (v : Int) (K : KT β) : Ag (Xs5 k) Try.f92 (PsT.put Xhc (v, ())) K = (F92 k v).bind fun r => K (F92_O.put r) :=
 Eq.trans (b := K (F92_O.put (v != v))) (by kernel_rfl) (by simp only [F92, z1, z2, z3, z4, z5, z6, z7, z8])
def Xia (k : Nat) : FD := ⟨92, Xhc, F92_O, F92 k⟩
theorem Xqg (k : Nat) : (Xia k).Ok Try.prog := ⟨fun x => Ad (Ai .none _ _ _ _) Ah Try.func92 rfl rfl (Xo9 k _ some), .of (by kernel_rfl)⟩
abbrev Xp5 (k : Nat) : Env := Bc (A1 [Xia k]) Ap .own [] k
abbrev Xhn : List PA := [.one mI, .one mI]
abbrev F82_O : RO := ⟨[.v], [mI]⟩
def Vv {β : Type} (RET : Int → Option β) (k : Nat) (v w : Int) : Option β := (F92 k v).bind fun b1 => (F92 k w).bind fun b2 => cond b1 (cond b2 (RET 0) (RET (-1))) (cond b2 (RET 1) (cond (decide (v < w)) (RET (-1)) (cond (decide (v > w)) (RET 1) (RET 0))))
def F82 := Vv (β := Int) some
theorem Xl6 {β : Type} (k : Nat) (v w : Int) (K : KT β) : Ag (Xp5 k) Try.f82 (PsT.put Xhn (v, w, ())) K = (F82 k v w).bind fun r => K (F82_O.put r) :=
 Eq.trans (b := Vv (fun r => K (F82_O.put r)) k v w) (by kernel_rfl) (by simp only [F82, Vv, z1, z2, z3, z4, z5, z6, z7, z8])
def Xjl (k : Nat) : FD := ⟨82, Xhn, F82_O, F82 k⟩
theorem Xue (k : Nat) : (Xjl k).Ok Try.prog := ⟨fun x => Ad (Ai (Aj (.c (Xqg k) .n)) _ _ _ _) Ah Try.func82 rfl rfl (Xl6 k _ _ some), .of (by kernel_rfl)⟩
def Xti : Nat → Hint
 | 0 => ⟨pl 3 1 (pl 6 3 []), []⟩
 | _ => ⟨[], []⟩
abbrev Xj (k : Nat) : Env := Bc Bp Xti .own [] k
abbrev Xbr : List PA := [.one (.sl .ro (.int .i64))]
abbrev F81_O : RO := ⟨[.v], [mI]⟩
noncomputable def Xtz {β : Type} (k : Nat) (v : A7) (K : KT β) : Ex → St → Option β := Bz (Xj k) Try.f81 (PsT.put Xbr (v, ())) K
def Xon (v : A7) (x8_0 : Int) : St := ⟨dz 3 ((.one (vI 0)) :: (.one .d) :: (.one .d) :: (.one (.s .ro (.int .i64) v)) :: (.one (vI (v.length : Int))) :: (.one (vI x8_0)) :: dz 9 []), []⟩
noncomputable def Oi {β : Type} (k : Nat) (v : A7) (K : KT β) (n : Nat) (x8_0 : Int) : Option β := A6 (Xj k) Try.f81 [1, 1, 0, 1, 0] 0 (Ak (Xj k) [1, 1, 0, 1, 0] (Al Try.f81) 0 (Xtz k v K)) n (Xon v x8_0)
def Ew {β : Type} (NX : Int → Option β) (RET : Int → Option β) (k : Nat) (v : A7) (x8_0 : Int) : Option β := cond (decide (x8_0 < (v.length : Int))) (A2 x8_0 v (cond ((Af v x8_0) != 0) (RET (Af v x8_0)) (NX (i64.wrap (x8_0 + 1))))) (RET 0)
def F2 (k : Nat) (v : A7) : Nat → Int → Option (Int)
 | 0, _ => none
 | n + 1, x8_0 => Ew (F2 k v n) some k v x8_0
theorem Z6 {β : Type} (k : Nat) (v : A7) (K : KT β) (n : Nat) : ∀ (x8_0 : Int), Oi k v K n x8_0 =
  (F2 k v n x8_0).bind fun r => K (F81_O.put r) := by
 induction n with
 | zero => intros; rfl
 | succ n ih =>
  intro x8_0
  refine Eq.trans (b := Ew (Oi k v K n) (fun r => K (F81_O.put r)) k v x8_0) (by kernel_rfl) ?_
  rw [F2]
  simp only [Ew, z1, z2, z3, z4, z5, z6, z7, z8, ih]
def Xb5 {β : Type} (LP0 : Int → Option β) (k : Nat) (v : A7) : Option β := LP0 0
def F81 (k : Nat) (v : A7) : Option (Int) := Xb5 (F2 k v k) k v
theorem Xoh {β : Type} (k : Nat) (v : A7) (K : KT β) : Ag (Xj k) Try.f81 (PsT.put Xbr (v, ())) K = (F81 k v).bind fun r => K (F81_O.put r) :=
 Eq.trans (b := Xb5 (Oi k v K k) k v) (by kernel_rfl) (by simp only [F81, Xb5, z1, z2, z3, z4, z5, z6, z7, z8, Z6])
def Xjg (k : Nat) : FD := ⟨81, Xbr, F81_O, F81 k⟩
theorem Xra (k : Nat) : (Xjg k).Ok Try.prog := ⟨fun x => Ad (Ai .none _ _ _ _) Ah Try.func81 rfl rfl (Xoh k _ some), .of (by kernel_rfl)⟩
abbrev Xqj (k : Nat) : Env := Bc (A1 [Xjl k, Xjg k]) Ap .own [] k
abbrev Xio : List PA := [.agg m_4, .agg m_4]
abbrev F70_O : RO := ⟨[.v], [mI]⟩
def Xx {β : Type} (RET : Int → Option β) (k : Nat) (v w : (den Br)) : Option β := (F82 k v.2.1 w.2.1).bind fun b1 => (F82 k v.1 w.1).bind fun b2 => (F81 k [b1, b2]).bind fun b3 => RET b3
def F70 := Xx (β := Int) some
theorem Xkq {β : Type} (k : Nat) (v w : (den Br)) (K : KT β) : Ag (Xqj k) Try.f70 (PsT.put Xio (v, w, ())) K = (F70 k v w).bind fun r => K (F70_O.put r) :=
 Eq.trans (b := Xx (fun r => K (F70_O.put r)) k v w) (by kernel_rfl) (by simp only [F70, Xx, z1, z2, z3, z4, z5, z6, z7, z8, Ey])
def Xjj (k : Nat) : FD := ⟨70, Xio, F70_O, F70 k⟩
theorem Xuy (k : Nat) : (Xjj k).Ok Try.prog := ⟨fun x => Ad (Ai (Aj (.c (Xue k) (.c (Xra k) .n))) _ _ _ _) Ah Try.func70 rfl rfl (Xkq k _ _ some), .of (by kernel_rfl)⟩
def Xtr : Nat → Hint
 | 0 => ⟨pl 0 1 (pl 5 3 []), []⟩
 | _ => ⟨[], []⟩
abbrev Ws (k : Nat) : Env := Bc (A1 [Xh3 k, Xjj k]) Xtr .own [] k
abbrev Xc4 : List PA := [.one (.sl .ro Br)]
abbrev F55_O : RO := ⟨[.v], [mB]⟩
noncomputable def Xrf {β : Type} (k : Nat) (v : Ar) (K : KT β) : Ex → St → Option β := Bz (Ws k) Try.f55 (PsT.put Xc4 (v, ())) K
def Xoi (v : Ar) (x7_0 : Int) : St := ⟨(.one (.s .ro Br v)) :: dz 4 ((.one (.s .ro Br v)) :: (.one (vI (v.length : Int))) :: (.one (vI x7_0)) :: dz 25 []), []⟩
noncomputable def Ou {β : Type} (k : Nat) (v : Ar) (K : KT β) (n : Nat) (x7_0 : Int) : Option β := A6 (Ws k) Try.f55 [1, 0, 1, 0] 0 (Ak (Ws k) [1, 0, 1, 0] (Al Try.f55) 0 (Xrf k v K)) n (Xoi v x7_0)
def Kc {β : Type} (NX : Int → Option β) (RET : Bool → Option β) (k : Nat) (v : Ar) (x7_0 : Int) : Option β := cond (decide (x7_0 < (v.length : Int))) (A2 x7_0 v ((F69 k (Af v x7_0)).bind fun b1 => cond (!b1) (RET false) (cond (decide (x7_0 > 0)) (A2 (i64.wrap (x7_0 - 1)) v ((F70 k (Af v (i64.wrap (x7_0 - 1))) (Af v x7_0)).bind fun b2 => cond (decide (b2 ≥ 0)) (RET false) (NX (i64.wrap (x7_0 + 1))))) (NX (i64.wrap (x7_0 + 1)))))) (RET (decide ((v.length : Int) ≤ 8)))
def Kk (k : Nat) (v : Ar) : Nat → Int → Option (Bool)
 | 0, _ => none
 | n + 1, x7_0 => Kc (Kk k v n) some k v x7_0
theorem Xaj {β : Type} (k : Nat) (v : Ar) (K : KT β) (n : Nat) : ∀ (x7_0 : Int), Ou k v K n x7_0 =
  (Kk k v n x7_0).bind fun r => K (F55_O.put r) := by
 induction n with
 | zero => intros; rfl
 | succ n ih =>
  intro x7_0
  refine Eq.trans (b := Kc (Ou k v K n) (fun r => K (F55_O.put r)) k v x7_0) (by kernel_rfl) ?_
  rw [Kk]
  simp only [Kc, z1, z2, z3, z4, z5, z6, z7, z8, ih]
def Xdd {β : Type} (LP0 : Int → Option β) (k : Nat) (v : Ar) : Option β := LP0 0
def F55 (k : Nat) (v : Ar) : Option (Bool) := Xdd (Kk k v k) k v
theorem Xln {β : Type} (k : Nat) (v : Ar) (K : KT β) : Ag (Ws k) Try.f55 (PsT.put Xc4 (v, ())) K = (F55 k v).bind fun r => K (F55_O.put r) :=
 Eq.trans (b := Xdd (Ou k v K k) k v) (by kernel_rfl) (by simp only [F55, Xdd, z1, z2, z3, z4, z5, z6, z7, z8, Xaj])
def Xje (k : Nat) : FD := ⟨55, Xc4, F55_O, F55 k⟩
theorem Xth (k : Nat) : (Xje k).Ok Try.prog := ⟨fun x => Ad (Ai (Aj (.c (Xsg k) (.c (Xuy k) .n))) _ _ _ _) Ah Try.func55 rfl rfl (Xln k _ some), .of (by kernel_rfl)⟩
abbrev Xu0 (k : Nat) : Env := Bc (A1 [Pm k, Xje k]) Ap .own [] k
abbrev Xih : List PA := [.agg (.pair mI (.sl .ro Br))]
abbrev F44_O : RO := ⟨[.v], [mB]⟩
def F44 (k : Nat) (v : (den sta)) : Option (Bool) := (W7 k v.1).bind fun b1 => cond b1 ((F55 k v.2).bind fun b2 => some b2) (some false)
theorem Xk2 {β : Type} (k : Nat) (v : (den sta)) (K : KT β) : Ag (Xu0 k) Try.f44 (PsT.put Xih (v, ())) K = (F44 k v).bind fun r => K (F44_O.put r) :=
 Eq.trans (b := (W7 k v.1).bind fun b1 => cond b1 ((F55 k v.2).bind fun b2 => K (F44_O.put b2)) (K (F44_O.put false))) (by kernel_rfl) (by simp only [F44, z1, z2, z3, z4, z5, z6, z7, z8])
def Xjd (k : Nat) : FD := ⟨44, Xih, F44_O, F44 k⟩
theorem Xpt (k : Nat) : (Xjd k).Ok Try.prog := ⟨fun x => Ad (Ai (Aj (.c (Tp k) (.c (Xth k) .n))) _ _ _ _) Ah Try.func44 rfl rfl (Xk2 k _ some), .of (by kernel_rfl)⟩
abbrev Xri (k : Nat) : Env := Bc Bp Ap .own [(false, 1000)] k
abbrev Xgu : List PA := [.agg (.pair mI (.sl .ro Br)), .p mI]
abbrev F57_O : RO := ⟨[.v], [mB, mI]⟩
def F57 (k : Nat) (v : (den sta)) (w : Int) : Option (Bool × Int) := some ((v.1 == w), w)
theorem Xlq {β : Type} (k : Nat) (v : (den sta)) (w : Int) (K : KT β) : Ag (Xri k) Try.f57 (PsT.put Xgu (v, w, ())) K = (F57 k v w).bind fun r => K (F57_O.put r) :=
 Eq.trans (b := K (F57_O.put ((v.1 == w), w))) (by kernel_rfl) (by simp only [F57, z1, z2, z3, z4, z5, z6, z7, z8])
def Xhh (k : Nat) : FD := ⟨57, Xgu, F57_O, F57 k⟩
theorem Xt7 (k : Nat) : (Xhh k).Ok Try.prog := ⟨fun x => Ad (Ai .none _ _ _ _) Ah Try.func57 rfl rfl (Xlq k _ _ some), .of (by kernel_rfl)⟩
def Xpw : Nat → Hint
 | 0 => ⟨pl 0 2 (pl 7 2 []), pl 1100 1 []⟩
 | _ => ⟨[], []⟩
abbrev Xb (k : Nat) : Env := Bc (A1 [Xhh k]) Xpw .own [(false, 1100)] k
abbrev Xdt : List PA := [.one (.sl .ro sta), .fc 57 [mI]]
abbrev F56_O : RO := ⟨[.v], [mI, mI]⟩
noncomputable def Xrs {β : Type} (k : Nat) (v : Ab) (wx : Int) (K : KT β) : Ex → St → Option β := Bz (Xb k) Try.f56 (PsT.put Xdt (v, (wx, ()), ())) K
def Xk4 (v : Ab) (wx : Int) (x8_0 m1100_0 : Int) : St := ⟨(.one (.s .ro sta v)) :: (.one (.fn 57 [((.cell 1100), 1, 0)])) :: dz 5 ((.one (vI (v.length : Int))) :: (.one (vI x8_0)) :: dz 10 []), [iM 1100 m1100_0]⟩
noncomputable def N8 {β : Type} (k : Nat) (v : Ab) (wx : Int) (K : KT β) (n : Nat) (x8_0 m1100_0 : Int) : Option β := A6 (Xb k) Try.f56 [1, 0, 1, 0] 0 (Ak (Xb k) [1, 0, 1, 0] (Al Try.f56) 0 (Xrs k v wx K)) n (Xk4 v wx x8_0 m1100_0)
def Jd {β : Type} (NX : Int → Int → Option β) (RET : (Int × Int) → Option β) (k : Nat) (v : Ab) (wx : Int) (x8_0 m1100_0 : Int) : Option β := cond (decide (x8_0 < (v.length : Int))) (A2 x8_0 v ((F57 k (Af v x8_0) m1100_0).bind fun b1 => cond b1.1 (RET (x8_0, b1.2)) (NX (i64.wrap (x8_0 + 1)) b1.2))) (RET ((-1), m1100_0))
def Ky (k : Nat) (v : Ab) (wx : Int) : Nat → Int → Int → Option (Int × Int)
 | 0, _, _ => none
 | n + 1, x8_0, m1100_0 => Jd (Ky k v wx n) some k v wx x8_0 m1100_0
theorem Za {β : Type} (k : Nat) (v : Ab) (wx : Int) (K : KT β) (n : Nat) : ∀ (x8_0 m1100_0 : Int), N8 k v wx K n x8_0 m1100_0 =
  (Ky k v wx n x8_0 m1100_0).bind fun r => K (F56_O.put r) := by
 induction n with
 | zero => intros; rfl
 | succ n ih =>
  intro x8_0 m1100_0
  refine Eq.trans (b := Jd (N8 k v wx K n) (fun r => K (F56_O.put r)) k v wx x8_0 m1100_0) (by kernel_rfl) ?_
  rw [Ky]
  simp only [Jd, z1, z2, z3, z4, z5, z6, z7, z8, ih]
def Xd6 {β : Type} (LP0 : Int → Int → Option β) (k : Nat) (v : Ab) (wx : Int) : Option β := LP0 0 wx
def F56 (k : Nat) (v : Ab) (wx : Int) : Option (Int × Int) := Xd6 (Ky k v wx k) k v wx
theorem Xl0 {β : Type} (k : Nat) (v : Ab) (wx : Int) (K : KT β) : Ag (Xb k) Try.f56 (PsT.put Xdt (v, (wx, ()), ())) K = (F56 k v wx).bind fun r => K (F56_O.put r) :=
 Eq.trans (b := Xd6 (N8 k v wx K k) k v wx) (by kernel_rfl) (by simp only [F56, Xd6, z1, z2, z3, z4, z5, z6, z7, z8, Za])
def Xin (k : Nat) : FD := ⟨56, Xdt, F56_O, F56 k⟩
theorem Xsp (k : Nat) : (Xin k).Ok Try.prog := ⟨fun x => Ad (Ai (Aj (.c (Xt7 k) .n)) _ _ _ _) Ah Try.func56 rfl rfl (Xl0 k _ _ some), .of (by kernel_rfl)⟩
abbrev Xrg (k : Nat) : Env := Bc (A1 [Xin k]) Ap .own [] k
abbrev Xgy : List PA := [.one (.sl .ro sta), .one mI]
abbrev F45_O : RO := ⟨[.v], [mI]⟩
def F45 (k : Nat) (v : Ab) (w : Int) : Option (Int) := (F56 k v w).bind fun b1 => some b1.1
theorem Xme {β : Type} (k : Nat) (v : Ab) (w : Int) (K : KT β) : Ag (Xrg k) Try.f45 (PsT.put Xgy (v, w, ())) K = (F45 k v w).bind fun r => K (F45_O.put r) :=
 Eq.trans (b := (F56 k v w).bind fun b1 => K (F45_O.put b1.1)) (by kernel_rfl) (by simp only [F45, z1, z2, z3, z4, z5, z6, z7, z8])
def Xev (k : Nat) : FD := ⟨45, Xgy, F45_O, F45 k⟩
theorem Xj1 (k : Nat) : (Xev k).Ok Try.prog := ⟨fun x => Ad (Ai (Aj (.c (Xsp k) .n)) _ _ _ _) Ah Try.func45 rfl rfl (Xme k _ _ some), .of (by kernel_rfl)⟩
def Xtm : Nat → Hint
 | 0 => ⟨pl 0 1 (pl 5 3 []), []⟩
 | _ => ⟨[], []⟩
abbrev Vg (k : Nat) : Env := Bc (A1 [Xjd k, Xev k]) Xtm .own [] k
abbrev Xem : List PA := [.one (.sl .ro sta)]
abbrev F26_O : RO := ⟨[.v], [mB]⟩
noncomputable def Xpn {β : Type} (k : Nat) (v : Ab) (K : KT β) : Ex → St → Option β := Bz (Vg k) Try.f26 (PsT.put Xem (v, ())) K
def Xkc (v : Ab) (x7_0 : Int) : St := ⟨(.one (.s .ro sta v)) :: dz 4 ((.one (.s .ro sta v)) :: (.one (vI (v.length : Int))) :: (.one (vI x7_0)) :: dz 19 []), []⟩
noncomputable def Nu {β : Type} (k : Nat) (v : Ab) (K : KT β) (n : Nat) (x7_0 : Int) : Option β := A6 (Vg k) Try.f26 [1, 0, 1, 0] 0 (Ak (Vg k) [1, 0, 1, 0] (Al Try.f26) 0 (Xpn k v K)) n (Xkc v x7_0)
def Ji {β : Type} (NX : Int → Option β) (RET : Bool → Option β) (k : Nat) (v : Ab) (x7_0 : Int) : Option β := cond (decide (x7_0 < (v.length : Int))) (A2 x7_0 v ((F44 k (Af v x7_0)).bind fun b1 => cond (!b1) (RET false) ((F45 k v (Af v x7_0).1).bind fun b2 => cond (decide (b2 < x7_0)) (RET false) (NX (i64.wrap (x7_0 + 1)))))) (RET (decide ((v.length : Int) ≤ 5)))
def Lg (k : Nat) (v : Ab) : Nat → Int → Option (Bool)
 | 0, _ => none
 | n + 1, x7_0 => Ji (Lg k v n) some k v x7_0
theorem Y7 {β : Type} (k : Nat) (v : Ab) (K : KT β) (n : Nat) : ∀ (x7_0 : Int), Nu k v K n x7_0 =
  (Lg k v n x7_0).bind fun r => K (F26_O.put r) := by
 induction n with
 | zero => intros; rfl
 | succ n ih =>
  intro x7_0
  refine Eq.trans (b := Ji (Nu k v K n) (fun r => K (F26_O.put r)) k v x7_0) (by kernel_rfl) ?_
  rw [Lg]
  simp only [Ji, z1, z2, z3, z4, z5, z6, z7, z8, ih]
def Xds {β : Type} (LP0 : Int → Option β) (k : Nat) (v : Ab) : Option β := LP0 0
def F26 (k : Nat) (v : Ab) : Option (Bool) := Xds (Lg k v k) k v
theorem Xka {β : Type} (k : Nat) (v : Ab) (K : KT β) : Ag (Vg k) Try.f26 (PsT.put Xem (v, ())) K = (F26 k v).bind fun r => K (F26_O.put r) :=
 Eq.trans (b := Xds (Nu k v K k) k v) (by kernel_rfl) (by simp only [F26, Xds, z1, z2, z3, z4, z5, z6, z7, z8, Y7])
def Xgp (k : Nat) : FD := ⟨26, Xem, F26_O, F26 k⟩
theorem Xpz (k : Nat) : (Xgp k).Ok Try.prog := ⟨fun x => Ad (Ai (Aj (.c (Xpt k) (.c (Xj1 k) .n))) _ _ _ _) Ah Try.func26 rfl rfl (Xka k _ some), .of (by kernel_rfl)⟩
abbrev Xuj (k : Nat) : Env := Bc (A1 [Pm k, L1 k]) Ap .own [] k
abbrev Xg8 : List PA := [.agg (.pair mI J1)]
abbrev F28_O : RO := ⟨[.v], [mB]⟩
def W0 {β : Type} (RET : Bool → Option β) (k : Nat) (v : (den An)) : Option β := Aw v fun v0 v1 v2 v3 v4 v5 v6 v7 v8 => (W7 k v0).bind fun b1 => cond b1 ((W7 k v1).bind fun b2 => cond b2 ((Tz k v2 0 255).bind fun b3 => cond b3 ((Tz k v3 0 255).bind fun b4 => cond b4 ((Tz k v4 0 255).bind fun b5 => cond b5 ((Tz k v5 0 255).bind fun b6 => cond b6 (cond (decide ((v8.length : Int) ≤ 48)) (cond (!v6) (cond (!v7) (RET true) (cond (v5 == 0) (RET (!v6)) (RET false))) (cond (decide ((v8.length : Int) > 0)) (cond (!v7) (RET true) (cond (v5 == 0) (RET (!v6)) (RET false))) (RET false))) (RET false)) (RET false)) (RET false)) (RET false)) (RET false)) (RET false)) (RET false)
def F28 := W0 (β := Bool) some
theorem Xno {β : Type} (k : Nat) (v : (den An)) (K : KT β) : Ag (Xuj k) Try.f28 (PsT.put Xg8 (v, ())) K = (F28 k v).bind fun r => K (F28_O.put r) :=
 Eq.trans (b := W0 (fun r => K (F28_O.put r)) k v) (by kernel_rfl) (by simp only [F28, W0, z1, z2, z3, z4, z5, z6, z7, z8, Aw])
def Xc6 (k : Nat) : FD := ⟨28, Xg8, F28_O, F28 k⟩
theorem Xjw (k : Nat) : (Xc6 k).Ok Try.prog := ⟨fun x => Ad (Ai (Aj (.c (Tp k) (.c (O5 k) .n))) _ _ _ _) Ah Try.func28 rfl rfl (Xno k _ some), .of (by kernel_rfl)⟩
abbrev Xuh (k : Nat) : Env := Bc Bp Ap .own [] k
abbrev Xjm : List PA := [.one (.sl .own (.int .u8))]
abbrev F83_O : RO := ⟨[.v], [.sl .own (.int .u8)]⟩
def X3 {β : Type} (RET : Ac → Option β) (k : Nat) (v : Ac) : Option β := cond (decide (0 ≤ (v.length : Int)) && decide ((v.length : Int) ≤ (v.length : Int))) (cond (decide ((v.length : Int) = (v.length : Int))) (RET ((v.take ((v.length : Int).toNat)).drop 0)) none) none
def F83 := X3 (β := Ac) some
theorem Xn1 {β : Type} (k : Nat) (v : Ac) (K : KT β) : Ag (Xuh k) Try.f83 (PsT.put Xjm (v, ())) K = (F83 k v).bind fun r => K (F83_O.put r) :=
 Eq.trans (b := X3 (fun r => K (F83_O.put r)) k v) (by kernel_rfl) (by simp only [F83, X3, z1, z2, z3, z4, z5, z6, z7, z8])
def Xhx (k : Nat) : FD := ⟨83, Xjm, F83_O, F83 k⟩
theorem Xtc (k : Nat) : (Xhx k).Ok Try.prog := ⟨fun x => Ad (Ai .none _ _ _ _) Ah Try.func83 rfl rfl (Xn1 k _ some), .of (by kernel_rfl)⟩
abbrev Xs6 (k : Nat) : Env := Bc (A1 [Xhx k]) Ap .own [] k
abbrev Xiv : List PA := [.one (.sl .ro (.int .u8))]
abbrev F71_O : RO := ⟨[.v], [.sl .own (.int .u8)]⟩
def Yb {β : Type} (RET : Ac → Option β) (k : Nat) (v : Ac) : Option β := cond ((v.length : Int) == 0) (RET []) (Dv (([] : Ac).length) (v.length) 1 ((F83 k ([] ++ v)).bind fun b1 => RET b1))
def F71 := Yb (β := Ac) some
theorem Xpk {β : Type} (k : Nat) (v : Ac) (K : KT β) : Ag (Xs6 k) Try.f71 (PsT.put Xiv (v, ())) K = (F71 k v).bind fun r => K (F71_O.put r) :=
 Eq.trans (b := Yb (fun r => K (F71_O.put r)) k v) (by kernel_rfl) (by simp only [F71, Yb, z1, z2, z3, z4, z5, z6, z7, z8])
def Wz (k : Nat) : FD := ⟨71, Xiv, F71_O, F71 k⟩
theorem Xd5 (k : Nat) : (Wz k).Ok Try.prog := ⟨fun x => Ad (Ai (Aj (.c (Xtc k) .n)) _ _ _ _) Ah Try.func71 rfl rfl (Xpk k _ some), .of (by kernel_rfl)⟩
abbrev Xuz (k : Nat) : Env := Bc (A1 [Wz k]) Ap .own [] k
abbrev Xi3 : List PA := [.agg (.pair mI J1)]
abbrev F58_O : RO := ⟨[.a], [.pair mI m_7]⟩
def F58 (k : Nat) (v : (den An)) : Option ((den An)) := Aw v fun v0 v1 v2 v3 v4 v5 v6 v7 v8 => (F71 k v8).bind fun b1 => some (v0, v1, v2, v3, v4, v5, v6, v7, b1)
theorem Xnw {β : Type} (k : Nat) (v : (den An)) (K : KT β) : Ag (Xuz k) Try.f58 (PsT.put Xi3 (v, ())) K = (F58 k v).bind fun r => K (F58_O.put r) :=
 Eq.trans (b := (F71 k v.2.2.2.2.2.2.2.2).bind fun b1 => K (F58_O.put (v.1, v.2.1, v.2.2.1, v.2.2.2.1, v.2.2.2.2.1, v.2.2.2.2.2.1, v.2.2.2.2.2.2.1, v.2.2.2.2.2.2.2.1, b1))) (by kernel_rfl) (by simp only [F58, z1, z2, z3, z4, z5, z6, z7, z8, Aw])
def Xp (k : Nat) : FD := ⟨58, Xi3, F58_O, F58 k⟩
theorem Xbe (k : Nat) : (Xp k).Ok Try.prog := ⟨fun x => Ad (Ai (Aj (.c (Xd5 k) .n)) _ _ _ _) Ah Try.func58 rfl rfl (Xnw k _ some), .of (by kernel_rfl)⟩
def Xs1 : Nat → Hint
 | 0 => ⟨pl 7 1 (pl 30 3 []), []⟩
 | _ => ⟨[], []⟩
abbrev Ym (k : Nat) : Env := Bc (A1 [L1 k]) Xs1 .own [] k
abbrev Xcx : List PA := [.one (.sl .ro (.int .u8)), .one mI, .one mI]
abbrev F99_O : RO := ⟨[.v], [mI]⟩
noncomputable def Xve {β : Type} (k : Nat) (v : Ac) (w p : Int) (K : KT β) : Ex → St → Option β := Bz (Ym k) Try.f99 (PsT.put Xcx (v, w, p, ())) K
def Xnb (v : Ac) (w p : Int) (x7_0 x32_0 : Int) : St := ⟨dz 7 ((.one (vI x7_0)) :: dz 22 ((.one (.s .ro (.int .u8) ((v.take ((i64.wrap (w + p)).toNat)).drop w.toNat))) :: (.one (vI (((v.take ((i64.wrap (w + p)).toNat)).drop w.toNat).length : Int))) :: (.one (vI x32_0)) :: dz 10 [])), []⟩
noncomputable def On {β : Type} (k : Nat) (v : Ac) (w p : Int) (K : KT β) (n : Nat) (x7_0 x32_0 : Int) : Option β := A6 (Ym k) Try.f99 [1, 1, 1, 0, 1, 0] 0 (Ak (Ym k) [1, 1, 1, 0, 1, 0] (Al Try.f99) 0 (Xve k v w p K)) n (Xnb v w p x7_0 x32_0)
def Em {β : Type} (NX : Int → Int → Option β) (RET : Int → Option β) (k : Nat) (v : Ac) (w p : Int) (x7_0 x32_0 : Int) : Option β := cond (decide (x32_0 < (((v.take ((i64.wrap (w + p)).toNat)).drop w.toNat).length : Int))) (A2 x32_0 ((v.take ((i64.wrap (w + p)).toNat)).drop w.toNat) (NX (Cj .or .i64 (i64.wrap (x7_0 * 2 ^ (8))) (i64.wrap (Af ((v.take ((i64.wrap (w + p)).toNat)).drop w.toNat) x32_0))) (i64.wrap (x32_0 + 1)))) (RET x7_0)
def Gp (k : Nat) (v : Ac) (w p : Int) : Nat → Int → Int → Option (Int)
 | 0, _, _ => none
 | n + 1, x7_0, x32_0 => Em (Gp k v w p n) some k v w p x7_0 x32_0
theorem Yx {β : Type} (k : Nat) (v : Ac) (w p : Int) (K : KT β) (n : Nat) : ∀ (x7_0 x32_0 : Int), On k v w p K n x7_0 x32_0 =
  (Gp k v w p n x7_0 x32_0).bind fun r => K (F99_O.put r) := by
 induction n with
 | zero => intros; rfl
 | succ n ih =>
  intro x7_0 x32_0
  refine Eq.trans (b := Em (On k v w p K n) (fun r => K (F99_O.put r)) k v w p x7_0 x32_0) (by kernel_rfl) ?_
  rw [Gp]
  simp only [Em, z1, z2, z3, z4, z5, z6, z7, z8, ih]
def W9 {β : Type} (LP0 : Int → Int → Option β) (RET : Int → Option β) (k : Nat) (v : Ac) (w p : Int) : Option β := (Tz k p 1 4).bind fun b1 => cond (!b1) (RET (-1)) (cond (decide (w < 0)) (RET (-1)) (cond (decide (w > (i64.wrap ((v.length : Int) - p)))) (RET (-1)) (cond (decide (0 ≤ (i64.wrap (w + p))) && decide ((i64.wrap (w + p)) ≤ (v.length : Int))) (cond (decide (0 ≤ w) && decide (w ≤ (i64.wrap (w + p)))) (LP0 0 0) none) none)))
def F99 (k : Nat) (v : Ac) (w p : Int) : Option (Int) := W9 (Gp k v w p k) some k v w p
theorem Xop {β : Type} (k : Nat) (v : Ac) (w p : Int) (K : KT β) : Ag (Ym k) Try.f99 (PsT.put Xcx (v, w, p, ())) K = (F99 k v w p).bind fun r => K (F99_O.put r) :=
 Eq.trans (b := W9 (On k v w p K k) (fun r => K (F99_O.put r)) k v w p) (by kernel_rfl) (by simp only [F99, W9, z1, z2, z3, z4, z5, z6, z7, z8, Yx])
def Xiq (k : Nat) : FD := ⟨99, Xcx, F99_O, F99 k⟩
theorem Xuc (k : Nat) : (Xiq k).Ok Try.prog := ⟨fun x => Ad (Ai (Aj (.c (O5 k) .n)) _ _ _ _) Ah Try.func99 rfl rfl (Xop k _ _ _ some), .of (by kernel_rfl)⟩
abbrev Xpg (k : Nat) : Env := Bc (A1 [L1 k, Pm k]) Ap .own [] k
abbrev Xcl : List PA := [.agg (.pair mI m_8)]
abbrev F103_O : RO := ⟨[.v], [mB]⟩
def Q2 {β : Type} (RET : Bool → Option β) (k : Nat) (v : (Int × (Int × Ac))) : Option β := (Tz k v.1 1 6).bind fun b1 => cond b1 ((W7 k v.2.1).bind fun b2 => cond b2 (RET (decide ((v.2.2.length : Int) ≤ 20))) (RET false)) (RET false)
def Xah := Q2 (β := Bool) some
theorem Xfo {β : Type} (k : Nat) (v : (Int × (Int × Ac))) (K : KT β) : Ag (Xpg k) Try.f103 (PsT.put Xcl (v, ())) K = (Xah k v).bind fun r => K (F103_O.put r) :=
 Eq.trans (b := Q2 (fun r => K (F103_O.put r)) k v) (by kernel_rfl) (by simp only [Xah, Q2, z1, z2, z3, z4, z5, z6, z7, z8, u_2])
def Xdh (k : Nat) : FD := ⟨103, Xcl, F103_O, Xah k⟩
theorem Xlc (k : Nat) : (Xdh k).Ok Try.prog := ⟨fun x => Ad (Ai (Aj (.c (O5 k) (.c (Tp k) .n))) _ _ _ _) Ah Try.func103 rfl rfl (Xfo k _ some), .of (by kernel_rfl)⟩
def Xtx : Nat → Hint
 | 0 => ⟨pl 0 1 (pl 5 2 []), pl 8000 1 []⟩
 | _ => ⟨[], []⟩
abbrev Wo (k : Nat) : Env := Bc Bp Xtx .own [] k
abbrev Xa2 : List PA := [.one mI, .one mI]
abbrev F95_O : RO := ⟨[.v], [.sl .own (.int .u8)]⟩
noncomputable def Xua {β : Type} (k : Nat) (v w : Int) (K : KT β) : Ex → St → Option β := Bz (Wo k) Try.f95 (PsT.put Xa2 (v, w, ())) K
def Xpe (v w : Int) (x0_0 x6_0 : Int) (m8000_0 : Ac) : St := ⟨(.one (vI x0_0)) :: dz 4 ((.one (.a (.cell 8000) 0 0 none)) :: (.one (vI x6_0)) :: dz 16 []), [eM 8000 (.s .own (.int .u8) m8000_0)]⟩
noncomputable def Ny {β : Type} (k : Nat) (v w : Int) (K : KT β) (n : Nat) (x0_0 x6_0 : Int) (m8000_0 : Ac) : Option β := A6 (Wo k) Try.f95 [1, 1, 0, 1, 0] 0 (Ak (Wo k) [1, 1, 0, 1, 0] (Al Try.f95) 0 (Xua k v w K)) n (Xpe v w x0_0 x6_0 m8000_0)
def Et {β : Type} (NX : Int → Int → Ac → Option β) (RET : Ac → Option β) (k : Nat) (v w : Int) (x0_0 x6_0 : Int) (m8000_0 : Ac) : Option β := cond (decide (x6_0 ≥ 0)) (A2 x6_0 m8000_0 (NX (x0_0.fdiv (2 ^ (8))) (i64.wrap (x6_0 - 1)) (m8000_0.set x6_0.toNat (u8.wrap x0_0)))) (RET m8000_0)
def Gu (k : Nat) (v w : Int) : Nat → Int → Int → Ac → Option (Ac)
 | 0, _, _, _ => none
 | n + 1, x0_0, x6_0, m8000_0 => Et (Gu k v w n) some k v w x0_0 x6_0 m8000_0
theorem Yt {β : Type} (k : Nat) (v w : Int) (K : KT β) (n : Nat) : ∀ (x0_0 x6_0 : Int) (m8000_0 : Ac), Ny k v w K n x0_0 x6_0 m8000_0 =
  (Gu k v w n x0_0 x6_0 m8000_0).bind fun r => K (F95_O.put r) := by
 induction n with
 | zero => intros; rfl
 | succ n ih =>
  intro x0_0 x6_0 m8000_0
  refine Eq.trans (b := Et (Ny k v w K n) (fun r => K (F95_O.put r)) k v w x0_0 x6_0 m8000_0) (by kernel_rfl) ?_
  rw [Gu]
  simp only [Et, z1, z2, z3, z4, z5, z6, z7, z8, ih]
def Xe {β : Type} (LP0 : Int → Int → Ac → Option β) (k : Nat) (v w : Int) : Option β := cond (decide (0 ≤ w) && decide (w = w) && decide (w * (1 : Nat) ≤ 140737488355328)) (LP0 v (i64.wrap (w - 1)) (List.replicate w.toNat (A9 (.int .u8)))) none
def F95 (k : Nat) (v w : Int) : Option (Ac) := Xe (Gu k v w k) k v w
theorem Xma {β : Type} (k : Nat) (v w : Int) (K : KT β) : Ag (Wo k) Try.f95 (PsT.put Xa2 (v, w, ())) K = (F95 k v w).bind fun r => K (F95_O.put r) :=
 Eq.trans (b := Xe (Ny k v w K k) k v w) (by kernel_rfl) (by simp only [F95, Xe, z1, z2, z3, z4, z5, z6, z7, z8, Yt])
def Xa1 (k : Nat) : FD := ⟨95, Xa2, F95_O, F95 k⟩
theorem Xhd (k : Nat) : (Xa1 k).Ok Try.prog := ⟨fun x => Ad (Ai .none _ _ _ _) Ah Try.func95 rfl rfl (Xma k _ _ some), .of (by kernel_rfl)⟩
abbrev Xnm (k : Nat) : Env := Bc Bp Ap .own [] k
abbrev Xay : List PA := [.one (.nil (.int .u8)), .one mI]
abbrev F101_O : RO := ⟨[.v], [.sl .own (.int .u8)]⟩
def Ru {β : Type} (RET : Ac → Option β) (k : Nat) (v : Ac) (w : Int) : Option β := cond (decide (w < 0)) none (cond (decide ((i64.wrap (w - 0)) > 0)) (cond (decide (0 ≤ 0) && decide (0 ≤ ((0 : Nat) : Int))) (cond (decide (0 < (i64.wrap (w - 0))) && decide ((i64.wrap (w - 0)) * (1 : Nat) ≤ 140737488355328)) (cond (decide (0 ≤ 0) && decide (0 ≤ ((List.replicate ((i64.wrap (w - 0)).toNat) (A9 (.int .u8))).length : Int))) (RET (((List.replicate ((i64.wrap (w - 0)).toNat) (A9 (.int .u8))).take 0).drop 0)) none) none) none) (RET []))
def Xap := Ru (β := Ac) some
theorem Xf1 {β : Type} (k : Nat) (v : Ac) (w : Int) (K : KT β) : Ag (Xnm k) Try.f101 (PsT.put Xay (v, w, ())) K = (Xap k v w).bind fun r => K (F101_O.put r) :=
 Eq.trans (b := Ru (fun r => K (F101_O.put r)) k v w) (by kernel_rfl) (by simp only [Xap, Ru, z1, z2, z3, z4, z5, z6, z7, z8])
def Xdg (k : Nat) : FD := ⟨101, Xay, F101_O, Xap k⟩
theorem Xom (k : Nat) : (Xdg k).Ok Try.prog := ⟨fun x => Ad (Ai .none _ _ _ _) Ah Try.func101 rfl rfl (Xf1 k _ _ some), .of (by kernel_rfl)⟩
end
end Go.Proofs.Ytdmepjjepogddaa.Gn
end

section
set_option linter.unusedVariables false
set_option linter.unusedSimpArgs false
namespace Go.Proofs.Ytdmepjjepogddaa.Gn
open Go.Rf IntKind
noncomputable section
def Xp9 : Nat → Hint
 | 0 => ⟨pl 0 1 (pl 3 1 (pl 9 3 [])), []⟩
 | 2 => ⟨(6, .own .own (.int .u8) []) :: (pl 25 3 []), []⟩
 | _ => ⟨[], []⟩
abbrev Qk (k : Nat) : Env := Bc (A1 [Xdg k]) Xp9 .own [] k
abbrev Xcb : List PA := [.one (.sl .ro (.sl (.int .u8)))]
abbrev F94_O : RO := ⟨[.v], [.sl .own (.int .u8)]⟩
noncomputable def Xj2 {β : Type} (k : Nat) (v : D0) (K : KT β) : Ex → St → Option β := Bz (Qk k) Try.f94 (PsT.put Xcb (v, ())) K
def Xj9 (v : D0) (x27_2 : Int) (m6900_2 : Ac) : St := ⟨dz 6 ((.one (.a (.cell 6900) 0 0 none)) :: dz 18 ((.one (.s .ro (.sl (.int .u8)) v)) :: (.one (vI (v.length : Int))) :: (.one (vI x27_2)) :: dz 8 [])), [eM 6900 (.s .own (.int .u8) m6900_2)]⟩
noncomputable def M9 {β : Type} (k : Nat) (v : D0) (K : KT β) (n : Nat) (x27_2 : Int) (m6900_2 : Ac) : Option β := A6 (Qk k) Try.f94 [1, 1, 1, 1, 0, 1, 0] 2 (Ak (Qk k) [1, 1, 1, 1, 0, 1, 0] (Al Try.f94) 0 (Xj2 k v K)) n (Xj9 v x27_2 m6900_2)
def Kb {β : Type} (NX : Int → Ac → Option β) (RET : Ac → Option β) (k : Nat) (v : D0) (x27_2 : Int) (m6900_2 : Ac) : Option β := cond (decide (x27_2 < (v.length : Int))) (A2 x27_2 v (Dv (m6900_2.length) ((Af v x27_2).length) 1 (NX (i64.wrap (x27_2 + 1)) (m6900_2 ++ (Af v x27_2))))) (RET m6900_2)
def Ku (k : Nat) (v : D0) : Nat → Int → Ac → Option (Ac)
 | 0, _, _ => none
 | n + 1, x27_2, m6900_2 => Kb (Ku k v n) some k v x27_2 m6900_2
theorem Y4 {β : Type} (k : Nat) (v : D0) (K : KT β) (n : Nat) : ∀ (x27_2 : Int) (m6900_2 : Ac), M9 k v K n x27_2 m6900_2 =
  (Ku k v n x27_2 m6900_2).bind fun r => K (F94_O.put r) := by
 induction n with
 | zero => intros; rfl
 | succ n ih =>
  intro x27_2 m6900_2
  refine Eq.trans (b := Kb (M9 k v K n) (fun r => K (F94_O.put r)) k v x27_2 m6900_2) (by kernel_rfl) ?_
  rw [Ku]
  simp only [Kb, z1, z2, z3, z4, z5, z6, z7, z8, ih]
def Xoe (v : D0) (x3_0 x11_0 : Int) : St := ⟨(.one (.s .ro (.sl (.int .u8)) v)) :: (.one .d) :: (.one .d) :: (.one (vI x3_0)) :: dz 5 ((.one (.s .ro (.sl (.int .u8)) v)) :: (.one (vI (v.length : Int))) :: (.one (vI x11_0)) :: dz 24 []), []⟩
noncomputable def N7 {β : Type} (k : Nat) (v : D0) (K : KT β) (n : Nat) (x3_0 x11_0 : Int) : Option β := A6 (Qk k) Try.f94 [1, 1, 0, 1, 0] 0 (Ak (Qk k) [1, 1, 0, 1, 0] (Al Try.f94) 0 (Xj2 k v K)) n (Xoe v x3_0 x11_0)
def J5 {β : Type} (NX : Int → Int → Option β) (LP2 : Int → Ac → Option β) (k : Nat) (v : D0) (x3_0 x11_0 : Int) : Option β := cond (decide (x11_0 < (v.length : Int))) (A2 x11_0 v (cond (decide ((i64.wrap (x3_0 + ((Af v x11_0).length : Int))) < 0)) none (NX (i64.wrap (x3_0 + ((Af v x11_0).length : Int))) (i64.wrap (x11_0 + 1))))) ((Xap k [] x3_0).bind fun b1 => LP2 0 b1)
def K0 (k : Nat) (v : D0) : Nat → Int → Int → Option (Ac)
 | 0, _, _ => none
 | n + 1, x3_0, x11_0 => J5 (K0 k v n) (Ku k v k) k v x3_0 x11_0
theorem Zt {β : Type} (k : Nat) (v : D0) (K : KT β) (n : Nat) : ∀ (x3_0 x11_0 : Int), N7 k v K n x3_0 x11_0 =
  (K0 k v n x3_0 x11_0).bind fun r => K (F94_O.put r) := by
 induction n with
 | zero => intros; rfl
 | succ n ih =>
  intro x3_0 x11_0
  refine Eq.trans (b := J5 (N7 k v K n) (M9 k v K k) k v x3_0 x11_0) (by kernel_rfl) ?_
  rw [K0]
  simp only [J5, z1, z2, z3, z4, z5, z6, z7, z8, Y4, ih]
def Vh {β : Type} (LP0 : Int → Int → Option β) (k : Nat) (v : D0) : Option β := LP0 0 0
def F94 (k : Nat) (v : D0) : Option (Ac) := Vh (K0 k v k) k v
theorem Xkg {β : Type} (k : Nat) (v : D0) (K : KT β) : Ag (Qk k) Try.f94 (PsT.put Xcb (v, ())) K = (F94 k v).bind fun r => K (F94_O.put r) :=
 Eq.trans (b := Vh (N7 k v K k) k v) (by kernel_rfl) (by simp only [F94, Vh, z1, z2, z3, z4, z5, z6, z7, z8, Zt])
def Xc2 (k : Nat) : FD := ⟨94, Xcb, F94_O, F94 k⟩
theorem Xh6 (k : Nat) : (Xc2 k).Ok Try.prog := ⟨fun x => Ad (Ai (Aj (.c (Xom k) .n)) _ _ _ _) Ah Try.func94 rfl rfl (Xkg k _ some), .of (by kernel_rfl)⟩
abbrev Xrd (k : Nat) : Env := Bc (A1 [Xdh k, Xa1 k, Xc2 k]) Ap .own [] k
abbrev Xf2 : List PA := [.agg (.pair mI m_8)]
abbrev F98_O : RO := ⟨[.v], [.sl .own (.int .u8)]⟩
def Wx {β : Type} (RET : Ac → Option β) (k : Nat) (v : (Int × (Int × Ac))) : Option β := u_2 v fun v0 v1 v2 => (Xah k v).bind fun b1 => cond (!b1) (RET []) ((F95 k v1 2).bind fun b2 => (F94 k [[u8.wrap v0], b2, [u8.wrap (v2.length : Int)], v2]).bind fun b3 => RET b3)
def F98 := Wx (β := Ac) some
theorem Xoz {β : Type} (k : Nat) (v : (Int × (Int × Ac))) (K : KT β) : Ag (Xrd k) Try.f98 (PsT.put Xf2 (v, ())) K = (F98 k v).bind fun r => K (F98_O.put r) :=
 Eq.trans (b := Wx (fun r => K (F98_O.put r)) k v) (by kernel_rfl) (by simp only [F98, Wx, z1, z2, z3, z4, z5, z6, z7, z8, u_2])
def Xd3 (k : Nat) : FD := ⟨98, Xf2, F98_O, F98 k⟩
theorem Xjc (k : Nat) : (Xd3 k).Ok Try.prog := ⟨fun x => Ad (Ai (Aj (.c (Xlc k) (.c (Xhd k) (.c (Xh6 k) .n)))) _ _ _ _) Ah Try.func98 rfl rfl (Xoz k _ some), .of (by kernel_rfl)⟩
def Xm5 : Nat → Hint
 | 0 => ⟨pl 0 2 (pl 12 2 []), []⟩
 | _ => ⟨[], []⟩
abbrev Rn (k : Nat) : Env := Bc Bp Xm5 .own [] k
abbrev U9 : List PA := [.one (.sl .ro (.int .u8)), .one (.sl .ro (.int .u8))]
abbrev F100_O : RO := ⟨[.v], [mB]⟩
noncomputable def Xkk {β : Type} (k : Nat) (v w : Ac) (K : KT β) : Ex → St → Option β := Bz (Rn k) Try.f100 (PsT.put U9 (v, w, ())) K
def Xfu (v w : Ac) (x13_0 : Int) : St := ⟨(.one (.s .ro (.int .u8) v)) :: (.one (.s .ro (.int .u8) w)) :: dz 10 ((.one (vI (v.length : Int))) :: (.one (vI x13_0)) :: dz 12 []), []⟩
noncomputable def Ld {β : Type} (k : Nat) (v w : Ac) (K : KT β) (n : Nat) (x13_0 : Int) : Option β := A6 (Rn k) Try.f100 [1, 1, 0, 1, 0] 0 (Ak (Rn k) [1, 1, 0, 1, 0] (Al Try.f100) 0 (Xkk k v w K)) n (Xfu v w x13_0)
def El {β : Type} (NX : Int → Option β) (RET : Bool → Option β) (k : Nat) (v w : Ac) (x13_0 : Int) : Option β := cond (decide (x13_0 < (v.length : Int))) (A2 x13_0 v (A2 x13_0 w (cond ((Af v x13_0) != (Af w x13_0)) (RET false) (NX (i64.wrap (x13_0 + 1)))))) (RET true)
def Fj (k : Nat) (v w : Ac) : Nat → Int → Option (Bool)
 | 0, _ => none
 | n + 1, x13_0 => El (Fj k v w n) some k v w x13_0
theorem T5 {β : Type} (k : Nat) (v w : Ac) (K : KT β) (n : Nat) : ∀ (x13_0 : Int), Ld k v w K n x13_0 =
  (Fj k v w n x13_0).bind fun r => K (F100_O.put r) := by
 induction n with
 | zero => intros; rfl
 | succ n ih =>
  intro x13_0
  refine Eq.trans (b := El (Ld k v w K n) (fun r => K (F100_O.put r)) k v w x13_0) (by kernel_rfl) ?_
  rw [Fj]
  simp only [El, z1, z2, z3, z4, z5, z6, z7, z8, ih]
def Qw {β : Type} (LP0 : Int → Option β) (RET : Bool → Option β) (k : Nat) (v w : Ac) : Option β := cond ((v.length : Int) != (w.length : Int)) (RET false) (LP0 0)
def Yu (k : Nat) (v w : Ac) : Option (Bool) := Qw (Fj k v w k) some k v w
theorem Xfk {β : Type} (k : Nat) (v w : Ac) (K : KT β) : Ag (Rn k) Try.f100 (PsT.put U9 (v, w, ())) K = (Yu k v w).bind fun r => K (F100_O.put r) :=
 Eq.trans (b := Qw (Ld k v w K k) (fun r => K (F100_O.put r)) k v w) (by kernel_rfl) (by simp only [Yu, Qw, z1, z2, z3, z4, z5, z6, z7, z8, T5])
def Xej (k : Nat) : FD := ⟨100, U9, F100_O, Yu k⟩
theorem Xow (k : Nat) : (Xej k).Ok Try.prog := ⟨fun x => Ad (Ai .none _ _ _ _) Ah Try.func100 rfl rfl (Xfk k _ _ some), .of (by kernel_rfl)⟩
abbrev Xtl (k : Nat) : Env := Bc (A1 [Xiq k, Wz k, Xd3 k, Xej k]) Ap .own [] k
abbrev Xh1 : Type := (Int × (Int × Ac)) × Bool
abbrev Xge : List PA := [.one (.sl .ro (.int .u8))]
abbrev F93_O : RO := ⟨[.a, .v], [.pair mI m_9, mB]⟩
def Yf {β : Type} (RET : Xh1 → Option β) (k : Nat) (v : Ac) : Option β := cond (decide ((v.length : Int) < 4)) (RET ((0, 0, []), false)) (cond (decide (0 < (v.length : Int))) ((F99 k v 1 2).bind fun b1 => cond (decide (0 ≤ 4) && decide (4 ≤ (v.length : Int))) ((F71 k (v.drop 4)).bind fun b2 => (F98 k (i64.wrap (Af v 0), b1, b2)).bind fun b3 => (Yu k b3 v).bind fun b4 => cond (!b4) (RET ((0, 0, []), false)) (RET ((i64.wrap (Af v 0), b1, b2), true))) none) none)
def F93 := Yf (β := Xh1) some
theorem Xnl {β : Type} (k : Nat) (v : Ac) (K : KT β) : Ag (Xtl k) Try.f93 (PsT.put Xge (v, ())) K = (F93 k v).bind fun r => K (F93_O.put r) :=
 Eq.trans (b := Yf (fun r => K (F93_O.put r)) k v) (by kernel_rfl) (by simp only [F93, Yf, z1, z2, z3, z4, z5, z6, z7, z8])
def Xim (k : Nat) : FD := ⟨93, Xge, F93_O, F93 k⟩
theorem Xur (k : Nat) : (Xim k).Ok Try.prog := ⟨fun x => Ad (Ai (Aj (.c (Xuc k) (.c (Xd5 k) (.c (Xjc k) (.c (Xow k) .n))))) _ _ _ _) Ah Try.func93 rfl rfl (Xnl k _ some), .of (by kernel_rfl)⟩
abbrev Xqo (k : Nat) : Env := Bc (A1 [Xim k]) Ap .own [] k
abbrev Xhr : List PA := [.agg (.pair mI J1)]
abbrev F84_O : RO := ⟨[.v], [mB]⟩
def Yk {β : Type} (RET : Bool → Option β) (k : Nat) (v : (den An)) : Option β := (F93 k v.2.2.2.2.2.2.2.2).bind fun b1 => cond b1.2 (cond (v.2.2.1 == 1) (RET (decide (b1.1.1 ≥ 3))) (RET false)) (RET false)
def F84 := Yk (β := Bool) some
theorem Xkj {β : Type} (k : Nat) (v : (den An)) (K : KT β) : Ag (Xqo k) Try.f84 (PsT.put Xhr (v, ())) K = (F84 k v).bind fun r => K (F84_O.put r) :=
 Eq.trans (b := Yk (fun r => K (F84_O.put r)) k v) (by kernel_rfl) (by simp only [F84, Yk, z1, z2, z3, z4, z5, z6, z7, z8, Aw])
def Xjh (k : Nat) : FD := ⟨84, Xhr, F84_O, F84 k⟩
theorem Xsx (k : Nat) : (Xjh k).Ok Try.prog := ⟨fun x => Ad (Ai (Aj (.c (Xur k) .n)) _ _ _ _) Ah Try.func84 rfl rfl (Xkj k _ some), .of (by kernel_rfl)⟩
abbrev Xqe (k : Nat) : Env := Bc Bp Ap .own [] k
abbrev Xh5 : List PA := [.one mB, .one mI]
abbrev F96_O : RO := ⟨[.v], [mI]⟩
def F96 (k : Nat) (v : Bool) (w : Int) : Option (Int) := cond v (some w) (some 0)
theorem Xm2 {β : Type} (k : Nat) (v : Bool) (w : Int) (K : KT β) : Ag (Xqe k) Try.f96 (PsT.put Xh5 (v, w, ())) K = (F96 k v w).bind fun r => K (F96_O.put r) :=
 Eq.trans (b := cond v (K (F96_O.put w)) (K (F96_O.put 0))) (by kernel_rfl) (by simp only [F96, z1, z2, z3, z4, z5, z6, z7, z8])
def Xjf (k : Nat) : FD := ⟨96, Xh5, F96_O, F96 k⟩
theorem Xr6 (k : Nat) : (Xjf k).Ok Try.prog := ⟨fun x => Ad (Ai .none _ _ _ _) Ah Try.func96 rfl rfl (Xm2 k _ _ some), .of (by kernel_rfl)⟩
def Xo3 : Nat → Hint
 | 0 => ⟨pl 3 1 (pl 6 3 []), []⟩
 | _ => ⟨[], []⟩
abbrev Rq (k : Nat) : Env := Bc Bp Xo3 .own [] k
abbrev Ux : List PA := [.one (.sl .ro (.int .i64))]
abbrev F102_O : RO := ⟨[.v], [mI]⟩
noncomputable def Xmw {β : Type} (k : Nat) (v : A7) (K : KT β) : Ex → St → Option β := Bz (Rq k) Try.f102 (PsT.put Ux (v, ())) K
def Xf0 (v : A7) (x3_0 x8_0 : Int) : St := ⟨dz 3 ((.one (vI x3_0)) :: (.one .d) :: (.one .d) :: (.one (.s .ro (.int .i64) v)) :: (.one (vI (v.length : Int))) :: (.one (vI x8_0)) :: dz 12 []), []⟩
noncomputable def Ko {β : Type} (k : Nat) (v : A7) (K : KT β) (n : Nat) (x3_0 x8_0 : Int) : Option β := A6 (Rq k) Try.f102 [1, 1, 0, 1, 0] 0 (Ak (Rq k) [1, 1, 0, 1, 0] (Al Try.f102) 0 (Xmw k v K)) n (Xf0 v x3_0 x8_0)
def Dc {β : Type} (NX : Int → Int → Option β) (RET : Int → Option β) (k : Nat) (v : A7) (x3_0 x8_0 : Int) : Option β := cond (decide (x8_0 < (v.length : Int))) (A2 x8_0 v (cond (decide ((i64.wrap (x3_0 + (Af v x8_0))) > 65535)) (NX (i64.wrap ((i64.wrap (x3_0 + (Af v x8_0))) - 65535)) (i64.wrap (x8_0 + 1))) (NX (i64.wrap (x3_0 + (Af v x8_0))) (i64.wrap (x8_0 + 1))))) (RET x3_0)
def C9 (k : Nat) (v : A7) : Nat → Int → Int → Option (Int)
 | 0, _, _ => none
 | n + 1, x3_0, x8_0 => Dc (C9 k v n) some k v x3_0 x8_0
theorem Ue {β : Type} (k : Nat) (v : A7) (K : KT β) (n : Nat) : ∀ (x3_0 x8_0 : Int), Ko k v K n x3_0 x8_0 =
  (C9 k v n x3_0 x8_0).bind fun r => K (F102_O.put r) := by
 induction n with
 | zero => intros; rfl
 | succ n ih =>
  intro x3_0 x8_0
  refine Eq.trans (b := Dc (Ko k v K n) (fun r => K (F102_O.put r)) k v x3_0 x8_0) (by kernel_rfl) ?_
  rw [C9]
  simp only [Dc, z1, z2, z3, z4, z5, z6, z7, z8, ih]
def U5 {β : Type} (LP0 : Int → Int → Option β) (k : Nat) (v : A7) : Option β := LP0 0 0
def Tg (k : Nat) (v : A7) : Option (Int) := U5 (C9 k v k) k v
theorem Xe4 {β : Type} (k : Nat) (v : A7) (K : KT β) : Ag (Rq k) Try.f102 (PsT.put Ux (v, ())) K = (Tg k v).bind fun r => K (F102_O.put r) :=
 Eq.trans (b := U5 (Ko k v K k) k v) (by kernel_rfl) (by simp only [Tg, U5, z1, z2, z3, z4, z5, z6, z7, z8, Ue])
def Xdl (k : Nat) : FD := ⟨102, Ux, F102_O, Tg k⟩
theorem Xn4 (k : Nat) : (Xdl k).Ok Try.prog := ⟨fun x => Ad (Ai .none _ _ _ _) Ah Try.func102 rfl rfl (Xe4 k _ some), .of (by kernel_rfl)⟩
def Xtj : Nat → Hint
 | 0 => ⟨pl 3 1 [], pl 3000 1 []⟩
 | _ => ⟨[], []⟩
abbrev Ea (k : Nat) : Env := Bc (A1 [Xdl k]) Xtj .own [] k
abbrev Xef : List PA := [.one (.sl .ro (.int .u8))]
abbrev F97_O : RO := ⟨[.v], [mI]⟩
noncomputable def P0 {β : Type} (k : Nat) (v : Ac) (K : KT β) : Ex → St → Option β := Bz (Ea k) Try.f97 (PsT.put Xef (v, ())) K
def Lj (v : Ac) (m3000_0 : Int) : St := ⟨dz 3 ((.one (.ptr (.cell 3000) 1 0)) :: dz 25 []), [iM 3000 m3000_0]⟩
def Dm (k : Nat) (v : Ac) : List Ac → Int → Option (Int)
 | [], m3000_0 => some (i64.wrap (65535 - m3000_0))
 | z0_0 :: r, m3000_0 => cond (decide (0 < (z0_0.length : Int))) (cond (decide ((z0_0.length : Int) > 1)) (cond (decide (1 < (z0_0.length : Int))) ((Tg k [m3000_0, Cj .or .i64 (i64.wrap ((i64.wrap (Af z0_0 0)) * 2 ^ (8))) (i64.wrap (Af z0_0 1))]).bind fun b1 => Dm k v r b1) none) ((Tg k [m3000_0, i64.wrap ((i64.wrap (Af z0_0 0)) * 2 ^ (8))]).bind fun b2 => Dm k v r b2)) none
theorem Zq {β : Type} (k : Nat) (v : Ac) (m3000_0 : Int) (K : KT β) :
  Dj (Ea k) Try.f97 [1, 1, 0, 1, 0] 0 8 (Ak (Ea k) [1, 1, 0, 1, 0] (Al Try.f97) 0 (P0 k v K)) ([] : List Ac) (Lj v m3000_0) =
  K (F97_O.put (i64.wrap (65535 - m3000_0))) := by kernel_rfl
theorem Zi {β : Type} (k : Nat) (v : Ac) (z0_0 : Ac) (r : List Ac) (m3000_0 : Int) (K : KT β) :
  Dj (Ea k) Try.f97 [1, 1, 0, 1, 0] 0 8 (Ak (Ea k) [1, 1, 0, 1, 0] (Al Try.f97) 0 (P0 k v K)) (z0_0 :: r) (Lj v m3000_0) =
  cond (decide (0 < (z0_0.length : Int))) (cond (decide ((z0_0.length : Int) > 1)) (cond (decide (1 < (z0_0.length : Int))) ((Tg k [m3000_0, Cj .or .i64 (i64.wrap ((i64.wrap (Af z0_0 0)) * 2 ^ (8))) (i64.wrap (Af z0_0 1))]).bind fun b1 => Dj (Ea k) Try.f97 [1, 1, 0, 1, 0] 0 8 (Ak (Ea k) [1, 1, 0, 1, 0] (Al Try.f97) 0 (P0 k v K)) r (Lj v b1)) none) ((Tg k [m3000_0, i64.wrap ((i64.wrap (Af z0_0 0)) * 2 ^ (8))]).bind fun b2 => Dj (Ea k) Try.f97 [1, 1, 0, 1, 0] 0 8 (Ak (Ea k) [1, 1, 0, 1, 0] (Al Try.f97) 0 (P0 k v K)) r (Lj v b2))) none := by kernel_rfl
theorem Y5 {β : Type} (k : Nat) (v : Ac) (K : KT β) (l : List Ac) : ∀ (m3000_0 : Int), Dj (Ea k) Try.f97 [1, 1, 0, 1, 0] 0 8 (Ak (Ea k) [1, 1, 0, 1, 0] (Al Try.f97) 0 (P0 k v K)) l (Lj v m3000_0) =
  (Dm k v l m3000_0).bind fun r => K (F97_O.put r) := by
 induction l with
 | nil => intros; rw [Zq, Dm]; simp only [z1, z2, z3, z4, z5, z6, z7, z8]
 | cons z r ih =>
  intros
  rw [Zi, Dm]
  simp only [z1, z2, z3, z4, z5, z6, z7, z8, ih]
def F97 (k : Nat) (v : Ac) : Option (Int) := cond (decide (1 ≤ 2) && decide (2 ≤ 9223372036854775807) && decide (v.length ≤ 140737488355328)) (Dm k v (Bm ((2 : Int).toNat) v) 0) none
theorem Xol {β : Type} (k : Nat) (v : Ac) (K : KT β) : Ag (Ea k) Try.f97 (PsT.put Xef (v, ())) K = (F97 k v).bind fun r => K (F97_O.put r) :=
 Eq.trans (b := cond (decide (1 ≤ 2) && decide (2 ≤ 9223372036854775807) && decide (v.length ≤ 140737488355328)) (Dj (Ea k) Try.f97 [1, 1, 0, 1, 0] 0 8 (Ak (Ea k) [1, 1, 0, 1, 0] (Al Try.f97) 0 (P0 k v K)) (Bm ((2 : Int).toNat) v) (Lj v 0)) none) (by kernel_rfl) (by simp only [F97, z1, z2, z3, z4, z5, z6, z7, z8, Y5])
def Xgc (k : Nat) : FD := ⟨97, Xef, F97_O, F97 k⟩
theorem Xq7 (k : Nat) : (Xgc k).Ok Try.prog := ⟨fun x => Ad (Ai (Aj (.c (Xn4 k) .n)) _ _ _ _) Ah Try.func97 rfl rfl (Xol k _ some), .of (by kernel_rfl)⟩
abbrev Xsz (k : Nat) : Env := Bc (A1 [Xa1 k, Xjf k, Xc2 k, Xgc k]) Ap .own [] k
abbrev Xg2 : List PA := [.agg (.pair mI J1)]
abbrev F85_O : RO := ⟨[.v], [.sl .own (.int .u8)]⟩
def X7 {β : Type} (RET : Ac → Option β) (k : Nat) (v : (den An)) : Option β := Aw v fun v0 v1 v2 v3 v4 v5 v6 v7 v8 => (F95 k v0 2).bind fun b1 => (F95 k v1 2).bind fun b2 => (F96 k v6 1).bind fun b3 => (F96 k v7 2).bind fun b4 => (F94 k [b1, b2, [u8.wrap v2, u8.wrap v3, u8.wrap v4, u8.wrap v5, u8.wrap (i64.wrap (b3 + b4)), u8.wrap (v8.length : Int)]]).bind fun b5 => (F97 k b5).bind fun b6 => (F95 k b6 2).bind fun b7 => (F94 k [b5, b7, v8]).bind fun b8 => RET b8
def F85 := X7 (β := Ac) some
theorem Xla {β : Type} (k : Nat) (v : (den An)) (K : KT β) : Ag (Xsz k) Try.f85 (PsT.put Xg2 (v, ())) K = (F85 k v).bind fun r => K (F85_O.put r) :=
 Eq.trans (b := X7 (fun r => K (F85_O.put r)) k v) (by kernel_rfl) (by simp only [F85, X7, z1, z2, z3, z4, z5, z6, z7, z8, Aw])
def Xhb (k : Nat) : FD := ⟨85, Xg2, F85_O, F85 k⟩
theorem Xr9 (k : Nat) : (Xhb k).Ok Try.prog := ⟨fun x => Ad (Ai (Aj (.c (Xhd k) (.c (Xr6 k) (.c (Xh6 k) (.c (Xq7 k) .n))))) _ _ _ _) Ah Try.func85 rfl rfl (Xla k _ some), .of (by kernel_rfl)⟩
abbrev Xqm (k : Nat) : Env := Bc (A1 [Xd3 k]) Ap .own [] k
abbrev Xil : List PA := [.one mI, .agg (.pair mI J1), .agg (.pair mI m_8)]
abbrev F86_O : RO := ⟨[.a], [.pair mI m_7]⟩
def F86 (k : Nat) (v : Int) (w : (den An)) (p : (Int × (Int × Ac))) : Option ((den An)) := (F98 k p).bind fun b1 => some (v, w.1, 1, 64, w.2.2.2.2.1, 0, false, false, b1)
theorem Xm6 {β : Type} (k : Nat) (v : Int) (w : (den An)) (p : (Int × (Int × Ac))) (K : KT β) : Ag (Xqm k) Try.f86 (PsT.put Xil (v, w, p, ())) K = (F86 k v w p).bind fun r => K (F86_O.put r) :=
 Eq.trans (b := (F98 k p).bind fun b1 => K (F86_O.put (v, w.1, 1, 64, w.2.2.2.2.1, 0, false, false, b1))) (by kernel_rfl) (by simp only [F86, z1, z2, z3, z4, z5, z6, z7, z8, u_2, Aw])
def Xgr (k : Nat) : FD := ⟨86, Xil, F86_O, F86 k⟩
theorem Xu8 (k : Nat) : (Xgr k).Ok Try.prog := ⟨fun x => Ad (Ai (Aj (.c (Xjc k) .n)) _ _ _ _) Ah Try.func86 rfl rfl (Xm6 k _ _ _ some), .of (by kernel_rfl)⟩
abbrev Xro (k : Nat) : Env := Bc (A1 [Xc6 k, Pm k, Xjh k, L1 k, Xhb k, Xgr k]) Ap .own [] k
abbrev Xjq : List PA := [.agg (.pair mI J1), .one mI, .one mI, .one mI]
abbrev F72_O : RO := ⟨[.a, .v], [.pair mI m_7, mB]⟩
def V5 {β : Type} (RET : (den An) × Bool → Option β) (k : Nat) (v : (den An)) (w p q : Int) : Option β := (F28 k v).bind fun b1 => cond (!b1) (RET ((0, 0, 0, 0, 0, 0, false, false, []), false)) ((W7 k w).bind fun b2 => cond (!b2) (RET ((0, 0, 0, 0, 0, 0, false, false, []), false)) (cond (v.2.2.2.2.2.1 != 0) (RET ((0, 0, 0, 0, 0, 0, false, false, []), false)) ((F84 k v).bind fun b3 => cond b3 (RET ((0, 0, 0, 0, 0, 0, false, false, []), false)) ((Tz k p 3 6).bind fun b4 => cond (!b4) (RET ((0, 0, 0, 0, 0, 0, false, false, []), false)) ((W7 k q).bind fun b5 => cond (!b5) (RET ((0, 0, 0, 0, 0, 0, false, false, []), false)) ((F85 k v).bind fun b6 => cond (decide (0 ≤ (if 20 < (b6.length : Int) then 20 else (b6.length : Int))) && decide ((if 20 < (b6.length : Int) then 20 else (b6.length : Int)) ≤ (b6.length : Int))) ((F86 k w v (p, q, (b6.take ((if 20 < (b6.length : Int) then 20 else (b6.length : Int)).toNat)).drop 0)).bind fun b7 => RET (b7, true)) none))))))
def F72 := V5 (β := (den An) × Bool) some
theorem Xn2 {β : Type} (k : Nat) (v : (den An)) (w p q : Int) (K : KT β) : Ag (Xro k) Try.f72 (PsT.put Xjq (v, w, p, q, ())) K = (F72 k v w p q).bind fun r => K (F72_O.put r) :=
 Eq.trans (b := V5 (fun r => K (F72_O.put r)) k v w p q) (by kernel_rfl) (by simp only [F72, V5, z1, z2, z3, z4, z5, z6, z7, z8, Aw])
def Xgs (k : Nat) : FD := ⟨72, Xjq, F72_O, F72 k⟩
theorem Xrw (k : Nat) : (Xgs k).Ok Try.prog := ⟨fun x => Ad (Ai (Aj (.c (Xjw k) (.c (Tp k) (.c (Xsx k) (.c (O5 k) (.c (Xr9 k) (.c (Xu8 k) .n))))))) _ _ _ _) Ah Try.func72 rfl rfl (Xn2 k _ _ _ _ some), .of (by kernel_rfl)⟩
abbrev Xp2 (k : Nat) : Env := Bc (A1 [Xgs k]) Ap .own [] k
abbrev Xiu : List PA := [.agg (.pair mI (.sl .ro Br)), .agg (.pair mI J1), .one mI, .one mI]
abbrev F59_O : RO := ⟨[.a], [Xch]⟩
def F59 (k : Nat) (v : (den sta)) (w : (den An)) (p q : Int) : Option ((den Ma)) := (F72 k w v.1 p q).bind fun b1 => cond (!b1.2) (some (0, 0, [])) (some (3, 0, [b1.1]))
theorem Xl4 {β : Type} (k : Nat) (v : (den sta)) (w : (den An)) (p q : Int) (K : KT β) : Ag (Xp2 k) Try.f59 (PsT.put Xiu (v, w, p, q, ())) K = (F59 k v w p q).bind fun r => K (F59_O.put r) :=
 Eq.trans (b := (F72 k w v.1 p q).bind fun b1 => cond (!b1.2) (K (F59_O.put (0, 0, []))) (K (F59_O.put (3, 0, [b1.1])))) (by kernel_rfl) (by simp only [F59, z1, z2, z3, z4, z5, z6, z7, z8, Aw])
def Xhu (k : Nat) : FD := ⟨59, Xiu, F59_O, F59 k⟩
theorem Xqf (k : Nat) : (Xhu k).Ok Try.prog := ⟨fun x => Ad (Ai (Aj (.c (Xrw k) .n)) _ _ _ _) Ah Try.func59 rfl rfl (Xl4 k _ _ _ _ some), .of (by kernel_rfl)⟩
abbrev Xpr : List PA := [.one (.sl .ro Br), .one mI, .one mI]
abbrev Xtp : RO := ⟨[.a, .v], [m_4, mB]⟩
def F60 (k : Nat) (v : Ar) (w p : Int) : Option (den Br × Bool) := Rt.to v w p
def Xjy (k : Nat) : FD := ⟨60, Xpr, Xtp, F60 k⟩
theorem Xs7 (k : Nat) : (Xjy k).Ok Try.prog := ⟨fun x => Rt.con x.1 x.2.1 x.2.2.1, .of (by kernel_rfl)⟩
abbrev Xtd (k : Nat) : Env := Bc Bp Ap .own [] k
abbrev Xis : List PA := [.one (.sl .own An)]
abbrev F62_O : RO := ⟨[.v], [.sl .own An]⟩
def Yc {β : Type} (RET : Ae → Option β) (k : Nat) (v : Ae) : Option β := cond (decide (0 ≤ (v.length : Int)) && decide ((v.length : Int) ≤ (v.length : Int))) (cond (decide ((v.length : Int) = (v.length : Int))) (RET ((v.take ((v.length : Int).toNat)).drop 0)) none) none
def F62 := Yc (β := Ae) some
theorem Xmh {β : Type} (k : Nat) (v : Ae) (K : KT β) : Ag (Xtd k) Try.f62 (PsT.put Xis (v, ())) K = (F62 k v).bind fun r => K (F62_O.put r) :=
 Eq.trans (b := Yc (fun r => K (F62_O.put r)) k v) (by kernel_rfl) (by simp only [F62, Yc, z1, z2, z3, z4, z5, z6, z7, z8])
def Xbc (k : Nat) : FD := ⟨62, Xis, F62_O, F62 k⟩
theorem Xgx (k : Nat) : (Xbc k).Ok Try.prog := ⟨fun x => Ad (Ai .none _ _ _ _) Ah Try.func62 rfl rfl (Xmh k _ some), .of (by kernel_rfl)⟩
def Xq8 : Nat → Hint
 | 0 => ⟨pl 2 1 (pl 6 2 []), pl 2000 9 ((6000, .own .own An []) :: (pl 7000 1 []))⟩
 | _ => ⟨[], []⟩
abbrev Fr (k : Nat) : Env := Bc (A1 [Xp k, Wz k, Xbc k]) Xq8 .own [] k
abbrev Xbi : List PA := [.agg (.pair mI J1), .one mI]
abbrev F61_O : RO := ⟨[.v, .v], [.sl .own An, mB]⟩
noncomputable def Ta {β : Type} (k : Nat) (v : (den An)) (w : Int) (K : KT β) : Ex → St → Option β := Bz (Fr k) Try.f61 (PsT.put Xbi (v, w, ())) K
def Og (v : (den An)) (w : Int) (m6000_0 : Ae) (m7000_0 : Int) : St := ⟨(.one .d) :: (.one .d) :: (.one (.ptr (.cell 2000) 9 0)) :: dz 3 ((.one (.ptr (.cell 6000) 1 0)) :: (.one (.ptr (.cell 7000) 1 0)) :: dz 54 []), Cf 2000 (Jf (.pair mI J1) v) [eM 6000 (.s .own An m6000_0), iM 7000 m7000_0]⟩
def Fy (k : Nat) (v : (den An)) (w : Int) : List Ac → Ae → Int → Option (Ae × Bool)
 | [], m6000_0, m7000_0 => A2 (i64.wrap ((m6000_0.length : Int) - 1)) m6000_0 ((sto (m6000_0.set ((i64.wrap ((m6000_0.length : Int) - 1)).toNat) ((Af m6000_0 (i64.wrap ((m6000_0.length : Int) - 1))).1, (Af m6000_0 (i64.wrap ((m6000_0.length : Int) - 1))).2.1, (Af m6000_0 (i64.wrap ((m6000_0.length : Int) - 1))).2.2.1, (Af m6000_0 (i64.wrap ((m6000_0.length : Int) - 1))).2.2.2.1, (Af m6000_0 (i64.wrap ((m6000_0.length : Int) - 1))).2.2.2.2.1, (Af m6000_0 (i64.wrap ((m6000_0.length : Int) - 1))).2.2.2.2.2.1, v.2.2.2.2.2.2.1, (Af m6000_0 (i64.wrap ((m6000_0.length : Int) - 1))).2.2.2.2.2.2.2))).bind fun b3 => cond v.2.2.2.2.2.2.2.1 (some ([], false)) (cond (decide ((Af b3 (i64.wrap ((m6000_0.length : Int) - 1))).2.2.2.2.2.1 > 255)) (some ([], false)) ((F62 k b3).bind fun b4 => some (b4, true))))
 | z0_0 :: r, m6000_0, m7000_0 => Aw v fun v0 v1 v2 v3 v4 _ _ v7 _ => (F71 k z0_0).bind fun b2 => Dv (m6000_0.length) ([(v0, v1, v2, v3, v4, m7000_0, true, v7, b2)].length) 80 (Fy k v w r (m6000_0 ++ [(v0, v1, v2, v3, v4, m7000_0, true, v7, b2)]) (i64.wrap (m7000_0 + (z0_0.length : Int))))
theorem Zu {β : Type} (k : Nat) (v : (den An)) (w : Int) (m6000_0 : Ae) (m7000_0 : Int) (K : KT β) :
  Dj (Fr k) Try.f61 [1, 1, 1, 1, 0, 1, 0] 0 25 (Ak (Fr k) [1, 1, 1, 1, 0, 1, 0] (Al Try.f61) 0 (Ta k v w K)) ([] : List Ac) (Og v w m6000_0 m7000_0) =
  A2 (i64.wrap ((m6000_0.length : Int) - 1)) m6000_0 ((sto (m6000_0.set ((i64.wrap ((m6000_0.length : Int) - 1)).toNat) ((Af m6000_0 (i64.wrap ((m6000_0.length : Int) - 1))).1, (Af m6000_0 (i64.wrap ((m6000_0.length : Int) - 1))).2.1, (Af m6000_0 (i64.wrap ((m6000_0.length : Int) - 1))).2.2.1, (Af m6000_0 (i64.wrap ((m6000_0.length : Int) - 1))).2.2.2.1, (Af m6000_0 (i64.wrap ((m6000_0.length : Int) - 1))).2.2.2.2.1, (Af m6000_0 (i64.wrap ((m6000_0.length : Int) - 1))).2.2.2.2.2.1, v.2.2.2.2.2.2.1, (Af m6000_0 (i64.wrap ((m6000_0.length : Int) - 1))).2.2.2.2.2.2.2))).bind fun b3 => cond v.2.2.2.2.2.2.2.1 (K (F61_O.put ([], false))) (cond (decide ((Af b3 (i64.wrap ((m6000_0.length : Int) - 1))).2.2.2.2.2.1 > 255)) (K (F61_O.put ([], false))) ((F62 k b3).bind fun b4 => K (F61_O.put (b4, true))))) := by kernel_rfl
theorem Zk {β : Type} (k : Nat) (v : (den An)) (w : Int) (z0_0 : Ac) (r : List Ac) (m6000_0 : Ae) (m7000_0 : Int) (K : KT β) :
  Dj (Fr k) Try.f61 [1, 1, 1, 1, 0, 1, 0] 0 25 (Ak (Fr k) [1, 1, 1, 1, 0, 1, 0] (Al Try.f61) 0 (Ta k v w K)) (z0_0 :: r) (Og v w m6000_0 m7000_0) =
  Aw v fun v0 v1 v2 v3 v4 _ _ v7 _ => (F71 k z0_0).bind fun b2 => Dv (m6000_0.length) ([(v0, v1, v2, v3, v4, m7000_0, true, v7, b2)].length) 80 (Dj (Fr k) Try.f61 [1, 1, 1, 1, 0, 1, 0] 0 25 (Ak (Fr k) [1, 1, 1, 1, 0, 1, 0] (Al Try.f61) 0 (Ta k v w K)) r (Og v w (m6000_0 ++ [(v0, v1, v2, v3, v4, m7000_0, true, v7, b2)]) (i64.wrap (m7000_0 + (z0_0.length : Int))))) := by kernel_rfl
theorem Yr {β : Type} (k : Nat) (v : (den An)) (w : Int) (K : KT β) (l : List Ac) : ∀ (m6000_0 : Ae) (m7000_0 : Int), Dj (Fr k) Try.f61 [1, 1, 1, 1, 0, 1, 0] 0 25 (Ak (Fr k) [1, 1, 1, 1, 0, 1, 0] (Al Try.f61) 0 (Ta k v w K)) l (Og v w m6000_0 m7000_0) =
  (Fy k v w l m6000_0 m7000_0).bind fun r => K (F61_O.put r) := by
 induction l with
 | nil => intros; rw [Zu, Fy]; simp only [z1, z2, z3, z4, z5, z6, z7, z8, Aw]
 | cons z r ih =>
  intros
  rw [Zk, Fy]
  simp only [z1, z2, z3, z4, z5, z6, z7, z8, Aw, ih]
def F61 (k : Nat) (v : (den An)) (w : Int) : Option (Ae × Bool) := cond (decide ((v.2.2.2.2.2.2.2.2.length : Int) ≤ w)) ((F58 k v).bind fun b1 => some ([b1], true)) (cond (decide (1 ≤ w) && decide (w ≤ 9223372036854775807) && decide (v.2.2.2.2.2.2.2.2.length ≤ 140737488355328)) (Fy k v w (Bm ((w : Int).toNat) v.2.2.2.2.2.2.2.2) [] v.2.2.2.2.2.1) none)
theorem Xnu {β : Type} (k : Nat) (v : (den An)) (w : Int) (K : KT β) : Ag (Fr k) Try.f61 (PsT.put Xbi (v, w, ())) K = (F61 k v w).bind fun r => K (F61_O.put r) :=
 Eq.trans (b := cond (decide ((v.2.2.2.2.2.2.2.2.length : Int) ≤ w)) ((F58 k v).bind fun b1 => K (F61_O.put ([b1], true))) (cond (decide (1 ≤ w) && decide (w ≤ 9223372036854775807) && decide (v.2.2.2.2.2.2.2.2.length ≤ 140737488355328)) (Dj (Fr k) Try.f61 [1, 1, 1, 1, 0, 1, 0] 0 25 (Ak (Fr k) [1, 1, 1, 1, 0, 1, 0] (Al Try.f61) 0 (Ta k v w K)) (Bm ((w : Int).toNat) v.2.2.2.2.2.2.2.2) (Og v w [] v.2.2.2.2.2.1)) none)) (by kernel_rfl) (by simp only [F61, z1, z2, z3, z4, z5, z6, z7, z8, Aw, Yr])
def Xgf (k : Nat) : FD := ⟨61, Xbi, F61_O, F61 k⟩
theorem Xpq (k : Nat) : (Xgf k).Ok Try.prog := ⟨fun x => Ad (Ai (Aj (.c (Xbe k) (.c (Xd5 k) (.c (Xgx k) .n)))) _ _ _ _) Ah Try.func61 rfl rfl (Xnu k _ _ some), .of (by kernel_rfl)⟩
end
end Go.Proofs.Ytdmepjjepogddaa.Gn
end

section
set_option linter.unusedVariables false
set_option linter.unusedSimpArgs false
namespace Go.Proofs.Ytdmepjjepogddaa.Gn
open Go.Rf IntKind
noncomputable section
def Xsi : Nat → Hint
 | 1 => ⟨pl 4 2 (pl 7 1 (pl 66 2 [])), pl 4000 3 (pl 5000 4 (pl 59000 1 []))⟩
 | _ => ⟨[], []⟩
abbrev X9 (k : Nat) : Env := Bc (A1 [Xp k, Xhu k, Xjy k, Xgf k]) Xsi .own [] k
abbrev Xeq : List PA := [.agg (.pair mI (.sl .ro Br)), .agg (.pair mI J1)]
abbrev F47_O : RO := ⟨[.a], [Xch]⟩
noncomputable def Xpo {β : Type} (k : Nat) (v : (den sta)) (w : (den An)) (K : KT β) : Ex → St → Option β := Bz (X9 k) Try.f47 (PsT.put Xeq (v, w, ())) K
def Xn9 (v : (den sta)) (w : (den An)) (x66_1 x67_1 : Int) (m5000_1 : (den Br)) (m59000_1 : Ae) : St := ⟨dz 4 ((.one (.ptr (.cell 4000) 3 0)) :: (.one (.ptr (.cell 5000) 4 0)) :: (.one .d) :: (.one (.a (.cell 59000) 0 0 none)) :: dz 58 ((.one (vI x66_1)) :: (.one (vI x67_1)) :: dz 15 [])), Cf 4000 (Jf Xch (0, 0, [])) (Cf 5000 (Jf m_4 m5000_1) [eM 59000 (.s .own An m59000_1)])⟩
noncomputable def Nw {β : Type} (k : Nat) (v : (den sta)) (w : (den An)) (K : KT β) (n : Nat) (x66_1 x67_1 : Int) (m5000_1 : (den Br)) (m59000_1 : Ae) : Option β := A6 (X9 k) Try.f47 [1, 1, 1, 1, 1, 1, 1, 0, 1, 0] 1 (Ak (X9 k) [1, 1, 1, 1, 1, 1, 1, 0, 1, 0] (Al Try.f47) 0 (Xpo k v w K)) n (Xn9 v w x66_1 x67_1 m5000_1 m59000_1)
def Ga {β : Type} (NX : Int → Int → (den Br) → Ae → Option β) (RET : (den Ma) → Option β) (k : Nat) (v : (den sta)) (w : (den An)) (x66_1 x67_1 : Int) (m5000_1 : (den Br)) (m59000_1 : Ae) : Option β := cond (decide (x67_1 < x66_1)) (A2 x67_1 m59000_1 (A2 x67_1 m59000_1 (NX x66_1 (i64.wrap (x67_1 + 1)) m5000_1 (m59000_1.set x67_1.toNat ((Af m59000_1 x67_1).1, (Af m59000_1 x67_1).2.1, (Af m59000_1 x67_1).2.2.1, i64.wrap ((Af m59000_1 x67_1).2.2.2.1 - 1), (Af m59000_1 x67_1).2.2.2.2))))) (RET (2, m5000_1.2.2.1, m59000_1))
def E8 (k : Nat) (v : (den sta)) (w : (den An)) : Nat → Int → Int → (den Br) → Ae → Option ((den Ma))
 | 0, _, _, _, _ => none
 | n + 1, x66_1, x67_1, m5000_1, m59000_1 => Ga (E8 k v w n) some k v w x66_1 x67_1 m5000_1 m59000_1
theorem Z4 {β : Type} (k : Nat) (v : (den sta)) (w : (den An)) (K : KT β) (n : Nat) : ∀ (x66_1 x67_1 : Int) (m5000_1 : (den Br)) (m59000_1 : Ae), Nw k v w K n x66_1 x67_1 m5000_1 m59000_1 =
  (E8 k v w n x66_1 x67_1 m5000_1 m59000_1).bind fun r => K (F47_O.put r) := by
 induction n with
 | zero => intros; rfl
 | succ n ih =>
  intro x66_1 x67_1 m5000_1 m59000_1
  refine Eq.trans (b := Ga (Nw k v w K n) (fun r => K (F47_O.put r)) k v w x66_1 x67_1 m5000_1 m59000_1) (by kernel_rfl) ?_
  rw [E8]
  simp only [Ga, z1, z2, z3, z4, z5, z6, z7, z8, Aw, ih]
def X4 {β : Type} (LP1 : Int → Int → (den Br) → Ae → Option β) (RET : (den Ma) → Option β) (k : Nat) (v : (den sta)) (w : (den An)) : Option β := cond (w.2.1 == v.1) ((F58 k w).bind fun b1 => RET (1, 0, [b1])) (cond (decide (w.2.2.2.1 < 2)) ((F59 k v w 4 0).bind fun b2 => RET b2) ((F60 k v.2 w.2.1 17).bind fun b3 => cond (!b3.2) ((F59 k v w 3 0).bind fun b4 => RET b4) (cond (decide ((w.2.2.2.2.2.2.2.2.length : Int) > b3.1.2.2.2)) (cond w.2.2.2.2.2.2.2.1 ((F59 k v w 6 b3.1.2.2.2).bind fun b5 => RET b5) ((F61 k w b3.1.2.2.2).bind fun b6 => cond (!b6.2) (RET (0, 0, [])) (LP1 (b6.1.length : Int) 0 b3.1 b6.1))) ((F61 k w b3.1.2.2.2).bind fun b7 => cond (!b7.2) (RET (0, 0, [])) (LP1 (b7.1.length : Int) 0 b3.1 b7.1)))))
def F47 (k : Nat) (v : (den sta)) (w : (den An)) : Option ((den Ma)) := X4 (E8 k v w k) some k v w
theorem Xm0 {β : Type} (k : Nat) (v : (den sta)) (w : (den An)) (K : KT β) : Ag (X9 k) Try.f47 (PsT.put Xeq (v, w, ())) K = (F47 k v w).bind fun r => K (F47_O.put r) :=
 Eq.trans (b := X4 (Nw k v w K k) (fun r => K (F47_O.put r)) k v w) (by kernel_rfl) (by simp only [F47, X4, z1, z2, z3, z4, z5, z6, z7, z8, Aw, Z4])
def Xi2 (k : Nat) : FD := ⟨47, Xeq, F47_O, F47 k⟩
theorem Xts (k : Nat) : (Xi2 k).Ok Try.prog := ⟨fun x => Ad (Ai (Aj (.c (Xbe k) (.c (Xqf k) (.c (Xs7 k) (.c (Xpq k) .n))))) _ _ _ _) Ah Try.func47 rfl rfl (Xm0 k _ _ some), .of (by kernel_rfl)⟩
def Xtw : Nat → Hint
 | 0 => ⟨(3, .own .own An []) :: (pl 6 3 []), []⟩
 | _ => ⟨[], []⟩
abbrev V2 (k : Nat) : Env := Bc (A1 [Xp k, Xbc k]) Xtw .own [] k
abbrev Xex : List PA := [.one (.sl .ro An)]
abbrev F48_O : RO := ⟨[.v], [.sl .own An]⟩
noncomputable def Xug {β : Type} (k : Nat) (v : Ae) (K : KT β) : Ex → St → Option β := Bz (V2 k) Try.f48 (PsT.put Xex (v, ())) K
def Xpa (v : Ae) (x8_0 : Int) (m3900_0 : Ae) : St := ⟨dz 3 ((.one (.a (.cell 3900) 0 0 none)) :: (.one .d) :: (.one .d) :: (.one (.s .ro An v)) :: (.one (vI (v.length : Int))) :: (.one (vI x8_0)) :: dz 11 []), [eM 3900 (.s .own An m3900_0)]⟩
noncomputable def Nl {β : Type} (k : Nat) (v : Ae) (K : KT β) (n : Nat) (x8_0 : Int) (m3900_0 : Ae) : Option β := A6 (V2 k) Try.f48 [1, 1, 0, 1, 0] 0 (Ak (V2 k) [1, 1, 0, 1, 0] (Al Try.f48) 0 (Xug k v K)) n (Xpa v x8_0 m3900_0)
def Jq {β : Type} (NX : Int → Ae → Option β) (RET : Ae → Option β) (k : Nat) (v : Ae) (x8_0 : Int) (m3900_0 : Ae) : Option β := cond (decide (x8_0 < (v.length : Int))) (A2 x8_0 v ((F58 k (Af v x8_0)).bind fun b1 => Dv (m3900_0.length) ([b1].length) 80 (NX (i64.wrap (x8_0 + 1)) (m3900_0 ++ [b1])))) ((F62 k m3900_0).bind fun b2 => RET b2)
def Le (k : Nat) (v : Ae) : Nat → Int → Ae → Option (Ae)
 | 0, _, _ => none
 | n + 1, x8_0, m3900_0 => Jq (Le k v n) some k v x8_0 m3900_0
theorem Zw {β : Type} (k : Nat) (v : Ae) (K : KT β) (n : Nat) : ∀ (x8_0 : Int) (m3900_0 : Ae), Nl k v K n x8_0 m3900_0 =
  (Le k v n x8_0 m3900_0).bind fun r => K (F48_O.put r) := by
 induction n with
 | zero => intros; rfl
 | succ n ih =>
  intro x8_0 m3900_0
  refine Eq.trans (b := Jq (Nl k v K n) (fun r => K (F48_O.put r)) k v x8_0 m3900_0) (by kernel_rfl) ?_
  rw [Le]
  simp only [Jq, z1, z2, z3, z4, z5, z6, z7, z8, ih]
def V6 {β : Type} (LP0 : Int → Ae → Option β) (k : Nat) (v : Ae) : Option β := LP0 0 []
def F48 (k : Nat) (v : Ae) : Option (Ae) := V6 (Le k v k) k v
theorem Xl7 {β : Type} (k : Nat) (v : Ae) (K : KT β) : Ag (V2 k) Try.f48 (PsT.put Xex (v, ())) K = (F48 k v).bind fun r => K (F48_O.put r) :=
 Eq.trans (b := V6 (Nl k v K k) k v) (by kernel_rfl) (by simp only [F48, V6, z1, z2, z3, z4, z5, z6, z7, z8, Zw])
def Xib (k : Nat) : FD := ⟨48, Xex, F48_O, F48 k⟩
theorem Xpx (k : Nat) : (Xib k).Ok Try.prog := ⟨fun x => Ad (Ai (Aj (.c (Xbe k) (.c (Xgx k) .n))) _ _ _ _) Ah Try.func48 rfl rfl (Xl7 k _ some), .of (by kernel_rfl)⟩
def Xst : Nat → Hint
 | 0 => ⟨pl 0 1 (pl 6 2 ((8, .own .sown (.pair (.int .i64) An) []) :: [])), pl 6000 3 ((7000, .own .own An []) :: (7001, .own .own An []) :: (pl 7002 1 []))⟩
 | 3 => ⟨pl 0 1 (pl 6 2 ((8, .own .sown (.pair (.int .i64) An) []) :: (pl 11 1 (pl 65 3 [])))), pl 6000 3 (pl 7000 3 ((37002, .own .sown An []) :: []))⟩
 | _ => ⟨[], []⟩
abbrev G5 (k : Nat) : Env := Bc (A1 [Xi2 k, Xev k, Xib k]) Xst .own [] k
abbrev Xdu : List PA := [.one (.sl .ro sta), .one mI, .agg (.pair mI J1)]
abbrev F29_O : RO := ⟨[.a], [Ge]⟩
noncomputable def Xd9 {β : Type} (k : Nat) (v : Ab) (w : Int) (p : (den An)) (K : KT β) : Ex → St → Option β := Bz (G5 k) Try.f29 (PsT.put Xdu (v, w, p, ())) K
def Xlm (v : Ab) (w : Int) (p : (den An)) (x11_3 x66_3 x67_3 : Int) (m7000_3 : (den Co)) (m37002_3 : Ae) (m8900_3 : A8) : St := ⟨(.one (.s .ro sta v)) :: dz 5 ((.one (.ptr (.cell 6000) 3 0)) :: (.one (.ptr (.cell 7000) 3 0)) :: (.one (.a (.cell 8900) 0 0 none)) :: (.one .d) :: (.one .d) :: (.one (vI x11_3)) :: dz 53 ((.one (.a (.cell 37002) 0 0 none)) :: (.one (vI x66_3)) :: (.one (vI x67_3)) :: dz 19 [])), Cf 6000 (Jf Ge ([], [], 0)) (Cf 7000 (Jf Ge m7000_3) [eM 37002 (.s .sown An m37002_3), eM 8900 (.s .sown (.pair (.int .i64) An) m8900_3)])⟩
noncomputable def Oz {β : Type} (k : Nat) (v : Ab) (w : Int) (p : (den An)) (KK : Ex → St → Option β) (n : Nat) (x11_3 x66_3 x67_3 : Int) (m7000_3 : (den Co)) (m37002_3 : Ae) (m8900_3 : A8) : Option β := A6 (G5 k) Try.f29 [1, 1, 0, 1, 0, 0, 1, 0, 1, 1, 1, 1, 1, 0, 1, 1, 1, 1, 1, 0, 1, 1, 0, 1, 0] 3 KK n (Xlm v w p x11_3 x66_3 x67_3 m7000_3 m37002_3 m8900_3)
def Jt {β : Type} (NX : Int → Int → Int → (den Co) → Ae → A8 → Option β) (EX0 : (Int × Int × Int × (den Co) × Ae × A8) → Option β) (k : Nat) (v : Ab) (w : Int) (p : (den An)) (x11_3 x66_3 x67_3 : Int) (m7000_3 : (den Co)) (m37002_3 : Ae) (m8900_3 : A8) : Option β := cond (decide (x67_3 < x66_3)) (A2 x67_3 m37002_3 (Dv (m8900_3.length) ([(x11_3, (Af m37002_3 x67_3))].length) 88 (NX x11_3 x66_3 (i64.wrap (x67_3 + 1)) m7000_3 m37002_3 (m8900_3 ++ [(x11_3, (Af m37002_3 x67_3))])))) (EX0 (x11_3, x66_3, x67_3, m7000_3, m37002_3, m8900_3))
def La (k : Nat) (v : Ab) (w : Int) (p : (den An)) : Nat → Int → Int → Int → (den Co) → Ae → A8 → Option ((Int × Int × Int × (den Co) × Ae × A8))
 | 0, _, _, _, _, _, _ => none
 | n + 1, x11_3, x66_3, x67_3, m7000_3, m37002_3, m8900_3 => Jt (La k v w p n) (fun y3 => some y3) k v w p x11_3 x66_3 x67_3 m7000_3 m37002_3 m8900_3
theorem Zv {β : Type} (k : Nat) (v : Ab) (w : Int) (p : (den An)) (KK : Ex → St → Option β) (n : Nat) : ∀ (x11_3 x66_3 x67_3 : Int) (m7000_3 : (den Co)) (m37002_3 : Ae) (m8900_3 : A8), Oz k v w p KK n x11_3 x66_3 x67_3 m7000_3 m37002_3 m8900_3 =
  (La k v w p n x11_3 x66_3 x67_3 m7000_3 m37002_3 m8900_3).bind fun y3 => KK (.exit 3) ⟨(.one (.s .ro sta v)) :: dz 5 ((.one (.ptr (.cell 6000) 3 0)) :: (.one (.ptr (.cell 7000) 3 0)) :: (.one (.a (.cell 8900) 0 0 none)) :: (.one .d) :: (.one .d) :: (.one (vI y3.1)) :: dz 53 ((.one (.a (.cell 37002) 0 0 none)) :: (.one (vI y3.2.1)) :: (.one (vI y3.2.2.1)) :: (.one (vB false)) :: dz 18 [])), Cf 6000 (Jf Ge ([], [], 0)) (Cf 7000 (Jf Ge y3.2.2.2.1) [eM 37002 (.s .sown An y3.2.2.2.2.1), eM 8900 (.s .sown (.pair (.int .i64) An) y3.2.2.2.2.2)])⟩ := by
 induction n with
 | zero => intros; rfl
 | succ n ih =>
  intro x11_3 x66_3 x67_3 m7000_3 m37002_3 m8900_3
  refine Eq.trans (b := Jt (Oz k v w p KK n) (fun y3 => KK (.exit 3) ⟨(.one (.s .ro sta v)) :: dz 5 ((.one (.ptr (.cell 6000) 3 0)) :: (.one (.ptr (.cell 7000) 3 0)) :: (.one (.a (.cell 8900) 0 0 none)) :: (.one .d) :: (.one .d) :: (.one (vI y3.1)) :: dz 53 ((.one (.a (.cell 37002) 0 0 none)) :: (.one (vI y3.2.1)) :: (.one (vI y3.2.2.1)) :: (.one (vB false)) :: dz 18 [])), Cf 6000 (Jf Ge ([], [], 0)) (Cf 7000 (Jf Ge y3.2.2.2.1) [eM 37002 (.s .sown An y3.2.2.2.2.1), eM 8900 (.s .sown (.pair (.int .i64) An) y3.2.2.2.2.2)])⟩) k v w p x11_3 x66_3 x67_3 m7000_3 m37002_3 m8900_3) (by kernel_rfl) ?_
  rw [La]
  simp only [Jt, z1, z2, z3, z4, z5, z6, z7, z8, Aw, ih]
def Xk6 (v : Ab) (w : Int) (p : (den An)) (m7000_0 : (den Co)) (m8900_0 : A8) : St := ⟨(.one (.s .ro sta v)) :: dz 5 ((.one (.ptr (.cell 6000) 3 0)) :: (.one (.ptr (.cell 7000) 3 0)) :: (.one (.a (.cell 8900) 0 0 none)) :: dz 78 []), Cf 6000 (Jf Ge ([], [], 0)) (Cf 7000 (Jf Ge m7000_0) [eM 8900 (.s .sown (.pair (.int .i64) An) m8900_0)])⟩
noncomputable def Du {β : Type} (k : Nat) (v : Ab) (w : Int) (p : (den An)) (K : KT β) (n : Nat) (m7000_0 : (den Co)) (m8900_0 : A8) : Option β := A6 (G5 k) Try.f29 [1, 1, 0, 1, 0] 0 (Ak (G5 k) [1, 1, 0, 1, 0] (Al Try.f29) 0 (Xd9 k v w p K)) n (Xk6 v w p m7000_0 m8900_0)
def Cp (k : Nat) (v : Ab) (w : Int) (p : (den An)) : Nat → (den Co) → A8 → Option ((den Co))
 | 0, _, _ => none
 | n + 1, m7000_0, m8900_0 => cond (decide ((m8900_0.length : Int) > 0)) (cond (decide (0 < (m8900_0.length : Int))) (cond (decide (0 ≤ 1) && decide (1 ≤ (m8900_0.length : Int))) (A2 (Af m8900_0 0).1 v ((F47 k (Af v (Af m8900_0 0).1) (Af m8900_0 0).2).bind fun b1 => cond (b1.1 == 1) (Dv (m7000_0.1.length) (b1.2.2.length) 80 (Cp k v w p n (m7000_0.1 ++ b1.2.2, m7000_0.2.1, i64.wrap (m7000_0.2.2 + 1)) ((m8900_0.take (((m8900_0.length : Int)).toNat)).drop 1))) (cond (b1.1 == 3) (Dv (m7000_0.2.1.length) (b1.2.2.length) 80 (Cp k v w p n (m7000_0.1, m7000_0.2.1 ++ b1.2.2, i64.wrap (m7000_0.2.2 + 1)) ((m8900_0.take (((m8900_0.length : Int)).toNat)).drop 1))) (cond (b1.1 == 2) ((F45 k v b1.2.1).bind fun b2 => cond (decide (b2 ≥ 0)) ((La k v w p k b2 (b1.2.2.length : Int) 0 (m7000_0.1, m7000_0.2.1, i64.wrap (m7000_0.2.2 + 1)) b1.2.2 ((m8900_0.take (((m8900_0.length : Int)).toNat)).drop 1)).bind fun y3 => Cp k v w p n y3.2.2.2.1 y3.2.2.2.2.2) (Cp k v w p n (m7000_0.1, m7000_0.2.1, i64.wrap (m7000_0.2.2 + 1)) ((m8900_0.take (((m8900_0.length : Int)).toNat)).drop 1))) (Cp k v w p n (m7000_0.1, m7000_0.2.1, i64.wrap (m7000_0.2.2 + 1)) ((m8900_0.take (((m8900_0.length : Int)).toNat)).drop 1)))))) none) none) ((F48 k m7000_0.1).bind fun b3 => (F48 k m7000_0.2.1).bind fun b4 => some (b3, b4, m7000_0.2.2))
theorem Sz {β : Type} (k n : Nat) (v : Ab) (w : Int) (p : (den An)) (y3 : Int × Int × Int × (den Co) × Ae × A8) (K : KT β) :
  (Ak (G5 k) [1, 0, 1, 1, 1, 1, 1, 0, 1, 1, 1, 1, 1, 0, 1, 1, 0, 1, 0] (B0 [1, 1, 0, 1, 0, 0] (Al Try.f29)) 0 (Il (G5 k) Try.f29 [1, 1, 0, 1, 0] 0 (Ak (G5 k) [1, 1, 0, 1, 0] (Al Try.f29) 0 (Xd9 k v w p K)) n)) (.exit 3) ⟨(.one (.s .ro sta v)) :: dz 5 ((.one (.ptr (.cell 6000) 3 0)) :: (.one (.ptr (.cell 7000) 3 0)) :: (.one (.a (.cell 8900) 0 0 none)) :: (.one .d) :: (.one .d) :: (.one (vI y3.1)) :: dz 53 ((.one (.a (.cell 37002) 0 0 none)) :: (.one (vI y3.2.1)) :: (.one (vI y3.2.2.1)) :: (.one (vB false)) :: dz 18 [])), Cf 6000 (Jf Ge ([], [], 0)) (Cf 7000 (Jf Ge y3.2.2.2.1) [eM 37002 (.s .sown An y3.2.2.2.2.1), eM 8900 (.s .sown (.pair (.int .i64) An) y3.2.2.2.2.2)])⟩ =
  Du k v w p K n y3.2.2.2.1 y3.2.2.2.2.2 := by kernel_rfl
theorem Zz {β : Type} (k : Nat) (v : Ab) (w : Int) (p : (den An)) (K : KT β) (n : Nat) : ∀ (m7000_0 : (den Co)) (m8900_0 : A8), Du k v w p K n m7000_0 m8900_0 =
  (Cp k v w p n m7000_0 m8900_0).bind fun r => K (F29_O.put r) := by
 induction n with
 | zero => intros; rfl
 | succ n ih =>
  intro m7000_0 m8900_0
  refine Eq.trans (b := cond (decide ((m8900_0.length : Int) > 0)) (cond (decide (0 < (m8900_0.length : Int))) (cond (decide (0 ≤ 1) && decide (1 ≤ (m8900_0.length : Int))) (A2 (Af m8900_0 0).1 v ((F47 k (Af v (Af m8900_0 0).1) (Af m8900_0 0).2).bind fun b1 => cond (b1.1 == 1) (Dv (m7000_0.1.length) (b1.2.2.length) 80 (Du k v w p K n (m7000_0.1 ++ b1.2.2, m7000_0.2.1, i64.wrap (m7000_0.2.2 + 1)) ((m8900_0.take (((m8900_0.length : Int)).toNat)).drop 1))) (cond (b1.1 == 3) (Dv (m7000_0.2.1.length) (b1.2.2.length) 80 (Du k v w p K n (m7000_0.1, m7000_0.2.1 ++ b1.2.2, i64.wrap (m7000_0.2.2 + 1)) ((m8900_0.take (((m8900_0.length : Int)).toNat)).drop 1))) (cond (b1.1 == 2) ((F45 k v b1.2.1).bind fun b2 => cond (decide (b2 ≥ 0)) (Oz k v w p (Ak (G5 k) [1, 0, 1, 1, 1, 1, 1, 0, 1, 1, 1, 1, 1, 0, 1, 1, 0, 1, 0] (B0 [1, 1, 0, 1, 0, 0] (Al Try.f29)) 0 (Il (G5 k) Try.f29 [1, 1, 0, 1, 0] 0 (Ak (G5 k) [1, 1, 0, 1, 0] (Al Try.f29) 0 (Xd9 k v w p K)) n)) k b2 (b1.2.2.length : Int) 0 (m7000_0.1, m7000_0.2.1, i64.wrap (m7000_0.2.2 + 1)) b1.2.2 ((m8900_0.take (((m8900_0.length : Int)).toNat)).drop 1)) (Du k v w p K n (m7000_0.1, m7000_0.2.1, i64.wrap (m7000_0.2.2 + 1)) ((m8900_0.take (((m8900_0.length : Int)).toNat)).drop 1))) (Du k v w p K n (m7000_0.1, m7000_0.2.1, i64.wrap (m7000_0.2.2 + 1)) ((m8900_0.take (((m8900_0.length : Int)).toNat)).drop 1)))))) none) none) ((F48 k m7000_0.1).bind fun b3 => (F48 k m7000_0.2.1).bind fun b4 => K (F29_O.put (b3, b4, m7000_0.2.2)))) (by kernel_rfl) ?_
  rw [Cp]
  simp only [z1, z2, z3, z4, z5, z6, z7, z8, Aw, Zv, Sz k n v w p _ K, ih, A2, Dv]
def Wr {β : Type} (LP0 : (den Co) → A8 → Option β) (k : Nat) (v : Ab) (w : Int) (p : (den An)) : Option β := Aw p fun p0 p1 p2 p3 p4 p5 p6 p7 p8 => LP0 ([], [], 0) [(w, p0, p1, p2, p3, p4, p5, p6, p7, p8)]
def F29 (k : Nat) (v : Ab) (w : Int) (p : (den An)) : Option ((den Co)) := Wr (Cp k v w p k) k v w p
theorem Xlf {β : Type} (k : Nat) (v : Ab) (w : Int) (p : (den An)) (K : KT β) : Ag (G5 k) Try.f29 (PsT.put Xdu (v, w, p, ())) K = (F29 k v w p).bind fun r => K (F29_O.put r) :=
 Eq.trans (b := Wr (Du k v w p K k) k v w p) (by kernel_rfl) (by simp only [F29, Wr, z1, z2, z3, z4, z5, z6, z7, z8, Aw, Zz])
def Xg3 (k : Nat) : FD := ⟨29, Xdu, F29_O, F29 k⟩
theorem Xrj (k : Nat) : (Xg3 k).Ok Try.prog := ⟨fun x => Ad (Ai (Aj (.c (Xts k) (.c (Xj1 k) (.c (Xpx k) .n)))) _ _ _ _) Ah Try.func29 rfl rfl (Xlf k _ _ _ some), .of (by kernel_rfl)⟩
abbrev F9_E (k : Nat) : Env := Bc (A1 [Xgp k, L1 k, Xc6 k, Xg3 k]) Ap .own [] k
abbrev F9_A : List PA := [.one (.sl .ro sta), .one mI, .agg (.pair mI J1)]
abbrev F9_O : RO := ⟨[.a], [Ge]⟩
def Xfy {β : Type} (RET : (den Co) → Option β) (k : Nat) (v : Ab) (w : Int) (p : (den An)) : Option β := (F26 k v).bind fun b1 => cond (!b1) (RET ([], [], 0)) ((Tz k w 0 (i64.wrap ((v.length : Int) - 1))).bind fun b2 => cond (!b2) (RET ([], [], 0)) ((F28 k p).bind fun b3 => cond (!b3) (RET ([], [], 0)) ((F29 k v w p).bind fun b4 => RET b4)))
def F9 := Xfy (β := (den Co)) some
theorem Xu4 {β : Type} (k : Nat) (v : Ab) (w : Int) (p : (den An)) (K : KT β) : Ag (F9_E k) Try.f9 (PsT.put F9_A (v, w, p, ())) K = (F9 k v w p).bind fun r => K (F9_O.put r) :=
 Eq.trans (b := Xfy (fun r => K (F9_O.put r)) k v w p) (by kernel_rfl) (by simp only [F9, Xfy, z1, z2, z3, z4, z5, z6, z7, z8, Aw])
def F9_d (k : Nat) : FD := ⟨9, F9_A, F9_O, F9 k⟩
theorem F9_q (k : Nat) : (F9_d k).Ok Try.prog := ⟨fun x => Ad (Ai (Aj (.c (Xpz k) (.c (O5 k) (.c (Xjw k) (.c (Xrj k) .n))))) _ _ _ _) Ah Try.func9 rfl rfl (Xu4 k _ _ _ some), .of (by kernel_rfl)⟩
end
end Go.Proofs.Ytdmepjjepogddaa.Gn
end

section
set_option linter.unusedVariables false
set_option linter.unusedSimpArgs false
namespace Go.Proofs.Ytdmepjjepogddaa.Gn
open Go.Rf IntKind
noncomputable section
abbrev Xqz (k : Nat) : Env := Bc Bp Ap .own [] k
abbrev Xgd : List PA := [.one (.sl .ro Br), .one mI]
abbrev F37_O : RO := ⟨[.v], [mI]⟩
def Wv {β : Type} (RET : Int → Option β) (k : Nat) (v : Ar) (w : Int) : Option β := cond (decide ((i64.wrap (w - (v.length : Int))) < 0)) (RET (-1)) (RET (i64.wrap (w - (v.length : Int))))
def F37 := Wv (β := Int) some
theorem Xog {β : Type} (k : Nat) (v : Ar) (w : Int) (K : KT β) : Ag (Xqz k) Try.f37 (PsT.put Xgd (v, w, ())) K = (F37 k v w).bind fun r => K (F37_O.put r) :=
 Eq.trans (b := Wv (fun r => K (F37_O.put r)) k v w) (by kernel_rfl) (by simp only [F37, Wv, z1, z2, z3, z4, z5, z6, z7, z8])
def Xha (k : Nat) : FD := ⟨37, Xgd, F37_O, F37 k⟩
theorem Xqs (k : Nat) : (Xha k).Ok Try.prog := ⟨fun x => Ad (Ai .none _ _ _ _) Ah Try.func37 rfl rfl (Xog k _ _ some), .of (by kernel_rfl)⟩
abbrev Xtv (k : Nat) : Env := Bc (A1 [Xha k]) Ap .own [] k
abbrev Xjr : List PA := [.agg (.pair mI (.sl .ro Br)), .one mI]
abbrev F17_O : RO := ⟨[.v], [mI]⟩
def F17 (k : Nat) (v : (den sta)) (w : Int) : Option (Int) := (F37 k v.2 w).bind fun b1 => cond (decide (b1 < 0)) (some (-1)) (some b1)
theorem Xls {β : Type} (k : Nat) (v : (den sta)) (w : Int) (K : KT β) : Ag (Xtv k) Try.f17 (PsT.put Xjr (v, w, ())) K = (F17 k v w).bind fun r => K (F17_O.put r) :=
 Eq.trans (b := (F37 k v.2 w).bind fun b1 => cond (decide (b1 < 0)) (K (F17_O.put (-1))) (K (F17_O.put b1))) (by kernel_rfl) (by simp only [F17, z1, z2, z3, z4, z5, z6, z7, z8])
def Xiy (k : Nat) : FD := ⟨17, Xjr, F17_O, F17 k⟩
theorem Xuo (k : Nat) : (Xiy k).Ok Try.prog := ⟨fun x => Ad (Ai (Aj (.c (Xqs k) .n)) _ _ _ _) Ah Try.func17 rfl rfl (Xls k _ _ some), .of (by kernel_rfl)⟩
def F4_h : Nat → Hint
 | 0 => ⟨pl 0 2 (pl 5 1 []), []⟩
 | _ => ⟨[], []⟩
abbrev Xe8 (k : Nat) : Env := Bc (A1 [Xiy k]) F4_h .own [] k
abbrev Xm3 : List PA := [.one (.sl .ro sta), .one mI]
abbrev F4_O : RO := ⟨[.v], [mI]⟩
noncomputable def F4_z {β : Type} (k : Nat) (v : Ab) (w : Int) (K : KT β) : Ex → St → Option β := Bz (Xe8 k) Try.f4 (PsT.put Xm3 (v, w, ())) K
def Xuk (v : Ab) (w : Int) (x1_0 x5_0 : Int) : St := ⟨(.one (.s .ro sta v)) :: (.one (vI x1_0)) :: dz 3 ((.one (vI x5_0)) :: dz 21 []), []⟩
noncomputable def Q0 {β : Type} (k : Nat) (v : Ab) (w : Int) (K : KT β) (n : Nat) (x1_0 x5_0 : Int) : Option β := A6 (Xe8 k) Try.f4 [1, 1, 1, 0, 1, 0] 0 (Ak (Xe8 k) [1, 1, 1, 0, 1, 0] (Al Try.f4) 0 (F4_z k v w K)) n (Xuk v w x1_0 x5_0)
def Ml {β : Type} (NX : Int → Int → Option β) (RET : Int → Option β) (k : Nat) (v : Ab) (w : Int) (x1_0 x5_0 : Int) : Option β := cond (decide (x5_0 < (v.length : Int))) (A2 x5_0 v ((F17 k (Af v x5_0) x1_0).bind fun b1 => cond (decide (b1 < 0)) (RET (-1)) (NX b1 (i64.wrap (x5_0 + 1))))) (RET x1_0)
def Pl (k : Nat) (v : Ab) (w : Int) : Nat → Int → Int → Option (Int)
 | 0, _, _ => none
 | n + 1, x1_0, x5_0 => Ml (Pl k v w n) some k v w x1_0 x5_0
theorem Xca {β : Type} (k : Nat) (v : Ab) (w : Int) (K : KT β) (n : Nat) : ∀ (x1_0 x5_0 : Int), Q0 k v w K n x1_0 x5_0 =
  (Pl k v w n x1_0 x5_0).bind fun r => K (F4_O.put r) := by
 induction n with
 | zero => intros; rfl
 | succ n ih =>
  intro x1_0 x5_0
  refine Eq.trans (b := Ml (Q0 k v w K n) (fun r => K (F4_O.put r)) k v w x1_0 x5_0) (by kernel_rfl) ?_
  rw [Pl]
  simp only [Ml, z1, z2, z3, z4, z5, z6, z7, z8, ih]
def Xfg {β : Type} (LP0 : Int → Int → Option β) (RET : Int → Option β) (k : Nat) (v : Ab) (w : Int) : Option β := cond (decide ((i64.wrap (w - (v.length : Int))) < 0)) (RET (-1)) (LP0 (i64.wrap (w - (v.length : Int))) 0)
def F4 (k : Nat) (v : Ab) (w : Int) : Option (Int) := Xfg (Pl k v w k) some k v w
theorem Xrq {β : Type} (k : Nat) (v : Ab) (w : Int) (K : KT β) : Ag (Xe8 k) Try.f4 (PsT.put Xm3 (v, w, ())) K = (F4 k v w).bind fun r => K (F4_O.put r) :=
 Eq.trans (b := Xfg (Q0 k v w K k) (fun r => K (F4_O.put r)) k v w) (by kernel_rfl) (by simp only [F4, Xfg, z1, z2, z3, z4, z5, z6, z7, z8, Xca])
def F4_d (k : Nat) : FD := ⟨4, Xm3, F4_O, F4 k⟩
theorem F4_q (k : Nat) : (F4_d k).Ok Try.prog := ⟨fun x => Ad (Ai (Aj (.c (Xuo k) .n)) _ _ _ _) Ah Try.func4 rfl rfl (Xrq k _ _ some), .of (by kernel_rfl)⟩
abbrev Xpp (k : Nat) : Env := Bc Bp Ap .own [] k
abbrev Xgo : List PA := [.one (.sl .ro (.int .u8)), .one mI]
abbrev F18_O : RO := ⟨[.v], [mI]⟩
def Xl {β : Type} (RET : Int → Option β) (k : Nat) (v : Ac) (w : Int) : Option β := cond (decide ((i64.wrap (w - (v.length : Int))) < 0)) (RET (-1)) (RET (i64.wrap (w - (v.length : Int))))
def F18 := Xl (β := Int) some
theorem Xkn {β : Type} (k : Nat) (v : Ac) (w : Int) (K : KT β) : Ag (Xpp k) Try.f18 (PsT.put Xgo (v, w, ())) K = (F18 k v w).bind fun r => K (F18_O.put r) :=
 Eq.trans (b := Xl (fun r => K (F18_O.put r)) k v w) (by kernel_rfl) (by simp only [F18, Xl, z1, z2, z3, z4, z5, z6, z7, z8])
def Xhe (k : Nat) : FD := ⟨18, Xgo, F18_O, F18 k⟩
theorem Xss (k : Nat) : (Xhe k).Ok Try.prog := ⟨fun x => Ad (Ai .none _ _ _ _) Ah Try.func18 rfl rfl (Xkn k _ _ some), .of (by kernel_rfl)⟩
abbrev F5_E (k : Nat) : Env := Bc (A1 [Xhe k]) Ap .own [] k
abbrev F5_A : List PA := [.agg (.pair mI J1), .one mI]
abbrev F5_O : RO := ⟨[.v], [mI]⟩
def F5 (k : Nat) (v : (den An)) (w : Int) : Option (Int) := (F18 k v.2.2.2.2.2.2.2.2 w).bind fun b1 => cond (decide (b1 < 0)) (some (-1)) (some b1)
theorem Xvb {β : Type} (k : Nat) (v : (den An)) (w : Int) (K : KT β) : Ag (F5_E k) Try.f5 (PsT.put F5_A (v, w, ())) K = (F5 k v w).bind fun r => K (F5_O.put r) :=
 Eq.trans (b := (F18 k v.2.2.2.2.2.2.2.2 w).bind fun b1 => cond (decide (b1 < 0)) (K (F5_O.put (-1))) (K (F5_O.put b1))) (by kernel_rfl) (by simp only [F5, z1, z2, z3, z4, z5, z6, z7, z8])
def F5_d (k : Nat) : FD := ⟨5, F5_A, F5_O, F5 k⟩
theorem F5_q (k : Nat) : (F5_d k).Ok Try.prog := ⟨fun x => Ad (Ai (Aj (.c (Xss k) .n)) _ _ _ _) Ah Try.func5 rfl rfl (Xvb k _ _ some), .of (by kernel_rfl)⟩
abbrev Xtt (k : Nat) : Env := Bc Bp Ap .own [] k
abbrev Xi5 : List PA := [.agg m_4]
abbrev F54_O : RO := ⟨[.a], [m_4]⟩
def F54 (k : Nat) (v : (den Br)) : Option ((den Br)) := some v
theorem Xmt {β : Type} (k : Nat) (v : (den Br)) (K : KT β) : Ag (Xtt k) Try.f54 (PsT.put Xi5 (v, ())) K = (F54 k v).bind fun r => K (F54_O.put r) :=
 Eq.trans (b := K (F54_O.put v)) (by kernel_rfl) (by simp only [F54, z1, z2, z3, z4, z5, z6, z7, z8])
def Xh2 (k : Nat) : FD := ⟨54, Xi5, F54_O, F54 k⟩
theorem Xte (k : Nat) : (Xh2 k).Ok Try.prog := ⟨fun x => Ad (Ai .none _ _ _ _) Ah Try.func54 rfl rfl (Xmt k _ some), .of (by kernel_rfl)⟩
def Xqt : Nat → Hint
 | 0 => ⟨pl 0 1 (pl 3 2 []), pl 7000 1 []⟩
 | _ => ⟨[], []⟩
abbrev X2 (k : Nat) : Env := Bc (A1 [Xh2 k]) Xqt .own [] k
abbrev Xb0 : List PA := [.one (.sl .ro Br)]
abbrev F43_O : RO := ⟨[.v], [.sl .own Br]⟩
noncomputable def Xq1 {β : Type} (k : Nat) (v : Ar) (K : KT β) : Ex → St → Option β := Bz (X2 k) Try.f43 (PsT.put Xb0 (v, ())) K
def Xko (v : Ar) (x4_0 : Int) (m7000_0 : Ar) : St := ⟨(.one (.s .ro Br v)) :: (.one .d) :: (.one .d) :: (.one (.a (.cell 7000) 0 0 none)) :: (.one (vI x4_0)) :: dz 18 [], [eM 7000 (.s .own Br m7000_0)]⟩
noncomputable def Np {β : Type} (k : Nat) (v : Ar) (K : KT β) (n : Nat) (x4_0 : Int) (m7000_0 : Ar) : Option β := A6 (X2 k) Try.f43 [1, 1, 0, 1, 0] 0 (Ak (X2 k) [1, 1, 0, 1, 0] (Al Try.f43) 0 (Xq1 k v K)) n (Xko v x4_0 m7000_0)
def Gd {β : Type} (NX : Int → Ar → Option β) (RET : Ar → Option β) (k : Nat) (v : Ar) (x4_0 : Int) (m7000_0 : Ar) : Option β := cond (decide (x4_0 < (v.length : Int))) (A2 x4_0 v ((F54 k (Af v x4_0)).bind fun b1 => A2 x4_0 m7000_0 (NX (i64.wrap (x4_0 + 1)) (m7000_0.set x4_0.toNat b1)))) (RET m7000_0)
def Id (k : Nat) (v : Ar) : Nat → Int → Ar → Option (Ar)
 | 0, _, _ => none
 | n + 1, x4_0, m7000_0 => Gd (Id k v n) some k v x4_0 m7000_0
theorem Zg {β : Type} (k : Nat) (v : Ar) (K : KT β) (n : Nat) : ∀ (x4_0 : Int) (m7000_0 : Ar), Np k v K n x4_0 m7000_0 =
  (Id k v n x4_0 m7000_0).bind fun r => K (F43_O.put r) := by
 induction n with
 | zero => intros; rfl
 | succ n ih =>
  intro x4_0 m7000_0
  refine Eq.trans (b := Gd (Np k v K n) (fun r => K (F43_O.put r)) k v x4_0 m7000_0) (by kernel_rfl) ?_
  rw [Id]
  simp only [Gd, z1, z2, z3, z4, z5, z6, z7, z8, ih]
def Xf {β : Type} (LP0 : Int → Ar → Option β) (k : Nat) (v : Ar) : Option β := cond (decide (0 ≤ (v.length : Int)) && decide ((v.length : Int) = (v.length : Int)) && decide ((v.length : Int) * (32 : Nat) ≤ 140737488355328)) (LP0 0 (List.replicate ((v.length : Int).toNat) (A9 Br))) none
def F43 (k : Nat) (v : Ar) : Option (Ar) := Xf (Id k v k) k v
theorem Xnr {β : Type} (k : Nat) (v : Ar) (K : KT β) : Ag (X2 k) Try.f43 (PsT.put Xb0 (v, ())) K = (F43 k v).bind fun r => K (F43_O.put r) :=
 Eq.trans (b := Xf (Np k v K k) k v) (by kernel_rfl) (by simp only [F43, Xf, z1, z2, z3, z4, z5, z6, z7, z8, Zg])
def Xj3 (k : Nat) : FD := ⟨43, Xb0, F43_O, F43 k⟩
theorem Xuv (k : Nat) : (Xj3 k).Ok Try.prog := ⟨fun x => Ad (Ai (Aj (.c (Xte k) .n)) _ _ _ _) Ah Try.func43 rfl rfl (Xnr k _ some), .of (by kernel_rfl)⟩
abbrev Xu2 (k : Nat) : Env := Bc (A1 [Xj3 k]) Ap .own [] k
abbrev Xhk : List PA := [.agg (.pair mI (.sl .ro Br))]
abbrev F24_O : RO := ⟨[.a], [.pair mI (.sl .own Br)]⟩
def F24 (k : Nat) (v : (den sta)) : Option ((den sta)) := (F43 k v.2).bind fun b1 => some (v.1, b1)
theorem Xle {β : Type} (k : Nat) (v : (den sta)) (K : KT β) : Ag (Xu2 k) Try.f24 (PsT.put Xhk (v, ())) K = (F24 k v).bind fun r => K (F24_O.put r) :=
 Eq.trans (b := (F43 k v.2).bind fun b1 => K (F24_O.put (v.1, b1))) (by kernel_rfl) (by simp only [F24, z1, z2, z3, z4, z5, z6, z7, z8])
def Xgt (k : Nat) : FD := ⟨24, Xhk, F24_O, F24 k⟩
theorem Xsj (k : Nat) : (Xgt k).Ok Try.prog := ⟨fun x => Ad (Ai (Aj (.c (Xuv k) .n)) _ _ _ _) Ah Try.func24 rfl rfl (Xle k _ some), .of (by kernel_rfl)⟩
def F7_h : Nat → Hint
 | 0 => ⟨pl 0 1 (pl 3 2 []), pl 7000 1 []⟩
 | _ => ⟨[], []⟩
abbrev Xfs (k : Nat) : Env := Bc (A1 [Xgt k]) F7_h .own [] k
abbrev Xlg : List PA := [.one (.sl .ro sta)]
abbrev F7_O : RO := ⟨[.v], [.sl .own sta]⟩
noncomputable def F7_z {β : Type} (k : Nat) (v : Ab) (K : KT β) : Ex → St → Option β := Bz (Xfs k) Try.f7 (PsT.put Xlg (v, ())) K
def Xpv (v : Ab) (x4_0 : Int) (m7000_0 : Ab) : St := ⟨(.one (.s .ro sta v)) :: (.one .d) :: (.one .d) :: (.one (.a (.cell 7000) 0 0 none)) :: (.one (vI x4_0)) :: dz 18 [], [eM 7000 (.s .own sta m7000_0)]⟩
noncomputable def Qz {β : Type} (k : Nat) (v : Ab) (K : KT β) (n : Nat) (x4_0 : Int) (m7000_0 : Ab) : Option β := A6 (Xfs k) Try.f7 [1, 1, 0, 1, 0] 0 (Ak (Xfs k) [1, 1, 0, 1, 0] (Al Try.f7) 0 (F7_z k v K)) n (Xpv v x4_0 m7000_0)
def Kf {β : Type} (NX : Int → Ab → Option β) (RET : Ab → Option β) (k : Nat) (v : Ab) (x4_0 : Int) (m7000_0 : Ab) : Option β := cond (decide (x4_0 < (v.length : Int))) (A2 x4_0 v ((F24 k (Af v x4_0)).bind fun b1 => A2 x4_0 m7000_0 (NX (i64.wrap (x4_0 + 1)) (m7000_0.set x4_0.toNat b1)))) (RET m7000_0)
def Nz (k : Nat) (v : Ab) : Nat → Int → Ab → Option (Ab)
 | 0, _, _ => none
 | n + 1, x4_0, m7000_0 => Kf (Nz k v n) some k v x4_0 m7000_0
theorem Xa5 {β : Type} (k : Nat) (v : Ab) (K : KT β) (n : Nat) : ∀ (x4_0 : Int) (m7000_0 : Ab), Qz k v K n x4_0 m7000_0 =
  (Nz k v n x4_0 m7000_0).bind fun r => K (F7_O.put r) := by
 induction n with
 | zero => intros; rfl
 | succ n ih =>
  intro x4_0 m7000_0
  refine Eq.trans (b := Kf (Qz k v K n) (fun r => K (F7_O.put r)) k v x4_0 m7000_0) (by kernel_rfl) ?_
  rw [Nz]
  simp only [Kf, z1, z2, z3, z4, z5, z6, z7, z8, ih]
def Xe9 {β : Type} (LP0 : Int → Ab → Option β) (k : Nat) (v : Ab) : Option β := cond (decide (0 ≤ (v.length : Int)) && decide ((v.length : Int) = (v.length : Int)) && decide ((v.length : Int) * (32 : Nat) ≤ 140737488355328)) (LP0 0 (List.replicate ((v.length : Int).toNat) (A9 sta))) none
def F7 (k : Nat) (v : Ab) : Option (Ab) := Xe9 (Nz k v k) k v
theorem Xrt {β : Type} (k : Nat) (v : Ab) (K : KT β) : Ag (Xfs k) Try.f7 (PsT.put Xlg (v, ())) K = (F7 k v).bind fun r => K (F7_O.put r) :=
 Eq.trans (b := Xe9 (Qz k v K k) k v) (by kernel_rfl) (by simp only [F7, Xe9, z1, z2, z3, z4, z5, z6, z7, z8, Xa5])
def F7_d (k : Nat) : FD := ⟨7, Xlg, F7_O, F7 k⟩
theorem F7_q (k : Nat) : (F7_d k).Ok Try.prog := ⟨fun x => Ad (Ai (Aj (.c (Xsj k) .n)) _ _ _ _) Ah Try.func7 rfl rfl (Xrt k _ some), .of (by kernel_rfl)⟩
def Xru : Nat → Hint
 | 0 => ⟨pl 0 1 (pl 3 2 []), pl 7000 1 []⟩
 | _ => ⟨[], []⟩
abbrev Xd (k : Nat) : Env := Bc Bp Xru .own [] k
abbrev Xbw : List PA := [.one (.sl .ro (.int .u8))]
abbrev F25_O : RO := ⟨[.v], [.sl .own (.int .u8)]⟩
noncomputable def Xqr {β : Type} (k : Nat) (v : Ac) (K : KT β) : Ex → St → Option β := Bz (Xd k) Try.f25 (PsT.put Xbw (v, ())) K
def Xk8 (v : Ac) (x4_0 : Int) (m7000_0 : Ac) : St := ⟨(.one (.s .ro (.int .u8) v)) :: (.one .d) :: (.one .d) :: (.one (.a (.cell 7000) 0 0 none)) :: (.one (vI x4_0)) :: dz 17 [], [eM 7000 (.s .own (.int .u8) m7000_0)]⟩
noncomputable def O4 {β : Type} (k : Nat) (v : Ac) (K : KT β) (n : Nat) (x4_0 : Int) (m7000_0 : Ac) : Option β := A6 (Xd k) Try.f25 [1, 1, 0, 1, 0] 0 (Ak (Xd k) [1, 1, 0, 1, 0] (Al Try.f25) 0 (Xqr k v K)) n (Xk8 v x4_0 m7000_0)
def Fu {β : Type} (NX : Int → Ac → Option β) (RET : Ac → Option β) (k : Nat) (v : Ac) (x4_0 : Int) (m7000_0 : Ac) : Option β := cond (decide (x4_0 < (v.length : Int))) (A2 x4_0 v (A2 x4_0 m7000_0 (NX (i64.wrap (x4_0 + 1)) (m7000_0.set x4_0.toNat (Af v x4_0))))) (RET m7000_0)
def Ij (k : Nat) (v : Ac) : Nat → Int → Ac → Option (Ac)
 | 0, _, _ => none
 | n + 1, x4_0, m7000_0 => Fu (Ij k v n) some k v x4_0 m7000_0
theorem Zp {β : Type} (k : Nat) (v : Ac) (K : KT β) (n : Nat) : ∀ (x4_0 : Int) (m7000_0 : Ac), O4 k v K n x4_0 m7000_0 =
  (Ij k v n x4_0 m7000_0).bind fun r => K (F25_O.put r) := by
 induction n with
 | zero => intros; rfl
 | succ n ih =>
  intro x4_0 m7000_0
  refine Eq.trans (b := Fu (O4 k v K n) (fun r => K (F25_O.put r)) k v x4_0 m7000_0) (by kernel_rfl) ?_
  rw [Ij]
  simp only [Fu, z1, z2, z3, z4, z5, z6, z7, z8, ih]
def V0 {β : Type} (LP0 : Int → Ac → Option β) (k : Nat) (v : Ac) : Option β := cond (decide (0 ≤ (v.length : Int)) && decide ((v.length : Int) = (v.length : Int)) && decide ((v.length : Int) * (1 : Nat) ≤ 140737488355328)) (LP0 0 (List.replicate ((v.length : Int).toNat) (A9 (.int .u8)))) none
def F25 (k : Nat) (v : Ac) : Option (Ac) := V0 (Ij k v k) k v
theorem Xnp {β : Type} (k : Nat) (v : Ac) (K : KT β) : Ag (Xd k) Try.f25 (PsT.put Xbw (v, ())) K = (F25 k v).bind fun r => K (F25_O.put r) :=
 Eq.trans (b := V0 (O4 k v K k) k v) (by kernel_rfl) (by simp only [F25, V0, z1, z2, z3, z4, z5, z6, z7, z8, Zp])
def Xhv (k : Nat) : FD := ⟨25, Xbw, F25_O, F25 k⟩
theorem Xqa (k : Nat) : (Xhv k).Ok Try.prog := ⟨fun x => Ad (Ai .none _ _ _ _) Ah Try.func25 rfl rfl (Xnp k _ some), .of (by kernel_rfl)⟩
abbrev F8_E (k : Nat) : Env := Bc (A1 [Xhv k]) Ap .own [] k
abbrev F8_A : List PA := [.agg (.pair mI J1)]
abbrev F8_O : RO := ⟨[.a], [.pair mI m_7]⟩
def F8 (k : Nat) (v : (den An)) : Option ((den An)) := Aw v fun v0 v1 v2 v3 v4 v5 v6 v7 v8 => (F25 k v8).bind fun b1 => some (v0, v1, v2, v3, v4, v5, v6, v7, b1)
theorem Xqp {β : Type} (k : Nat) (v : (den An)) (K : KT β) : Ag (F8_E k) Try.f8 (PsT.put F8_A (v, ())) K = (F8 k v).bind fun r => K (F8_O.put r) :=
 Eq.trans (b := (F25 k v.2.2.2.2.2.2.2.2).bind fun b1 => K (F8_O.put (v.1, v.2.1, v.2.2.1, v.2.2.2.1, v.2.2.2.2.1, v.2.2.2.2.2.1, v.2.2.2.2.2.2.1, v.2.2.2.2.2.2.2.1, b1))) (by kernel_rfl) (by simp only [F8, z1, z2, z3, z4, z5, z6, z7, z8, Aw])
def F8_d (k : Nat) : FD := ⟨8, F8_A, F8_O, F8 k⟩
theorem F8_q (k : Nat) : (F8_d k).Ok Try.prog := ⟨fun x => Ad (Ai (Aj (.c (Xqa k) .n)) _ _ _ _) Ah Try.func8 rfl rfl (Xqp k _ some), .of (by kernel_rfl)⟩
def Xsn : Nat → Hint
 | 0 => ⟨pl 0 2 (pl 5 1 []), []⟩
 | _ => ⟨[], []⟩
abbrev W5 (k : Nat) : Env := Bc Bp Xsn .own [] k
abbrev Xb9 : List PA := [.one (.sl .ro (.int .u8)), .one (.sl .ro (.int .u8))]
abbrev F32_O : RO := ⟨[.v], [mB]⟩
noncomputable def Xt8 {β : Type} (k : Nat) (v w : Ac) (K : KT β) : Ex → St → Option β := Bz (W5 k) Try.f32 (PsT.put Xb9 (v, w, ())) K
def Xld (v w : Ac) (x5_0 : Int) : St := ⟨(.one (.s .ro (.int .u8) v)) :: (.one (.s .ro (.int .u8) w)) :: dz 3 ((.one (vI x5_0)) :: dz 20 []), []⟩
noncomputable def Nr {β : Type} (k : Nat) (v w : Ac) (K : KT β) (n : Nat) (x5_0 : Int) : Option β := A6 (W5 k) Try.f32 [1, 1, 0, 1, 0] 0 (Ak (W5 k) [1, 1, 0, 1, 0] (Al Try.f32) 0 (Xt8 k v w K)) n (Xld v w x5_0)
def Ha {β : Type} (NX : Int → Option β) (RET : Bool → Option β) (k : Nat) (v w : Ac) (x5_0 : Int) : Option β := cond (decide (x5_0 < (v.length : Int))) (A2 x5_0 v (A2 x5_0 w (cond ((Af v x5_0) != (Af w x5_0)) (RET false) (NX (i64.wrap (x5_0 + 1)))))) (RET true)
def Is (k : Nat) (v w : Ac) : Nat → Int → Option (Bool)
 | 0, _ => none
 | n + 1, x5_0 => Ha (Is k v w n) some k v w x5_0
theorem Zs {β : Type} (k : Nat) (v w : Ac) (K : KT β) (n : Nat) : ∀ (x5_0 : Int), Nr k v w K n x5_0 =
  (Is k v w n x5_0).bind fun r => K (F32_O.put r) := by
 induction n with
 | zero => intros; rfl
 | succ n ih =>
  intro x5_0
  refine Eq.trans (b := Ha (Nr k v w K n) (fun r => K (F32_O.put r)) k v w x5_0) (by kernel_rfl) ?_
  rw [Is]
  simp only [Ha, z1, z2, z3, z4, z5, z6, z7, z8, ih]
def Yo {β : Type} (LP0 : Int → Option β) (RET : Bool → Option β) (k : Nat) (v w : Ac) : Option β := cond ((v.length : Int) != (w.length : Int)) (RET false) (LP0 0)
def F32 (k : Nat) (v w : Ac) : Option (Bool) := Yo (Is k v w k) some k v w
theorem Xkx {β : Type} (k : Nat) (v w : Ac) (K : KT β) : Ag (W5 k) Try.f32 (PsT.put Xb9 (v, w, ())) K = (F32 k v w).bind fun r => K (F32_O.put r) :=
 Eq.trans (b := Yo (Nr k v w K k) (fun r => K (F32_O.put r)) k v w) (by kernel_rfl) (by simp only [F32, Yo, z1, z2, z3, z4, z5, z6, z7, z8, Zs])
def Xf4 (k : Nat) : FD := ⟨32, Xb9, F32_O, F32 k⟩
theorem Xr4 (k : Nat) : (Xf4 k).Ok Try.prog := ⟨fun x => Ad (Ai .none _ _ _ _) Ah Try.func32 rfl rfl (Xkx k _ _ some), .of (by kernel_rfl)⟩
abbrev Xs8 (k : Nat) : Env := Bc (A1 [Xf4 k]) Ap .own [] k
abbrev Xhm : List PA := [.agg (.pair mI J1), .agg (.pair mI J1)]
abbrev F12_O : RO := ⟨[.v], [mB]⟩
def Xi {β : Type} (RET : Bool → Option β) (k : Nat) (v w : (den An)) : Option β := Aw v fun v0 v1 v2 v3 v4 v5 v6 v7 v8 => Aw w fun w0 w1 w2 w3 w4 w5 w6 w7 w8 => cond (v0 != w0) (RET false) (cond (v1 != w1) (RET false) (cond (v2 != w2) (RET false) (cond (v3 != w3) (RET false) (cond (v4 != w4) (RET false) (cond (v5 != w5) (RET false) (cond (!(v6 == w6)) (RET false) (cond (!(v7 == w7)) (RET false) ((F32 k v8 w8).bind fun b1 => cond (!b1) (RET false) (RET true)))))))))
def F12 := Xi (β := Bool) some
theorem Xn5 {β : Type} (k : Nat) (v w : (den An)) (K : KT β) : Ag (Xs8 k) Try.f12 (PsT.put Xhm (v, w, ())) K = (F12 k v w).bind fun r => K (F12_O.put r) :=
 Eq.trans (b := Xi (fun r => K (F12_O.put r)) k v w) (by kernel_rfl) (by simp only [F12, Xi, z1, z2, z3, z4, z5, z6, z7, z8, Aw])
def Xbb (k : Nat) : FD := ⟨12, Xhm, F12_O, F12 k⟩
theorem Xj4 (k : Nat) : (Xbb k).Ok Try.prog := ⟨fun x => Ad (Ai (Aj (.c (Xr4 k) .n)) _ _ _ _) Ah Try.func12 rfl rfl (Xn5 k _ _ some), .of (by kernel_rfl)⟩
def Xqw : Nat → Hint
 | 0 => ⟨pl 0 2 (pl 5 1 []), []⟩
 | _ => ⟨[], []⟩
abbrev Wy (k : Nat) : Env := Bc (A1 [Xbb k]) Xqw .own [] k
abbrev Xbv : List PA := [.one (.sl .ro An), .one (.sl .ro An)]
abbrev F30_O : RO := ⟨[.v], [mB]⟩
noncomputable def Xse {β : Type} (k : Nat) (v w : Ae) (K : KT β) : Ex → St → Option β := Bz (Wy k) Try.f30 (PsT.put Xbv (v, w, ())) K
def Xou (v w : Ae) (x5_0 : Int) : St := ⟨(.one (.s .ro An v)) :: (.one (.s .ro An w)) :: dz 3 ((.one (vI x5_0)) :: dz 21 []), []⟩
noncomputable def Nb {β : Type} (k : Nat) (v w : Ae) (K : KT β) (n : Nat) (x5_0 : Int) : Option β := A6 (Wy k) Try.f30 [1, 1, 0, 1, 0] 0 (Ak (Wy k) [1, 1, 0, 1, 0] (Al Try.f30) 0 (Xse k v w K)) n (Xou v w x5_0)
def Gv {β : Type} (NX : Int → Option β) (RET : Bool → Option β) (k : Nat) (v w : Ae) (x5_0 : Int) : Option β := cond (decide (x5_0 < (v.length : Int))) (A2 x5_0 v (A2 x5_0 w ((F12 k (Af v x5_0) (Af w x5_0)).bind fun b1 => cond (!b1) (RET false) (NX (i64.wrap (x5_0 + 1)))))) (RET true)
def Ik (k : Nat) (v w : Ae) : Nat → Int → Option (Bool)
 | 0, _ => none
 | n + 1, x5_0 => Gv (Ik k v w n) some k v w x5_0
theorem Zo {β : Type} (k : Nat) (v w : Ae) (K : KT β) (n : Nat) : ∀ (x5_0 : Int), Nb k v w K n x5_0 =
  (Ik k v w n x5_0).bind fun r => K (F30_O.put r) := by
 induction n with
 | zero => intros; rfl
 | succ n ih =>
  intro x5_0
  refine Eq.trans (b := Gv (Nb k v w K n) (fun r => K (F30_O.put r)) k v w x5_0) (by kernel_rfl) ?_
  rw [Ik]
  simp only [Gv, z1, z2, z3, z4, z5, z6, z7, z8, ih]
def Vq {β : Type} (LP0 : Int → Option β) (RET : Bool → Option β) (k : Nat) (v w : Ae) : Option β := cond ((v.length : Int) != (w.length : Int)) (RET false) (LP0 0)
def F30 (k : Nat) (v w : Ae) : Option (Bool) := Vq (Ik k v w k) some k v w
theorem Xkt {β : Type} (k : Nat) (v w : Ae) (K : KT β) : Ag (Wy k) Try.f30 (PsT.put Xbv (v, w, ())) K = (F30 k v w).bind fun r => K (F30_O.put r) :=
 Eq.trans (b := Vq (Nb k v w K k) (fun r => K (F30_O.put r)) k v w) (by kernel_rfl) (by simp only [F30, Vq, z1, z2, z3, z4, z5, z6, z7, z8, Zo])
def Xhj (k : Nat) : FD := ⟨30, Xbv, F30_O, F30 k⟩
theorem Xt2 (k : Nat) : (Xhj k).Ok Try.prog := ⟨fun x => Ad (Ai (Aj (.c (Xj4 k) .n)) _ _ _ _) Ah Try.func30 rfl rfl (Xkt k _ _ some), .of (by kernel_rfl)⟩
abbrev Xpu (k : Nat) : Env := Bc (A1 [Xhj k]) Ap .own [] k
abbrev Xhl : List PA := [.agg Xe7, .agg Xe7]
abbrev F10_O : RO := ⟨[.v], [mB]⟩
def Vl {β : Type} (RET : Bool → Option β) (k : Nat) (v w : (den Co)) : Option β := (F30 k v.1 w.1).bind fun b1 => cond (!b1) (RET false) ((F30 k v.2.1 w.2.1).bind fun b2 => cond (!b2) (RET false) (cond (v.2.2 != w.2.2) (RET false) (RET true)))
def F10 := Vl (β := Bool) some
theorem Xkb {β : Type} (k : Nat) (v w : (den Co)) (K : KT β) : Ag (Xpu k) Try.f10 (PsT.put Xhl (v, w, ())) K = (F10 k v w).bind fun r => K (F10_O.put r) :=
 Eq.trans (b := Vl (fun r => K (F10_O.put r)) k v w) (by kernel_rfl) (by simp only [F10, Vl, z1, z2, z3, z4, z5, z6, z7, z8])
def Xip (k : Nat) : FD := ⟨10, Xhl, F10_O, F10 k⟩
theorem Xrb (k : Nat) : (Xip k).Ok Try.prog := ⟨fun x => Ad (Ai (Aj (.c (Xt2 k) .n)) _ _ _ _) Ah Try.func10 rfl rfl (Xkb k _ _ some), .of (by kernel_rfl)⟩
abbrev Xqk (k : Nat) : Env := Bc Bp Ap .own [] k
abbrev Xht : List PA := [.agg m_4, .agg m_4]
abbrev F63_O : RO := ⟨[.v], [mB]⟩
def Wg {β : Type} (RET : Bool → Option β) (k : Nat) (v w : (den Br)) : Option β := cond (v.1 != w.1) (RET false) (cond (v.2.1 != w.2.1) (RET false) (cond (v.2.2.1 != w.2.2.1) (RET false) (cond (v.2.2.2 != w.2.2.2) (RET false) (RET true))))
def F63 := Wg (β := Bool) some
theorem Xnt {β : Type} (k : Nat) (v w : (den Br)) (K : KT β) : Ag (Xqk k) Try.f63 (PsT.put Xht (v, w, ())) K = (F63 k v w).bind fun r => K (F63_O.put r) :=
 Eq.trans (b := Wg (fun r => K (F63_O.put r)) k v w) (by kernel_rfl) (by simp only [F63, Wg, z1, z2, z3, z4, z5, z6, z7, z8, Ey])
def Xj5 (k : Nat) : FD := ⟨63, Xht, F63_O, F63 k⟩
theorem Xud (k : Nat) : (Xj5 k).Ok Try.prog := ⟨fun x => Ad (Ai .none _ _ _ _) Ah Try.func63 rfl rfl (Xnt k _ _ some), .of (by kernel_rfl)⟩
def Xu9 : Nat → Hint
 | 0 => ⟨pl 0 2 (pl 5 1 []), []⟩
 | _ => ⟨[], []⟩
abbrev V3 (k : Nat) : Env := Bc (A1 [Xj5 k]) Xu9 .own [] k
abbrev Xdx : List PA := [.one (.sl .ro Br), .one (.sl .ro Br)]
abbrev F49_O : RO := ⟨[.v], [mB]⟩
noncomputable def Xs9 {β : Type} (k : Nat) (v w : Ar) (K : KT β) : Ex → St → Option β := Bz (V3 k) Try.f49 (PsT.put Xdx (v, w, ())) K
def Xni (v w : Ar) (x5_0 : Int) : St := ⟨(.one (.s .ro Br v)) :: (.one (.s .ro Br w)) :: dz 3 ((.one (vI x5_0)) :: dz 21 []), []⟩
noncomputable def N6 {β : Type} (k : Nat) (v w : Ar) (K : KT β) (n : Nat) (x5_0 : Int) : Option β := A6 (V3 k) Try.f49 [1, 1, 0, 1, 0] 0 (Ak (V3 k) [1, 1, 0, 1, 0] (Al Try.f49) 0 (Xs9 k v w K)) n (Xni v w x5_0)
def Gc {β : Type} (NX : Int → Option β) (RET : Bool → Option β) (k : Nat) (v w : Ar) (x5_0 : Int) : Option β := cond (decide (x5_0 < (v.length : Int))) (A2 x5_0 v (A2 x5_0 w ((F63 k (Af v x5_0) (Af w x5_0)).bind fun b1 => cond (!b1) (RET false) (NX (i64.wrap (x5_0 + 1)))))) (RET true)
def I0 (k : Nat) (v w : Ar) : Nat → Int → Option (Bool)
 | 0, _ => none
 | n + 1, x5_0 => Gc (I0 k v w n) some k v w x5_0
theorem Zf {β : Type} (k : Nat) (v w : Ar) (K : KT β) (n : Nat) : ∀ (x5_0 : Int), N6 k v w K n x5_0 =
  (I0 k v w n x5_0).bind fun r => K (F49_O.put r) := by
 induction n with
 | zero => intros; rfl
 | succ n ih =>
  intro x5_0
  refine Eq.trans (b := Gc (N6 k v w K n) (fun r => K (F49_O.put r)) k v w x5_0) (by kernel_rfl) ?_
  rw [I0]
  simp only [Gc, z1, z2, z3, z4, z5, z6, z7, z8, ih]
def Vt {β : Type} (LP0 : Int → Option β) (RET : Bool → Option β) (k : Nat) (v w : Ar) : Option β := cond ((v.length : Int) != (w.length : Int)) (RET false) (LP0 0)
def F49 (k : Nat) (v w : Ar) : Option (Bool) := Vt (I0 k v w k) some k v w
theorem Xku {β : Type} (k : Nat) (v w : Ar) (K : KT β) : Ag (V3 k) Try.f49 (PsT.put Xdx (v, w, ())) K = (F49 k v w).bind fun r => K (F49_O.put r) :=
 Eq.trans (b := Vt (N6 k v w K k) (fun r => K (F49_O.put r)) k v w) (by kernel_rfl) (by simp only [F49, Vt, z1, z2, z3, z4, z5, z6, z7, z8, Zf])
def Xf7 (k : Nat) : FD := ⟨49, Xdx, F49_O, F49 k⟩
theorem Xuf (k : Nat) : (Xf7 k).Ok Try.prog := ⟨fun x => Ad (Ai (Aj (.c (Xud k) .n)) _ _ _ _) Ah Try.func49 rfl rfl (Xku k _ _ some), .of (by kernel_rfl)⟩
abbrev Xsb (k : Nat) : Env := Bc (A1 [Xf7 k]) Ap .own [] k
abbrev Xf3 : List PA := [.agg (.pair mI (.sl .ro Br)), .agg (.pair mI (.sl .ro Br))]
abbrev F31_O : RO := ⟨[.v], [mB]⟩
def Yp {β : Type} (RET : Bool → Option β) (k : Nat) (v w : (den sta)) : Option β := cond (v.1 != w.1) (RET false) ((F49 k v.2 w.2).bind fun b1 => cond (!b1) (RET false) (RET true))
def F31 := Yp (β := Bool) some
theorem Xmb {β : Type} (k : Nat) (v w : (den sta)) (K : KT β) : Ag (Xsb k) Try.f31 (PsT.put Xf3 (v, w, ())) K = (F31 k v w).bind fun r => K (F31_O.put r) :=
 Eq.trans (b := Yp (fun r => K (F31_O.put r)) k v w) (by kernel_rfl) (by simp only [F31, Yp, z1, z2, z3, z4, z5, z6, z7, z8])
def Xj7 (k : Nat) : FD := ⟨31, Xf3, F31_O, F31 k⟩
theorem Xrk (k : Nat) : (Xj7 k).Ok Try.prog := ⟨fun x => Ad (Ai (Aj (.c (Xuf k) .n)) _ _ _ _) Ah Try.func31 rfl rfl (Xmb k _ _ some), .of (by kernel_rfl)⟩
def Xu1 : Nat → Hint
 | 0 => ⟨pl 0 2 (pl 5 1 []), []⟩
 | _ => ⟨[], []⟩
abbrev Wp (k : Nat) : Env := Bc (A1 [Xj7 k]) Xu1 .own [] k
abbrev Xda : List PA := [.one (.sl .ro sta), .one (.sl .ro sta)]
abbrev F11_O : RO := ⟨[.v], [mB]⟩
noncomputable def Xqn {β : Type} (k : Nat) (v w : Ab) (K : KT β) : Ex → St → Option β := Bz (Wp k) Try.f11 (PsT.put Xda (v, w, ())) K
def Xoq (v w : Ab) (x5_0 : Int) : St := ⟨(.one (.s .ro sta v)) :: (.one (.s .ro sta w)) :: dz 3 ((.one (vI x5_0)) :: dz 21 []), []⟩
noncomputable def O9 {β : Type} (k : Nat) (v w : Ab) (K : KT β) (n : Nat) (x5_0 : Int) : Option β := A6 (Wp k) Try.f11 [1, 1, 0, 1, 0] 0 (Ak (Wp k) [1, 1, 0, 1, 0] (Al Try.f11) 0 (Xqn k v w K)) n (Xoq v w x5_0)
def Gq {β : Type} (NX : Int → Option β) (RET : Bool → Option β) (k : Nat) (v w : Ab) (x5_0 : Int) : Option β := cond (decide (x5_0 < (v.length : Int))) (A2 x5_0 v (A2 x5_0 w ((F31 k (Af v x5_0) (Af w x5_0)).bind fun b1 => cond (!b1) (RET false) (NX (i64.wrap (x5_0 + 1)))))) (RET true)
def Ii (k : Nat) (v w : Ab) : Nat → Int → Option (Bool)
 | 0, _ => none
 | n + 1, x5_0 => Gq (Ii k v w n) some k v w x5_0
theorem Z7 {β : Type} (k : Nat) (v w : Ab) (K : KT β) (n : Nat) : ∀ (x5_0 : Int), O9 k v w K n x5_0 =
  (Ii k v w n x5_0).bind fun r => K (F11_O.put r) := by
 induction n with
 | zero => intros; rfl
 | succ n ih =>
  intro x5_0
  refine Eq.trans (b := Gq (O9 k v w K n) (fun r => K (F11_O.put r)) k v w x5_0) (by kernel_rfl) ?_
  rw [Ii]
  simp only [Gq, z1, z2, z3, z4, z5, z6, z7, z8, ih]
def Vo {β : Type} (LP0 : Int → Option β) (RET : Bool → Option β) (k : Nat) (v w : Ab) : Option β := cond ((v.length : Int) != (w.length : Int)) (RET false) (LP0 0)
def F11 (k : Nat) (v w : Ab) : Option (Bool) := Vo (Ii k v w k) some k v w
theorem Xkz {β : Type} (k : Nat) (v w : Ab) (K : KT β) : Ag (Wp k) Try.f11 (PsT.put Xda (v, w, ())) K = (F11 k v w).bind fun r => K (F11_O.put r) :=
 Eq.trans (b := Vo (O9 k v w K k) (fun r => K (F11_O.put r)) k v w) (by kernel_rfl) (by simp only [F11, Vo, z1, z2, z3, z4, z5, z6, z7, z8, Z7])
def Xi9 (k : Nat) : FD := ⟨11, Xda, F11_O, F11 k⟩
theorem Xp4 (k : Nat) : (Xi9 k).Ok Try.prog := ⟨fun x => Ad (Ai (Aj (.c (Xrk k) .n)) _ _ _ _) Ah Try.func11 rfl rfl (Xkz k _ _ some), .of (by kernel_rfl)⟩
end
end Go.Proofs.Ytdmepjjepogddaa.Gn
end

section
set_option linter.unusedVariables false
set_option linter.unusedSimpArgs false
namespace Go.Proofs.Ytdmepjjepogddaa.Gn
open Go.Rf IntKind
noncomputable section
def Xq3 : Nat → Hint
 | 0 => ⟨pl 0 2 (pl 5 1 []), pl 0 1 []⟩
 | _ => ⟨[], []⟩
abbrev Yh (k : Nat) : Env := Bc Bp Xq3 .own [(true, 0)] k
abbrev Xea : List PA := [.one (.lent .own Br), .one mI]
abbrev F33_O : RO := ⟨[.v], [mI, .sl .own Br]⟩
noncomputable def Xp7 {β : Type} (k : Nat) (v : Ar) (w : Int) (K : KT β) : Ex → St → Option β := Bz (Yh k) Try.f33 (PsT.put Xea (v, w, ())) K
def Xml (v : Ar) (w : Int) (x1_0 x5_0 : Int) (m0_0 : Ar) : St := ⟨(.one (.a (.cell 0) 0 0 none)) :: (.one (vI x1_0)) :: dz 3 ((.one (vI x5_0)) :: dz 35 []), [eM 0 (.s .own Br m0_0)]⟩
noncomputable def Nc {β : Type} (k : Nat) (v : Ar) (w : Int) (K : KT β) (n : Nat) (x1_0 x5_0 : Int) (m0_0 : Ar) : Option β := A6 (Yh k) Try.f33 [1, 0, 1, 0] 0 (Ak (Yh k) [1, 0, 1, 0] (Al Try.f33) 0 (Xp7 k v w K)) n (Xml v w x1_0 x5_0 m0_0)
def Gk {β : Type} (NX : Int → Int → Ar → Option β) (RET : (Int × Ar) → Option β) (k : Nat) (v : Ar) (w : Int) (x1_0 x5_0 : Int) (m0_0 : Ar) : Option β := cond (decide (x5_0 < (m0_0.length : Int))) (A2 x5_0 m0_0 (A2 x5_0 (m0_0.set x5_0.toNat (x1_0, (Af m0_0 x5_0).2)) (A2 x5_0 ((m0_0.set x5_0.toNat (x1_0, (Af m0_0 x5_0).2)).set x5_0.toNat ((Af (m0_0.set x5_0.toNat (x1_0, (Af m0_0 x5_0).2)) x5_0).1, i64.wrap (x1_0 + 1), (Af (m0_0.set x5_0.toNat (x1_0, (Af m0_0 x5_0).2)) x5_0).2.2)) ((sto (((m0_0.set x5_0.toNat (x1_0, (Af m0_0 x5_0).2)).set x5_0.toNat ((Af (m0_0.set x5_0.toNat (x1_0, (Af m0_0 x5_0).2)) x5_0).1, i64.wrap (x1_0 + 1), (Af (m0_0.set x5_0.toNat (x1_0, (Af m0_0 x5_0).2)) x5_0).2.2)).set x5_0.toNat ((Af ((m0_0.set x5_0.toNat (x1_0, (Af m0_0 x5_0).2)).set x5_0.toNat ((Af (m0_0.set x5_0.toNat (x1_0, (Af m0_0 x5_0).2)) x5_0).1, i64.wrap (x1_0 + 1), (Af (m0_0.set x5_0.toNat (x1_0, (Af m0_0 x5_0).2)) x5_0).2.2)) x5_0).1, (Af ((m0_0.set x5_0.toNat (x1_0, (Af m0_0 x5_0).2)).set x5_0.toNat ((Af (m0_0.set x5_0.toNat (x1_0, (Af m0_0 x5_0).2)) x5_0).1, i64.wrap (x1_0 + 1), (Af (m0_0.set x5_0.toNat (x1_0, (Af m0_0 x5_0).2)) x5_0).2.2)) x5_0).2.1, i64.wrap ((i64.wrap (x1_0 + 1)) + 1), (Af ((m0_0.set x5_0.toNat (x1_0, (Af m0_0 x5_0).2)).set x5_0.toNat ((Af (m0_0.set x5_0.toNat (x1_0, (Af m0_0 x5_0).2)) x5_0).1, i64.wrap (x1_0 + 1), (Af (m0_0.set x5_0.toNat (x1_0, (Af m0_0 x5_0).2)) x5_0).2.2)) x5_0).2.2.2))).bind fun b1 => A2 x5_0 b1 (NX (i64.wrap ((i64.wrap ((i64.wrap ((i64.wrap (x1_0 + 1)) + 1)) + 1)) + 1)) (i64.wrap (x5_0 + 1)) (b1.set x5_0.toNat ((Af b1 x5_0).1, (Af b1 x5_0).2.1, (Af b1 x5_0).2.2.1, i64.wrap ((i64.wrap ((i64.wrap (x1_0 + 1)) + 1)) + 1)))))))) (RET (x1_0, m0_0))
def Ix (k : Nat) (v : Ar) (w : Int) : Nat → Int → Int → Ar → Option (Int × Ar)
 | 0, _, _, _ => none
 | n + 1, x1_0, x5_0, m0_0 => Gk (Ix k v w n) some k v w x1_0 x5_0 m0_0
theorem Y8 {β : Type} (k : Nat) (v : Ar) (w : Int) (K : KT β) (n : Nat) : ∀ (x1_0 x5_0 : Int) (m0_0 : Ar), Nc k v w K n x1_0 x5_0 m0_0 =
  (Ix k v w n x1_0 x5_0 m0_0).bind fun r => K (F33_O.put r) := by
 induction n with
 | zero => intros; rfl
 | succ n ih =>
  intro x1_0 x5_0 m0_0
  refine Eq.trans (b := Gk (Nc k v w K n) (fun r => K (F33_O.put r)) k v w x1_0 x5_0 m0_0) (by kernel_rfl) ?_
  rw [Ix]
  simp only [Gk, z1, z2, z3, z4, z5, z6, z7, z8, ih]
def V9 {β : Type} (LP0 : Int → Int → Ar → Option β) (k : Nat) (v : Ar) (w : Int) : Option β := LP0 w 0 v
def F33 (k : Nat) (v : Ar) (w : Int) : Option (Int × Ar) := V9 (Ix k v w k) k v w
theorem Xpf {β : Type} (k : Nat) (v : Ar) (w : Int) (K : KT β) : Ag (Yh k) Try.f33 (PsT.put Xea (v, w, ())) K = (F33 k v w).bind fun r => K (F33_O.put r) :=
 Eq.trans (b := V9 (Nc k v w K k) k v w) (by kernel_rfl) (by simp only [F33, V9, z1, z2, z3, z4, z5, z6, z7, z8, Y8])
def Xiz (k : Nat) : FD := ⟨33, Xea, F33_O, F33 k⟩
theorem Xq9 (k : Nat) : (Xiz k).Ok Try.prog := ⟨fun x => Ad (Ai .none _ _ _ _) Ah Try.func33 rfl rfl (Xpf k _ _ some), .of (by kernel_rfl)⟩
def Xr5 : Nat → Hint
 | 0 => ⟨pl 0 2 (pl 5 1 []), pl 0 1 []⟩
 | _ => ⟨[], []⟩
abbrev Yg (k : Nat) : Env := Bc (A1 [Xiz k]) Xr5 .own [(true, 0)] k
abbrev Xd7 : List PA := [.one (.lent .own sta), .one mI]
abbrev F13_O : RO := ⟨[.v], [mI, .sl .own sta]⟩
noncomputable def Xrr {β : Type} (k : Nat) (v : Ab) (w : Int) (K : KT β) : Ex → St → Option β := Bz (Yg k) Try.f13 (PsT.put Xd7 (v, w, ())) K
def Xnx (v : Ab) (w : Int) (x1_0 x5_0 : Int) (m0_0 : Ab) : St := ⟨(.one (.a (.cell 0) 0 0 none)) :: (.one (vI x1_0)) :: dz 3 ((.one (vI x5_0)) :: dz 21 []), [eM 0 (.s .own sta m0_0)]⟩
noncomputable def M5 {β : Type} (k : Nat) (v : Ab) (w : Int) (K : KT β) (n : Nat) (x1_0 x5_0 : Int) (m0_0 : Ab) : Option β := A6 (Yg k) Try.f13 [1, 0, 1, 0] 0 (Ak (Yg k) [1, 0, 1, 0] (Al Try.f13) 0 (Xrr k v w K)) n (Xnx v w x1_0 x5_0 m0_0)
def Gi {β : Type} (NX : Int → Int → Ab → Option β) (RET : (Int × Ab) → Option β) (k : Nat) (v : Ab) (w : Int) (x1_0 x5_0 : Int) (m0_0 : Ab) : Option β := cond (decide (x5_0 < (m0_0.length : Int))) (A2 x5_0 m0_0 (A2 x5_0 (m0_0.set x5_0.toNat (x1_0, (Af m0_0 x5_0).2)) ((F33 k (Af (m0_0.set x5_0.toNat (x1_0, (Af m0_0 x5_0).2)) x5_0).2 (i64.wrap (x1_0 + 1))).bind fun b1 => NX b1.1 (i64.wrap (x5_0 + 1)) ((m0_0.set x5_0.toNat (x1_0, (Af m0_0 x5_0).2)).set x5_0.toNat ((Af (m0_0.set x5_0.toNat (x1_0, (Af m0_0 x5_0).2)) x5_0).1, b1.2))))) (RET (x1_0, m0_0))
def Ic (k : Nat) (v : Ab) (w : Int) : Nat → Int → Int → Ab → Option (Int × Ab)
 | 0, _, _, _ => none
 | n + 1, x1_0, x5_0, m0_0 => Gi (Ic k v w n) some k v w x1_0 x5_0 m0_0
theorem Y3 {β : Type} (k : Nat) (v : Ab) (w : Int) (K : KT β) (n : Nat) : ∀ (x1_0 x5_0 : Int) (m0_0 : Ab), M5 k v w K n x1_0 x5_0 m0_0 =
  (Ic k v w n x1_0 x5_0 m0_0).bind fun r => K (F13_O.put r) := by
 induction n with
 | zero => intros; rfl
 | succ n ih =>
  intro x1_0 x5_0 m0_0
  refine Eq.trans (b := Gi (M5 k v w K n) (fun r => K (F13_O.put r)) k v w x1_0 x5_0 m0_0) (by kernel_rfl) ?_
  rw [Ic]
  simp only [Gi, z1, z2, z3, z4, z5, z6, z7, z8, ih]
def V7 {β : Type} (LP0 : Int → Int → Ab → Option β) (k : Nat) (v : Ab) (w : Int) : Option β := LP0 w 0 v
def F13 (k : Nat) (v : Ab) (w : Int) : Option (Int × Ab) := V7 (Ic k v w k) k v w
theorem Xlb {β : Type} (k : Nat) (v : Ab) (w : Int) (K : KT β) : Ag (Yg k) Try.f13 (PsT.put Xd7 (v, w, ())) K = (F13 k v w).bind fun r => K (F13_O.put r) :=
 Eq.trans (b := V7 (M5 k v w K k) k v w) (by kernel_rfl) (by simp only [F13, V7, z1, z2, z3, z4, z5, z6, z7, z8, Y3])
def Xg6 (k : Nat) : FD := ⟨13, Xd7, F13_O, F13 k⟩
theorem Xre (k : Nat) : (Xg6 k).Ok Try.prog := ⟨fun x => Ad (Ai (Aj (.c (Xq9 k) .n)) _ _ _ _) Ah Try.func13 rfl rfl (Xlb k _ _ some), .of (by kernel_rfl)⟩
def Xqu : Nat → Hint
 | 0 => ⟨pl 0 2 (pl 5 1 []), pl 0 1 []⟩
 | _ => ⟨[], []⟩
abbrev Xs (k : Nat) : Env := Bc Bp Xqu .own [(true, 0)] k
abbrev Xbm : List PA := [.one (.lent .own (.int .u8)), .one mI]
abbrev F34_O : RO := ⟨[.v], [mI, .sl .own (.int .u8)]⟩
noncomputable def Xql {β : Type} (k : Nat) (v : Ac) (w : Int) (K : KT β) : Ex → St → Option β := Bz (Xs k) Try.f34 (PsT.put Xbm (v, w, ())) K
def Xmo (v : Ac) (w : Int) (x1_0 x5_0 : Int) (m0_0 : Ac) : St := ⟨(.one (.a (.cell 0) 0 0 none)) :: (.one (vI x1_0)) :: dz 3 ((.one (vI x5_0)) :: dz 14 []), [eM 0 (.s .own (.int .u8) m0_0)]⟩
noncomputable def Oa {β : Type} (k : Nat) (v : Ac) (w : Int) (K : KT β) (n : Nat) (x1_0 x5_0 : Int) (m0_0 : Ac) : Option β := A6 (Xs k) Try.f34 [1, 0, 1, 0] 0 (Ak (Xs k) [1, 0, 1, 0] (Al Try.f34) 0 (Xql k v w K)) n (Xmo v w x1_0 x5_0 m0_0)
def Gb {β : Type} (NX : Int → Int → Ac → Option β) (RET : (Int × Ac) → Option β) (k : Nat) (v : Ac) (w : Int) (x1_0 x5_0 : Int) (m0_0 : Ac) : Option β := cond (decide (x5_0 < (m0_0.length : Int))) (A2 x5_0 m0_0 (NX (i64.wrap (x1_0 + 1)) (i64.wrap (x5_0 + 1)) (m0_0.set x5_0.toNat (u8.wrap x1_0)))) (RET (x1_0, m0_0))
def Ib (k : Nat) (v : Ac) (w : Int) : Nat → Int → Int → Ac → Option (Int × Ac)
 | 0, _, _, _ => none
 | n + 1, x1_0, x5_0, m0_0 => Gb (Ib k v w n) some k v w x1_0 x5_0 m0_0
theorem Ze {β : Type} (k : Nat) (v : Ac) (w : Int) (K : KT β) (n : Nat) : ∀ (x1_0 x5_0 : Int) (m0_0 : Ac), Oa k v w K n x1_0 x5_0 m0_0 =
  (Ib k v w n x1_0 x5_0 m0_0).bind fun r => K (F34_O.put r) := by
 induction n with
 | zero => intros; rfl
 | succ n ih =>
  intro x1_0 x5_0 m0_0
  refine Eq.trans (b := Gb (Oa k v w K n) (fun r => K (F34_O.put r)) k v w x1_0 x5_0 m0_0) (by kernel_rfl) ?_
  rw [Ib]
  simp only [Gb, z1, z2, z3, z4, z5, z6, z7, z8, ih]
def Vc {β : Type} (LP0 : Int → Int → Ac → Option β) (k : Nat) (v : Ac) (w : Int) : Option β := LP0 w 0 v
def F34 (k : Nat) (v : Ac) (w : Int) : Option (Int × Ac) := Vc (Ib k v w k) k v w
theorem Xo7 {β : Type} (k : Nat) (v : Ac) (w : Int) (K : KT β) : Ag (Xs k) Try.f34 (PsT.put Xbm (v, w, ())) K = (F34 k v w).bind fun r => K (F34_O.put r) :=
 Eq.trans (b := Vc (Oa k v w K k) k v w) (by kernel_rfl) (by simp only [F34, Vc, z1, z2, z3, z4, z5, z6, z7, z8, Ze])
def Xcy (k : Nat) : FD := ⟨34, Xbm, F34_O, F34 k⟩
theorem Xhg (k : Nat) : (Xcy k).Ok Try.prog := ⟨fun x => Ad (Ai .none _ _ _ _) Ah Try.func34 rfl rfl (Xo7 k _ _ some), .of (by kernel_rfl)⟩
abbrev Xqh (k : Nat) : Env := Bc (A1 [Xcy k]) Ap .own [(true, 8)] k
abbrev Xhw : List PA := [.agg (.pair mI m_17), .one mI]
abbrev F14_O : RO := ⟨[.v], [mI, .sl .own (.int .u8)]⟩
def F14 (k : Nat) (v : (den An)) (w : Int) : Option (Int × Ac) := (F34 k v.2.2.2.2.2.2.2.2 w).bind fun b1 => some b1
theorem Xor {β : Type} (k : Nat) (v : (den An)) (w : Int) (K : KT β) : Ag (Xqh k) Try.f14 (PsT.put Xhw (v, w, ())) K = (F14 k v w).bind fun r => K (F14_O.put r) :=
 Eq.trans (b := (F34 k v.2.2.2.2.2.2.2.2 w).bind fun b1 => K (F14_O.put b1)) (by kernel_rfl) (by simp only [F14, z1, z2, z3, z4, z5, z6, z7, z8, Aw])
def Xii (k : Nat) : FD := ⟨14, Xhw, F14_O, F14 k⟩
theorem Xuu (k : Nat) : (Xii k).Ok Try.prog := ⟨fun x => Ad (Ai (Aj (.c (Xhg k) .n)) _ _ _ _) Ah Try.func14 rfl rfl (Xor k _ _ some), .of (by kernel_rfl)⟩
def Xrp : Nat → Hint
 | 0 => ⟨pl 0 2 (pl 5 1 []), pl 0 1 []⟩
 | _ => ⟨[], []⟩
abbrev X5 (k : Nat) : Env := Bc (A1 [Xcy k]) Xrp .own [(true, 0)] k
abbrev Xdm : List PA := [.one (.lent .own An), .one mI]
abbrev F35_O : RO := ⟨[.v], [mI, .sl .own An]⟩
noncomputable def Xt6 {β : Type} (k : Nat) (v : Ae) (w : Int) (K : KT β) : Ex → St → Option β := Bz (X5 k) Try.f35 (PsT.put Xdm (v, w, ())) K
def Xmv (v : Ae) (w : Int) (x1_0 x5_0 : Int) (m0_0 : Ae) : St := ⟨(.one (.a (.cell 0) 0 0 none)) :: (.one (vI x1_0)) :: dz 3 ((.one (vI x5_0)) :: dz 74 []), [eM 0 (.s .own An m0_0)]⟩
noncomputable def Nv {β : Type} (k : Nat) (v : Ae) (w : Int) (K : KT β) (n : Nat) (x1_0 x5_0 : Int) (m0_0 : Ae) : Option β := A6 (X5 k) Try.f35 [1, 0, 1, 0] 0 (Ak (X5 k) [1, 0, 1, 0] (Al Try.f35) 0 (Xt6 k v w K)) n (Xmv v w x1_0 x5_0 m0_0)
def Gg {β : Type} (NX : Int → Int → Ae → Option β) (RET : (Int × Ae) → Option β) (k : Nat) (v : Ae) (w : Int) (x1_0 x5_0 : Int) (m0_0 : Ae) : Option β := cond (decide (x5_0 < (m0_0.length : Int))) (A2 x5_0 m0_0 (A2 x5_0 (m0_0.set x5_0.toNat (x1_0, (Af m0_0 x5_0).2)) (A2 x5_0 ((m0_0.set x5_0.toNat (x1_0, (Af m0_0 x5_0).2)).set x5_0.toNat ((Af (m0_0.set x5_0.toNat (x1_0, (Af m0_0 x5_0).2)) x5_0).1, i64.wrap (x1_0 + 1), (Af (m0_0.set x5_0.toNat (x1_0, (Af m0_0 x5_0).2)) x5_0).2.2)) ((sto (((m0_0.set x5_0.toNat (x1_0, (Af m0_0 x5_0).2)).set x5_0.toNat ((Af (m0_0.set x5_0.toNat (x1_0, (Af m0_0 x5_0).2)) x5_0).1, i64.wrap (x1_0 + 1), (Af (m0_0.set x5_0.toNat (x1_0, (Af m0_0 x5_0).2)) x5_0).2.2)).set x5_0.toNat ((Af ((m0_0.set x5_0.toNat (x1_0, (Af m0_0 x5_0).2)).set x5_0.toNat ((Af (m0_0.set x5_0.toNat (x1_0, (Af m0_0 x5_0).2)) x5_0).1, i64.wrap (x1_0 + 1), (Af (m0_0.set x5_0.toNat (x1_0, (Af m0_0 x5_0).2)) x5_0).2.2)) x5_0).1, (Af ((m0_0.set x5_0.toNat (x1_0, (Af m0_0 x5_0).2)).set x5_0.toNat ((Af (m0_0.set x5_0.toNat (x1_0, (Af m0_0 x5_0).2)) x5_0).1, i64.wrap (x1_0 + 1), (Af (m0_0.set x5_0.toNat (x1_0, (Af m0_0 x5_0).2)) x5_0).2.2)) x5_0).2.1, i64.wrap ((i64.wrap (x1_0 + 1)) + 1), (Af ((m0_0.set x5_0.toNat (x1_0, (Af m0_0 x5_0).2)).set x5_0.toNat ((Af (m0_0.set x5_0.toNat (x1_0, (Af m0_0 x5_0).2)) x5_0).1, i64.wrap (x1_0 + 1), (Af (m0_0.set x5_0.toNat (x1_0, (Af m0_0 x5_0).2)) x5_0).2.2)) x5_0).2.2.2))).bind fun b1 => A2 x5_0 b1 (A2 x5_0 (b1.set x5_0.toNat ((Af b1 x5_0).1, (Af b1 x5_0).2.1, (Af b1 x5_0).2.2.1, i64.wrap ((i64.wrap ((i64.wrap (x1_0 + 1)) + 1)) + 1), (Af b1 x5_0).2.2.2.2)) ((sto ((b1.set x5_0.toNat ((Af b1 x5_0).1, (Af b1 x5_0).2.1, (Af b1 x5_0).2.2.1, i64.wrap ((i64.wrap ((i64.wrap (x1_0 + 1)) + 1)) + 1), (Af b1 x5_0).2.2.2.2)).set x5_0.toNat ((Af (b1.set x5_0.toNat ((Af b1 x5_0).1, (Af b1 x5_0).2.1, (Af b1 x5_0).2.2.1, i64.wrap ((i64.wrap ((i64.wrap (x1_0 + 1)) + 1)) + 1), (Af b1 x5_0).2.2.2.2)) x5_0).1, (Af (b1.set x5_0.toNat ((Af b1 x5_0).1, (Af b1 x5_0).2.1, (Af b1 x5_0).2.2.1, i64.wrap ((i64.wrap ((i64.wrap (x1_0 + 1)) + 1)) + 1), (Af b1 x5_0).2.2.2.2)) x5_0).2.1, (Af (b1.set x5_0.toNat ((Af b1 x5_0).1, (Af b1 x5_0).2.1, (Af b1 x5_0).2.2.1, i64.wrap ((i64.wrap ((i64.wrap (x1_0 + 1)) + 1)) + 1), (Af b1 x5_0).2.2.2.2)) x5_0).2.2.1, (Af (b1.set x5_0.toNat ((Af b1 x5_0).1, (Af b1 x5_0).2.1, (Af b1 x5_0).2.2.1, i64.wrap ((i64.wrap ((i64.wrap (x1_0 + 1)) + 1)) + 1), (Af b1 x5_0).2.2.2.2)) x5_0).2.2.2.1, i64.wrap ((i64.wrap ((i64.wrap ((i64.wrap (x1_0 + 1)) + 1)) + 1)) + 1), (Af (b1.set x5_0.toNat ((Af b1 x5_0).1, (Af b1 x5_0).2.1, (Af b1 x5_0).2.2.1, i64.wrap ((i64.wrap ((i64.wrap (x1_0 + 1)) + 1)) + 1), (Af b1 x5_0).2.2.2.2)) x5_0).2.2.2.2.2))).bind fun b2 => A2 x5_0 b2 (A2 x5_0 (b2.set x5_0.toNat ((Af b2 x5_0).1, (Af b2 x5_0).2.1, (Af b2 x5_0).2.2.1, (Af b2 x5_0).2.2.2.1, (Af b2 x5_0).2.2.2.2.1, i64.wrap ((i64.wrap ((i64.wrap ((i64.wrap ((i64.wrap (x1_0 + 1)) + 1)) + 1)) + 1)) + 1), (Af b2 x5_0).2.2.2.2.2.2)) ((sto ((b2.set x5_0.toNat ((Af b2 x5_0).1, (Af b2 x5_0).2.1, (Af b2 x5_0).2.2.1, (Af b2 x5_0).2.2.2.1, (Af b2 x5_0).2.2.2.2.1, i64.wrap ((i64.wrap ((i64.wrap ((i64.wrap ((i64.wrap (x1_0 + 1)) + 1)) + 1)) + 1)) + 1), (Af b2 x5_0).2.2.2.2.2.2)).set x5_0.toNat ((Af (b2.set x5_0.toNat ((Af b2 x5_0).1, (Af b2 x5_0).2.1, (Af b2 x5_0).2.2.1, (Af b2 x5_0).2.2.2.1, (Af b2 x5_0).2.2.2.2.1, i64.wrap ((i64.wrap ((i64.wrap ((i64.wrap ((i64.wrap (x1_0 + 1)) + 1)) + 1)) + 1)) + 1), (Af b2 x5_0).2.2.2.2.2.2)) x5_0).1, (Af (b2.set x5_0.toNat ((Af b2 x5_0).1, (Af b2 x5_0).2.1, (Af b2 x5_0).2.2.1, (Af b2 x5_0).2.2.2.1, (Af b2 x5_0).2.2.2.2.1, i64.wrap ((i64.wrap ((i64.wrap ((i64.wrap ((i64.wrap (x1_0 + 1)) + 1)) + 1)) + 1)) + 1), (Af b2 x5_0).2.2.2.2.2.2)) x5_0).2.1, (Af (b2.set x5_0.toNat ((Af b2 x5_0).1, (Af b2 x5_0).2.1, (Af b2 x5_0).2.2.1, (Af b2 x5_0).2.2.2.1, (Af b2 x5_0).2.2.2.2.1, i64.wrap ((i64.wrap ((i64.wrap ((i64.wrap ((i64.wrap (x1_0 + 1)) + 1)) + 1)) + 1)) + 1), (Af b2 x5_0).2.2.2.2.2.2)) x5_0).2.2.1, (Af (b2.set x5_0.toNat ((Af b2 x5_0).1, (Af b2 x5_0).2.1, (Af b2 x5_0).2.2.1, (Af b2 x5_0).2.2.2.1, (Af b2 x5_0).2.2.2.2.1, i64.wrap ((i64.wrap ((i64.wrap ((i64.wrap ((i64.wrap (x1_0 + 1)) + 1)) + 1)) + 1)) + 1), (Af b2 x5_0).2.2.2.2.2.2)) x5_0).2.2.2.1, (Af (b2.set x5_0.toNat ((Af b2 x5_0).1, (Af b2 x5_0).2.1, (Af b2 x5_0).2.2.1, (Af b2 x5_0).2.2.2.1, (Af b2 x5_0).2.2.2.2.1, i64.wrap ((i64.wrap ((i64.wrap ((i64.wrap ((i64.wrap (x1_0 + 1)) + 1)) + 1)) + 1)) + 1), (Af b2 x5_0).2.2.2.2.2.2)) x5_0).2.2.2.2.1, (Af (b2.set x5_0.toNat ((Af b2 x5_0).1, (Af b2 x5_0).2.1, (Af b2 x5_0).2.2.1, (Af b2 x5_0).2.2.2.1, (Af b2 x5_0).2.2.2.2.1, i64.wrap ((i64.wrap ((i64.wrap ((i64.wrap ((i64.wrap (x1_0 + 1)) + 1)) + 1)) + 1)) + 1), (Af b2 x5_0).2.2.2.2.2.2)) x5_0).2.2.2.2.2.1, (((i64.wrap ((i64.wrap ((i64.wrap ((i64.wrap ((i64.wrap ((i64.wrap (x1_0 + 1)) + 1)) + 1)) + 1)) + 1)) + 1)).tmod 3) == 0), (Af (b2.set x5_0.toNat ((Af b2 x5_0).1, (Af b2 x5_0).2.1, (Af b2 x5_0).2.2.1, (Af b2 x5_0).2.2.2.1, (Af b2 x5_0).2.2.2.2.1, i64.wrap ((i64.wrap ((i64.wrap ((i64.wrap ((i64.wrap (x1_0 + 1)) + 1)) + 1)) + 1)) + 1), (Af b2 x5_0).2.2.2.2.2.2)) x5_0).2.2.2.2.2.2.2))).bind fun b3 => A2 x5_0 b3 ((sto (b3.set x5_0.toNat ((Af b3 x5_0).1, (Af b3 x5_0).2.1, (Af b3 x5_0).2.2.1, (Af b3 x5_0).2.2.2.1, (Af b3 x5_0).2.2.2.2.1, (Af b3 x5_0).2.2.2.2.2.1, (Af b3 x5_0).2.2.2.2.2.2.1, (((i64.wrap ((i64.wrap ((i64.wrap ((i64.wrap ((i64.wrap ((i64.wrap ((i64.wrap (x1_0 + 1)) + 1)) + 1)) + 1)) + 1)) + 1)) + 1)).tmod 3) == 0), (Af b3 x5_0).2.2.2.2.2.2.2.2))).bind fun b4 => A2 x5_0 b4 ((F34 k (Af b4 x5_0).2.2.2.2.2.2.2.2 (i64.wrap ((i64.wrap ((i64.wrap ((i64.wrap ((i64.wrap ((i64.wrap ((i64.wrap ((i64.wrap (x1_0 + 1)) + 1)) + 1)) + 1)) + 1)) + 1)) + 1)) + 1))).bind fun b5 => NX b5.1 (i64.wrap (x5_0 + 1)) (b4.set x5_0.toNat ((Af b4 x5_0).1, (Af b4 x5_0).2.1, (Af b4 x5_0).2.2.1, (Af b4 x5_0).2.2.2.1, (Af b4 x5_0).2.2.2.2.1, (Af b4 x5_0).2.2.2.2.2.1, (Af b4 x5_0).2.2.2.2.2.2.1, (Af b4 x5_0).2.2.2.2.2.2.2.1, b5.2)))))))))))) (RET (x1_0, m0_0))
def Fk (k : Nat) (v : Ae) (w : Int) : Nat → Int → Int → Ae → Option (Int × Ae)
 | 0, _, _, _ => none
 | n + 1, x1_0, x5_0, m0_0 => Gg (Fk k v w n) some k v w x1_0 x5_0 m0_0
theorem Yv {β : Type} (k : Nat) (v : Ae) (w : Int) (K : KT β) (n : Nat) : ∀ (x1_0 x5_0 : Int) (m0_0 : Ae), Nv k v w K n x1_0 x5_0 m0_0 =
  (Fk k v w n x1_0 x5_0 m0_0).bind fun r => K (F35_O.put r) := by
 induction n with
 | zero => intros; rfl
 | succ n ih =>
  intro x1_0 x5_0 m0_0
  refine Eq.trans (b := Gg (Nv k v w K n) (fun r => K (F35_O.put r)) k v w x1_0 x5_0 m0_0) (by kernel_rfl) ?_
  rw [Fk]
  simp only [Gg, z1, z2, z3, z4, z5, z6, z7, z8, ih]
def X8 {β : Type} (LP0 : Int → Int → Ae → Option β) (k : Nat) (v : Ae) (w : Int) : Option β := LP0 w 0 v
def F35 (k : Nat) (v : Ae) (w : Int) : Option (Int × Ae) := X8 (Fk k v w k) k v w
theorem Xlx {β : Type} (k : Nat) (v : Ae) (w : Int) (K : KT β) : Ag (X5 k) Try.f35 (PsT.put Xdm (v, w, ())) K = (F35 k v w).bind fun r => K (F35_O.put r) :=
 Eq.trans (b := X8 (Nv k v w K k) k v w) (by kernel_rfl) (by simp only [F35, X8, z1, z2, z3, z4, z5, z6, z7, z8, Yv])
def Xgb (k : Nat) : FD := ⟨35, Xdm, F35_O, F35 k⟩
theorem Xr7 (k : Nat) : (Xgb k).Ok Try.prog := ⟨fun x => Ad (Ai (Aj (.c (Xhg k) .n)) _ _ _ _) Ah Try.func35 rfl rfl (Xlx k _ _ some), .of (by kernel_rfl)⟩
abbrev Xvd (k : Nat) : Env := Bc (A1 [Xgb k]) Ap .own [(true, 0), (true, 1)] k
abbrev Xit : List PA := [.agg m_19, .one mI]
abbrev F15_O : RO := ⟨[.v], [mI, .sl .own An, .sl .own An]⟩
def F15 (k : Nat) (v : (den Co)) (w : Int) : Option (Int × Ae × Ae) := (F35 k v.1 w).bind fun b1 => (F35 k v.2.1 b1.1).bind fun b2 => some (b2.1, b1.2, b2.2)
theorem Xof {β : Type} (k : Nat) (v : (den Co)) (w : Int) (K : KT β) : Ag (Xvd k) Try.f15 (PsT.put Xit (v, w, ())) K = (F15 k v w).bind fun r => K (F15_O.put r) :=
 Eq.trans (b := (F35 k v.1 w).bind fun b1 => (F35 k v.2.1 b1.1).bind fun b2 => K (F15_O.put (b2.1, b1.2, b2.2))) (by kernel_rfl) (by simp only [F15, z1, z2, z3, z4, z5, z6, z7, z8])
def Xgj (k : Nat) : FD := ⟨15, Xit, F15_O, F15 k⟩
theorem Xqc (k : Nat) : (Xgj k).Ok Try.prog := ⟨fun x => Ad (Ai (Aj (.c (Xr7 k) .n)) _ _ _ _) Ah Try.func15 rfl rfl (Xof k _ _ some), .of (by kernel_rfl)⟩
def Xtg : Nat → Hint
 | 0 => ⟨pl 0 2 (pl 5 1 []), []⟩
 | _ => ⟨[], []⟩
abbrev We (k : Nat) : Env := Bc Bp Xtg .own [] k
abbrev Xcc : List PA := [.one (.sl .ro (.int .u8)), .one mI]
abbrev F50_O : RO := ⟨[.v], [mI]⟩
noncomputable def Xqb {β : Type} (k : Nat) (v : Ac) (w : Int) (K : KT β) : Ex → St → Option β := Bz (We k) Try.f50 (PsT.put Xcc (v, w, ())) K
def Xkp (v : Ac) (w : Int) (x1_0 x5_0 : Int) : St := ⟨(.one (.s .ro (.int .u8) v)) :: (.one (vI x1_0)) :: dz 3 ((.one (vI x5_0)) :: dz 16 []), []⟩
noncomputable def O8 {β : Type} (k : Nat) (v : Ac) (w : Int) (K : KT β) (n : Nat) (x1_0 x5_0 : Int) : Option β := A6 (We k) Try.f50 [1, 0, 1, 0] 0 (Ak (We k) [1, 0, 1, 0] (Al Try.f50) 0 (Xqb k v w K)) n (Xkp v w x1_0 x5_0)
def G1 {β : Type} (NX : Int → Int → Option β) (RET : Int → Option β) (k : Nat) (v : Ac) (w : Int) (x1_0 x5_0 : Int) : Option β := cond (decide (x5_0 < (v.length : Int))) (A2 x5_0 v (cond ((Af v x5_0) != (u8.wrap x1_0)) (RET (-1)) (NX (i64.wrap (x1_0 + 1)) (i64.wrap (x5_0 + 1))))) (RET x1_0)
def Jb (k : Nat) (v : Ac) (w : Int) : Nat → Int → Int → Option (Int)
 | 0, _, _ => none
 | n + 1, x1_0, x5_0 => G1 (Jb k v w n) some k v w x1_0 x5_0
theorem Zd {β : Type} (k : Nat) (v : Ac) (w : Int) (K : KT β) (n : Nat) : ∀ (x1_0 x5_0 : Int), O8 k v w K n x1_0 x5_0 =
  (Jb k v w n x1_0 x5_0).bind fun r => K (F50_O.put r) := by
 induction n with
 | zero => intros; rfl
 | succ n ih =>
  intro x1_0 x5_0
  refine Eq.trans (b := G1 (O8 k v w K n) (fun r => K (F50_O.put r)) k v w x1_0 x5_0) (by kernel_rfl) ?_
  rw [Jb]
  simp only [G1, z1, z2, z3, z4, z5, z6, z7, z8, ih]
def Vr {β : Type} (LP0 : Int → Int → Option β) (k : Nat) (v : Ac) (w : Int) : Option β := LP0 w 0
def F50 (k : Nat) (v : Ac) (w : Int) : Option (Int) := Vr (Jb k v w k) k v w
theorem Xmz {β : Type} (k : Nat) (v : Ac) (w : Int) (K : KT β) : Ag (We k) Try.f50 (PsT.put Xcc (v, w, ())) K = (F50 k v w).bind fun r => K (F50_O.put r) :=
 Eq.trans (b := Vr (O8 k v w K k) k v w) (by kernel_rfl) (by simp only [F50, Vr, z1, z2, z3, z4, z5, z6, z7, z8, Zd])
def Xhs (k : Nat) : FD := ⟨50, Xcc, F50_O, F50 k⟩
theorem Xr2 (k : Nat) : (Xhs k).Ok Try.prog := ⟨fun x => Ad (Ai .none _ _ _ _) Ah Try.func50 rfl rfl (Xmz k _ _ some), .of (by kernel_rfl)⟩
def Xsl : Nat → Hint
 | 0 => ⟨pl 0 2 (pl 5 1 []), []⟩
 | _ => ⟨[], []⟩
abbrev Xk (k : Nat) : Env := Bc (A1 [Xhs k]) Xsl .own [] k
abbrev Xez : List PA := [.one (.sl .ro An), .one mI]
abbrev F36_O : RO := ⟨[.v], [mI]⟩
noncomputable def Xus {β : Type} (k : Nat) (v : Ae) (w : Int) (K : KT β) : Ex → St → Option β := Bz (Xk k) Try.f36 (PsT.put Xez (v, w, ())) K
def Xnh (v : Ae) (w : Int) (x1_0 x5_0 : Int) : St := ⟨(.one (.s .ro An v)) :: (.one (vI x1_0)) :: dz 3 ((.one (vI x5_0)) :: dz 92 []), []⟩
noncomputable def Pc {β : Type} (k : Nat) (v : Ae) (w : Int) (K : KT β) (n : Nat) (x1_0 x5_0 : Int) : Option β := A6 (Xk k) Try.f36 [1, 0, 1, 0] 0 (Ak (Xk k) [1, 0, 1, 0] (Al Try.f36) 0 (Xus k v w K)) n (Xnh v w x1_0 x5_0)
def G4 {β : Type} (NX : Int → Int → Option β) (RET : Int → Option β) (k : Nat) (v : Ae) (w : Int) (x1_0 x5_0 : Int) : Option β := cond (decide (x5_0 < (v.length : Int))) (A2 x5_0 v (cond ((Af v x5_0).1 != x1_0) (RET (-1)) (A2 x5_0 v (cond ((Af v x5_0).2.1 != (i64.wrap (x1_0 + 1))) (RET (-1)) (A2 x5_0 v (cond ((Af v x5_0).2.2.1 != (i64.wrap ((i64.wrap (x1_0 + 1)) + 1))) (RET (-1)) (A2 x5_0 v (cond ((Af v x5_0).2.2.2.1 != (i64.wrap ((i64.wrap ((i64.wrap (x1_0 + 1)) + 1)) + 1))) (RET (-1)) (A2 x5_0 v (cond ((Af v x5_0).2.2.2.2.1 != (i64.wrap ((i64.wrap ((i64.wrap ((i64.wrap (x1_0 + 1)) + 1)) + 1)) + 1))) (RET (-1)) (A2 x5_0 v (cond ((Af v x5_0).2.2.2.2.2.1 != (i64.wrap ((i64.wrap ((i64.wrap ((i64.wrap ((i64.wrap (x1_0 + 1)) + 1)) + 1)) + 1)) + 1))) (RET (-1)) (A2 x5_0 v (cond (!((Af v x5_0).2.2.2.2.2.2.1 == (((i64.wrap ((i64.wrap ((i64.wrap ((i64.wrap ((i64.wrap ((i64.wrap (x1_0 + 1)) + 1)) + 1)) + 1)) + 1)) + 1)).tmod 3) == 0))) (RET (-1)) (A2 x5_0 v (cond (!((Af v x5_0).2.2.2.2.2.2.2.1 == (((i64.wrap ((i64.wrap ((i64.wrap ((i64.wrap ((i64.wrap ((i64.wrap ((i64.wrap (x1_0 + 1)) + 1)) + 1)) + 1)) + 1)) + 1)) + 1)).tmod 3) == 0))) (RET (-1)) (A2 x5_0 v ((F50 k (Af v x5_0).2.2.2.2.2.2.2.2 (i64.wrap ((i64.wrap ((i64.wrap ((i64.wrap ((i64.wrap ((i64.wrap ((i64.wrap ((i64.wrap (x1_0 + 1)) + 1)) + 1)) + 1)) + 1)) + 1)) + 1)) + 1))).bind fun b1 => cond (decide (b1 < 0)) (RET (-1)) (NX b1 (i64.wrap (x5_0 + 1))))))))))))))))))))) (RET x1_0)
def E6 (k : Nat) (v : Ae) (w : Int) : Nat → Int → Int → Option (Int)
 | 0, _, _ => none
 | n + 1, x1_0, x5_0 => G4 (E6 k v w n) some k v w x1_0 x5_0
theorem Xad {β : Type} (k : Nat) (v : Ae) (w : Int) (K : KT β) (n : Nat) : ∀ (x1_0 x5_0 : Int), Pc k v w K n x1_0 x5_0 =
  (E6 k v w n x1_0 x5_0).bind fun r => K (F36_O.put r) := by
 induction n with
 | zero => intros; rfl
 | succ n ih =>
  intro x1_0 x5_0
  refine Eq.trans (b := G4 (Pc k v w K n) (fun r => K (F36_O.put r)) k v w x1_0 x5_0) (by kernel_rfl) ?_
  rw [E6]
  simp only [G4, z1, z2, z3, z4, z5, z6, z7, z8, ih]
def Vz {β : Type} (LP0 : Int → Int → Option β) (k : Nat) (v : Ae) (w : Int) : Option β := LP0 w 0
def F36 (k : Nat) (v : Ae) (w : Int) : Option (Int) := Vz (E6 k v w k) k v w
theorem Xmr {β : Type} (k : Nat) (v : Ae) (w : Int) (K : KT β) : Ag (Xk k) Try.f36 (PsT.put Xez (v, w, ())) K = (F36 k v w).bind fun r => K (F36_O.put r) :=
 Eq.trans (b := Vz (Pc k v w K k) k v w) (by kernel_rfl) (by simp only [F36, Vz, z1, z2, z3, z4, z5, z6, z7, z8, Xad])
def Xh4 (k : Nat) : FD := ⟨36, Xez, F36_O, F36 k⟩
theorem Xs2 (k : Nat) : (Xh4 k).Ok Try.prog := ⟨fun x => Ad (Ai (Aj (.c (Xr2 k) .n)) _ _ _ _) Ah Try.func36 rfl rfl (Xmr k _ _ some), .of (by kernel_rfl)⟩
abbrev Xp0 (k : Nat) : Env := Bc (A1 [Xh4 k]) Ap .own [] k
abbrev Xg7 : List PA := [.agg Xe7, .one mI]
abbrev F16_O : RO := ⟨[.v], [mI]⟩
def Vs {β : Type} (RET : Int → Option β) (k : Nat) (v : (den Co)) (w : Int) : Option β := (F36 k v.1 w).bind fun b1 => cond (decide (b1 < 0)) (RET (-1)) ((F36 k v.2.1 b1).bind fun b2 => cond (decide (b2 < 0)) (RET (-1)) (RET b2))
def F16 := Vs (β := Int) some
theorem Xod {β : Type} (k : Nat) (v : (den Co)) (w : Int) (K : KT β) : Ag (Xp0 k) Try.f16 (PsT.put Xg7 (v, w, ())) K = (F16 k v w).bind fun r => K (F16_O.put r) :=
 Eq.trans (b := Vs (fun r => K (F16_O.put r)) k v w) (by kernel_rfl) (by simp only [F16, Vs, z1, z2, z3, z4, z5, z6, z7, z8])
def Xgw (k : Nat) : FD := ⟨16, Xg7, F16_O, F16 k⟩
theorem Xsv (k : Nat) : (Xgw k).Ok Try.prog := ⟨fun x => Ad (Ai (Aj (.c (Xs2 k) .n)) _ _ _ _) Ah Try.func16 rfl rfl (Xod k _ _ some), .of (by kernel_rfl)⟩
abbrev F3_E (k : Nat) : Env := Bc (A1 [F4_d k, F5_d k, F7_d k, F8_d k, F6_d k, F9_d k, Xip k, Xi9 k, Xbb k, Xg6 k, Xii k, Xgj k, Xgw k]) Ap .own [] k
abbrev F3_A : List PA := [.one (.sl .ro sta), .one mI, .agg (.pair mI J1)]
abbrev F3_O : RO := ⟨[.v], [mB]⟩
def Xfj {β : Type} (RET : Bool → Option β) (k : Nat) (v : Ab) (w : Int) (p : (den An)) : Option β := (F4 k v 1048576).bind fun b1 => cond (decide (b1 < 0)) (RET true) ((F5 k p b1).bind fun b2 => cond (decide (b2 < 0)) (RET true) ((F7 k v).bind fun b3 => (F8 k p).bind fun b4 => (F6 k b3 w b4).bind fun b5 => (F7 k v).bind fun b6 => (F8 k p).bind fun b7 => (F9 k b6 w b7).bind fun b8 => (F10 k b8 b5).bind fun b9 => cond (!b9) (RET false) ((F7 k v).bind fun b10 => (F11 k b6 b10).bind fun b11 => cond (!b11) (RET false) ((F8 k p).bind fun b12 => (F12 k b7 b12).bind fun b13 => cond (!b13) (RET false) ((F13 k b6 1).bind fun b14 => (F14 k b7 b14.1).bind fun b15 => cond (decide (b15.1 < 0)) (RET false) ((F10 k b8 b5).bind fun b16 => cond (!b16) (RET false) ((F15 k b8 1).bind fun b17 => (F16 k (b17.2.1, b17.2.2, b8.2.2) 1).bind fun b18 => cond (decide (b18 < 0)) (RET false) (cond (b18 != b17.1) (RET false) ((F7 k v).bind fun b19 => (F8 k p).bind fun b20 => (F9 k b19 w b20).bind fun b21 => (F10 k b21 b5).bind fun b22 => cond (!b22) (RET false) ((F16 k (b17.2.1, b17.2.2, b8.2.2) 1).bind fun b23 => cond (decide (b23 < 0)) (RET false) (cond (b23 != b17.1) (RET false) (RET true))))))))))))
def F3 := Xfj (β := Bool) some
theorem Xvc {β : Type} (k : Nat) (v : Ab) (w : Int) (p : (den An)) (K : KT β) : Ag (F3_E k) Try.f3 (PsT.put F3_A (v, w, p, ())) K = (F3 k v w p).bind fun r => K (F3_O.put r) :=
 Eq.trans (b := Xfj (fun r => K (F3_O.put r)) k v w p) (by kernel_rfl) (by simp only [F3, Xfj, z1, z2, z3, z4, z5, z6, z7, z8, Aw])
def F3_d (k : Nat) : FD := ⟨3, F3_A, F3_O, F3 k⟩
theorem F3_q (k : Nat) : (F3_d k).Ok Try.prog := ⟨fun x => Ad (Ai (Aj (.c (F4_q k) (.c (F5_q k) (.c (F7_q k) (.c (F8_q k) (.c (F6_q k) (.c (F9_q k) (.c (Xrb k) (.c (Xp4 k) (.c (Xj4 k) (.c (Xre k) (.c (Xuu k) (.c (Xqc k) (.c (Xsv k) .n)))))))))))))) _ _ _ _) Ah Try.func3 rfl rfl (Xvc k _ _ _ some), .of (by kernel_rfl)⟩
end
end Go.Proofs.Ytdmepjjepogddaa.Gn
end

section
namespace Go.Proofs.Ytdmepjjepogddaa.Gn
open Go.Rf Go.IntWalk
set_option linter.unusedVariables false
set_option linter.unusedSimpArgs false
def inB (a b c : Int) : Bool := decide (b ≤ a) && decide (a ≤ c)
theorem B3 (k : Nat) (a b c : Int) : Ki k a b c = some (inB a b c) := by
 unfold Ki inB; (try dsimp only)
 have : decide (a ≥ b) = decide (b ≤ a) := rfl
 rw [this]
 cases decide (b ≤ a) <;> rfl
theorem G7 (k : Nat) (a b c : Int) : Tz k a b c = some (inB a b c) := B3 k a b c
theorem Im (k : Nat) (a : Int) : W7 k a = some (inB a 0 65535) := by unfold W7; (try dsimp only); rw [G7]; rfl
abbrev Bo : Type := List (den (.int .u8))
theorem ml : maxLen = 9223372036854775807 := rfl
theorem Xkv (k : Nat) (l : Bo) (x : Int) (hl : l.length ≤ maxLen) (hx : 0 ≤ x ∧ x ≤ 1048576) : F18 k l x = some (if (l.length : Int) ≤ x then x - (l.length : Int) else -1) := by
 simp only [F18, Xl]
 rw [ml] at hl
 rw [i64_in _ (by omega)]
 by_cases h : (l.length : Int) ≤ x
 ·rw [decide_eq_false (by omega), if_pos h]; rfl
 ·rw [decide_eq_true (by omega), if_neg h]; rfl
theorem Xnv (k : Nat) (l : Bo) (hl : l.length ≤ 1048576) (hk : l.length < k) : F25 k l = some l := by
 have := Kg l id (fun n j m => Ij k l n j m) id
  (fun n j m h hm => by
   simp only [Ij, Fu, A2]
   rw [Av l j h, I3 j (by omega)]
   rw [decide_eq_true (by omega : ((j : Nat) : Int) < (l.length : Nat)), decide_eq_true (by omega : (0 : Int) ≤ (j : Nat)), decide_eq_true (by omega : ((j : Nat) : Int) < (m.length : Nat))]
   rfl)
  (fun n m hm => by simp [Ij, Fu]) k 0 (List.replicate l.length (A9 (.int .u8))) (Nat.zero_le _) (by omega) (by simp) (by simp)
 simp only [List.map_id] at this
 simp only [F25, V0]
 rw [decide_eq_true (by omega : (0 : Int) ≤ ((l.length : Nat) : Int)), decide_eq_true (by omega : ((l.length : Nat) : Int) * (1 : Nat) ≤ 140737488355328)]
 simp only [decide_true, Bool.and_self, cond_true]
 exact this
theorem Kj {α : Type} (c : Bool) (a b : α) : cond c (some a) (some b) = some (cond c a b) := by cases c <;> rfl
theorem Xng (k : Nat) (l : Bo) : F83 k l = some l := by
 simp only [F83, X3]
 rw [decide_eq_true (by omega : (0 : Int) ≤ ((l.length : Nat) : Int))]
 simp
theorem U0 (k : Nat) (l : Bo) (h : l.length ≤ 4194304) : F71 k l = some l := by
 simp only [F71, Yb, Xng, List.nil_append, List.length_nil, Nat.zero_add, Dv]
 rw [decide_eq_true (by omega : l.length * 1 ≤ 140737488355328)]
 cases l with
 | nil => rfl
 | cons a r => rw [show ((((a :: r).length : Nat) : Int) == 0) = false by rw [beq_eq_false_iff_ne]; simp only [List.length_cons]; omega]; rfl
theorem Xbp (k : Nat) (a : Bo) (h9 : a.length ≤ 4194304) (k9 : a.length < k) : F32 k a a = some true := by
 have := Fx a (fun n (_ : Unit) j => Is k a a n j) (fun s _ => s) (fun _ => true)
  (fun n s j h => by
   simp only [Is, Ha, A2]
   rw [Av a j h, I3 j (by omega)]
   simp [h])
  (fun n s => by simp [Is, Ha]) k () 0 (Nat.zero_le _) (by omega)
 simp only [F32, Yo, bne_self_eq_false, cond_false]
 exact this
def gB (x : Int) (a : den (.int .u8)) : den (.int .u8) := IntKind.u8.wrap x
theorem Xci (k : Nat) (l : Bo) (x : Int) (hk : l.length < k) (h0 : 0 ≤ x) (hB : x + (l.length : Int) ≤ 1099511627776) :
  F34 k l x = some (x + (l.length : Int), Be gB (fun _ => 1) x l) := by
 have := Ol 1099511627776 l.length (fun n y j m => Ib k l x n y j m) gB (fun _ => 1) (fun x m => (x, m)) (fun _ => by decide)
  (fun n y j m h hN h0 hB => by
   simp only [Ib, Gb, Int.toNat_natCast, A2]
   rw [I3 j (by omega), i64_in (y + 1) (by omega)]
   rw [decide_eq_true (by omega : ((j : Nat) : Int) < (m.length : Nat)), decide_eq_true (by omega : (0 : Int) ≤ (j : Nat))]
   rfl)
  (fun n x m => by simp [Ib, Gb]) k x [] l (by simp) hk h0 (by rw [Cc]; omega)
 rw [Cc, Int.one_mul] at this
 simp only [F34, Vc]
 exact this
theorem Xpb (k : Nat) (l : Bo) (x : Int) (hk : l.length < k) (h0 : 0 ≤ x) (hB : x + (l.length : Int) ≤ 1099511627776) :
  F50 k (Be gB (fun _ => 1) x l) x = some (x + (l.length : Int)) := by
 have hlen := Ht gB (fun _ => 1) x l
 have hsum := Iu (g := gB) (s := fun _ => 1) (fun _ _ => rfl) x l
 rw [Cc 1 l, Int.one_mul] at hsum
 have hh := L4 (t := fun x a => a = IntKind.u8.wrap x) (g := gB) (s := fun _ => 1) (fun _ _ => rfl) (fun _ _ => rfl) x l
 have h9 := Cc 1 (Be gB (fun _ => 1) x l)
 generalize Be gB (fun _ => 1) x l = m at hlen hsum hh h9
 have := Nd 1099511627776 m (fun n y j => Jb k m x n y j) (fun x a => a = IntKind.u8.wrap x) (fun _ => 1) (fun x => x) (fun _ => by decide)
  (fun n y j h ht h0 hB => by
   simp only [Jb, G1, A2]
   rw [I3 j (by omega), i64_in (y + 1) (by omega), Av m j h, ht]
   rw [decide_eq_true (by omega : ((j : Nat) : Int) < (m.length : Nat)), decide_eq_true (by omega : (0 : Int) ≤ (j : Nat))]
   simp only [bne_self_eq_false, cond_true, cond_false])
  (fun n y => by simp [Jb, G1]) k x 0 (Nat.zero_le _) (by omega) h0 (by rw [List.drop_zero, hsum]; exact hB) (by rw [List.drop_zero]; exact hh)
 rw [List.drop_zero, hsum] at this
 simp only [F50, Vr]
 exact this
theorem bs {α β : Type} {o : Option α} {f : α → Option β} {x : α} (h : o = some x) : o.bind f = f x := by rw [h]; rfl
theorem cf {α : Type} {c : Bool} {a b : α} (h : c = false) : cond c a b = b := by rw [h]; rfl
theorem ct {α : Type} {c : Bool} {a b : α} (h : c = true) : cond c a b = a := by rw [h]; rfl
def BOk (b : Bo) : Prop := ∀ x ∈ b, @LE.le Int _ 0 x ∧ @LE.le Int _ x 255
theorem BOk.of {b : Bo} (h : Wf (.sl (.int .u8)) b) : BOk b := fun x hx => by
 have := h.2 x hx
 unfold Wf Lit.wf at this
 simp only [Bool.and_eq_true, decide_eq_true_eq] at this
 exact this
abbrev Fs : Type := List (den An)
abbrev rtL : Type := List (den Br)
abbrev L9 : Type := List (den sta)
def E0 : L9 → Nat
 | [] => 0
 | s :: l => s.2.length + E0 l
theorem Jj : ∀ {l : L9} {s : den sta}, s ∈ l → s.2.length ≤ E0 l
 | a :: l, s, h => by
  rcases List.mem_cons.1 h with rfl | h
  ·simp only [E0]; omega
  ·have := Jj h
   simp only [E0]; omega
theorem Xsr (k : Nat) (p : den An) (x : Int) (hl : p.2.2.2.2.2.2.2.2.length ≤ maxLen) (hx : 0 ≤ x ∧ x ≤ 1048576) : F5 k p x = some (if (p.2.2.2.2.2.2.2.2.length : Int) ≤ x then x - (p.2.2.2.2.2.2.2.2.length : Int) else -1) := by
 unfold F5; (try dsimp only)
 refine (bs (Xkv k _ x hl hx)).trans ?_
 split
 ·exact (cf (decide_eq_false (by omega))).trans rfl
 ·exact (ct (by decide)).trans rfl
theorem Xmg (k : Nat) (l : rtL) (x : Int) (hl : l.length ≤ maxLen) (hx : 0 ≤ x ∧ x ≤ 1048576) : F37 k l x = some (if (l.length : Int) ≤ x then x - (l.length : Int) else -1) := by
 simp only [F37, Wv]
 rw [ml] at hl
 rw [i64_in _ (by omega)]
 by_cases h : (l.length : Int) ≤ x
 ·rw [decide_eq_false (by omega), if_pos h]; rfl
 ·rw [decide_eq_true (by omega), if_neg h]; rfl
theorem Xkd (k : Nat) (s : den sta) (x : Int) (hl : s.2.length ≤ maxLen) (hx : 0 ≤ x ∧ x ≤ 1048576) : F17 k s x = some (if (s.2.length : Int) ≤ x then x - (s.2.length : Int) else -1) := by
 unfold F17; (try dsimp only)
 refine (bs (Xmg k _ x hl hx)).trans ?_
 split
 ·exact (cf (decide_eq_false (by omega))).trans rfl
 ·exact (ct (by decide)).trans rfl
theorem F4_l (k : Nat) (v : L9) (w : Int) (hl : v.length ≤ 1048576) (hs : ∀ s ∈ v, s.2.length ≤ maxLen) : ∀ (n j : Nat) (x : Int), j ≤ v.length → v.length - j < n → 0 ≤ x ∧ x ≤ 1048576 → ∃ b, Pl k v w n x (j : Int) = some b ∧ (b < 0 ∨ (0 ≤ b ∧ b + (E0 (v.drop j) : Int) = x))
 | 0, j, x, _, h, _ => by omega
 | n + 1, j, x, hj, h, hx => by
  rw [Pl]
  unfold Ml; (try dsimp only [A2])
  rcases Nat.lt_or_ge j v.length with hlt | hge
  ·have d1 : decide ((j : Int) < ((v.length : Nat) : Int)) = true := decide_eq_true (by omega)
   have d0 : decide ((0 : Int) ≤ ((j : Nat) : Int)) = true := decide_eq_true (by omega)
   rw [Av v j hlt, I3 j (by omega), List.drop_eq_getElem_cons hlt]
   have hz := Xkd k v[j] x (hs _ (List.getElem_mem hlt)) hx
   by_cases c : (v[j].2.length : Int) ≤ x
   ·rw [if_pos c] at hz
    obtain ⟨b, hb, hb2⟩ := F4_l k v w hl hs n (j + 1) (x - v[j].2.length) hlt (by omega) (by omega)
    refine ⟨b, (ct d1).trans ((ct d0).trans ((ct d1).trans ((bs hz).trans ((cf (decide_eq_false (by omega))).trans hb)))), ?_⟩
    simp only [E0]
    omega
   ·rw [if_neg c] at hz
    exact ⟨-1, (ct d1).trans ((ct d0).trans ((ct d1).trans ((bs hz).trans ((ct (by decide)).trans rfl)))), .inl (by decide)⟩
  ·have : j = v.length := by omega
   subst this
   rw [List.drop_length]
   exact ⟨x, (cf (decide_eq_false (by omega))).trans rfl, .inr ⟨hx.1, by simp [E0]⟩⟩
theorem Xux (k : Nat) (v : L9) (hl : v.length ≤ maxLen) (hs : ∀ s ∈ v, s.2.length ≤ maxLen) (hk : 1048576 < k) : ∃ b, F4 k v 1048576 = some b ∧ (b < 0 ∨ (0 ≤ b ∧ b ≤ 1048576 ∧ v.length ≤ 1048576 ∧ E0 v ≤ 1048576)) := by
 rw [ml] at hl
 unfold F4 Xfg; (try dsimp only)
 rw [i64_in _ (by omega)]
 by_cases c : 1048576 - (v.length : Int) < 0
 ·exact ⟨-1, (ct (decide_eq_true c)).trans rfl, .inl (by decide)⟩
 ·obtain ⟨b, hb, hb2⟩ := F4_l k v 1048576 (by omega) hs k 0 (1048576 - (v.length : Int)) (Nat.zero_le _) (by omega) (by omega)
  refine ⟨b, (cf (decide_eq_false c)).trans hb, ?_⟩
  rw [List.drop_zero] at hb2
  rcases hb2 with h | ⟨h1, h2⟩
  ·exact .inl h
  ·exact .inr ⟨h1, by omega, by omega, by omega⟩
theorem Xk3 (k : Nat) (l : rtL) (hl : l.length ≤ 1048576) (hk : l.length < k) : F43 k l = some l := by
 have := Kg l id (fun n j m => Id k l n j m) id
  (fun n j m h hm => by
   simp only [Id, Gd, A2]
   rw [Av l j h, I3 j (by omega), F54]
   simp only [Option.bind_some]
   rw [decide_eq_true (by omega : ((j : Nat) : Int) < (l.length : Nat)), decide_eq_true (by omega : (0 : Int) ≤ (j : Nat)), decide_eq_true (by omega : ((j : Nat) : Int) < (m.length : Nat))]
   rfl)
  (fun n m hm => by simp [Id, Gd]) k 0 (List.replicate l.length (A9 Br)) (Nat.zero_le _) (by omega) (by simp) (by simp)
 simp only [List.map_id] at this
 simp only [F43, Xf]
 rw [decide_eq_true (by omega : (0 : Int) ≤ ((l.length : Nat) : Int)), decide_eq_true (by omega : ((l.length : Nat) : Int) * (32 : Nat) ≤ 140737488355328)]
 simp only [decide_true, Bool.and_self, cond_true]
 exact this
theorem Xmj (k : Nat) (s : den sta) (hl : s.2.length ≤ 1048576) (hk : s.2.length < k) : F24 k s = some s := by
 unfold F24; (try dsimp only)
 exact (bs (Xk3 k s.2 hl hk)).trans rfl
theorem Xpm (k : Nat) (l : L9) (hl : l.length ≤ 1048576) (hs : E0 l ≤ 1048576) (hk : 1048576 < k) : F7 k l = some l := by
 have := Kg l id (fun n j m => Nz k l n j m) id
  (fun n j m h hm => by
   have hs1 := Jj (List.getElem_mem h)
   simp only [Nz, Kf, A2]
   rw [Av l j h, I3 j (by omega), Xmj k _ (by omega) (by omega)]
   simp only [Option.bind_some]
   rw [decide_eq_true (by omega : ((j : Nat) : Int) < (l.length : Nat)), decide_eq_true (by omega : (0 : Int) ≤ (j : Nat)), decide_eq_true (by omega : ((j : Nat) : Int) < (m.length : Nat))]
   rfl)
  (fun n m hm => by simp [Nz, Kf]) k 0 (List.replicate l.length (A9 sta)) (Nat.zero_le _) (by omega) (by simp) (by simp)
 simp only [List.map_id] at this
 simp only [F7, Xe9]
 rw [decide_eq_true (by omega : (0 : Int) ≤ ((l.length : Nat) : Int)), decide_eq_true (by omega : ((l.length : Nat) : Int) * (32 : Nat) ≤ 140737488355328)]
 simp only [decide_true, Bool.and_self, cond_true]
 exact this
theorem Xtq (k : Nat) (p : den An) (hl : p.2.2.2.2.2.2.2.2.length ≤ 1048576) (hk : 1048576 < k) : F8 k p = some p := by
 unfold F8; (try dsimp only [Aw])
 exact (bs (Xnv k _ hl (by omega))).trans rfl
theorem Sn (k : Nat) (p : den An) (hl : p.2.2.2.2.2.2.2.2.length ≤ 1048576) (hk : 1048576 < k) : F12 k p p = some true := by
 unfold F12 Xi; (try dsimp only [Aw])
 simp only [bne_self_eq_false, cond_false, beq_self_eq_true, Bool.not_true, Xbp k _ (show p.2.2.2.2.2.2.2.2.length ≤ 4194304 by omega) (by omega), Option.bind_some]
theorem To (k : Nat) (l : Fs) (hl : l.length ≤ 1048576) (hk : 1048576 < k) (hs : ∀ p ∈ l, p.2.2.2.2.2.2.2.2.length ≤ 1048576) : F30 k l l = some true := by
 have := Fx l (fun n (_ : Unit) j => Ik k l l n j) (fun s _ => s) (fun _ => true)
  (fun n s j h => by
   simp only [Ik, Gv, A2]
   rw [Av l j h, I3 j (by omega), Sn k _ (hs _ (List.getElem_mem h)) hk]
   simp [h])
  (fun n s => by simp [Ik, Gv]) k () 0 (Nat.zero_le _) (by omega)
 simp only [F30, Vq, bne_self_eq_false, cond_false]
 exact this
theorem Xcn (k : Nat) (r : den Br) : F63 k r r = some true := by
 unfold F63 Wg; (try dsimp only)
 simp only [bne_self_eq_false, cond_false]
theorem Xek (k : Nat) (l : rtL) (hl : l.length ≤ 1048576) (hk : 1048576 < k) : F49 k l l = some true := by
 have := Fx l (fun n (_ : Unit) j => I0 k l l n j) (fun s _ => s) (fun _ => true)
  (fun n s j h => by
   simp only [I0, Gc, A2]
   rw [Av l j h, I3 j (by omega), Xcn k _]
   simp [h])
  (fun n s => by simp [I0, Gc]) k () 0 (Nat.zero_le _) (by omega)
 simp only [F49, Vt, bne_self_eq_false, cond_false]
 exact this
theorem Xar (k : Nat) (s : den sta) (hl : s.2.length ≤ 1048576) (hk : 1048576 < k) : F31 k s s = some true := by
 unfold F31 Yp; (try dsimp only)
 simp only [bne_self_eq_false, cond_false, Xek k s.2 hl hk, Option.bind_some, Bool.not_true]
theorem Xdw (k : Nat) (l : L9) (hl : l.length ≤ 1048576) (hs : E0 l ≤ 1048576) (hk : 1048576 < k) : F11 k l l = some true := by
 have := Fx l (fun n (_ : Unit) j => Ii k l l n j) (fun s _ => s) (fun _ => true)
  (fun n s j h => by
   have hs1 := Jj (List.getElem_mem h)
   simp only [Ii, Gq, A2]
   rw [Av l j h, I3 j (by omega), Xar k _ (by omega) hk]
   simp [h])
  (fun n s => by simp [Ii, Gq]) k () 0 (Nat.zero_le _) (by omega)
 simp only [F11, Vo, bne_self_eq_false, cond_false]
 exact this
theorem Xbh (k : Nat) (t : den Co) (h1 : t.1.length ≤ 1048576) (h2 : t.2.1.length ≤ 1048576) (hs1 : ∀ p ∈ t.1, p.2.2.2.2.2.2.2.2.length ≤ 1048576) (hs2 : ∀ p ∈ t.2.1, p.2.2.2.2.2.2.2.2.length ≤ 1048576) (hk : 1048576 < k) : F10 k t t = some true := by
 unfold F10 Vl; (try dsimp only)
 simp only [To k _ h1 hk hs1, To k _ h2 hk hs2, Option.bind_some, Bool.not_true, cond_false, bne_self_eq_false]
def gT (y : Int) (r : den Br) : den Br := (y, y + 1, y + 2, y + 3)
theorem Xn7 (k : Nat) (l : rtL) (x : Int) (hl : l.length ≤ 1048576) (hk : l.length < k) (h0 : 0 ≤ x) (hB : x + 4 * (l.length : Int) ≤ 1099511627776) :
  F33 k l x = some (x + 4 * (l.length : Int), Be gT (fun _ => 4) x l) := by
 have := Ol 1099511627776 l.length (fun n y j m => Ix k l x n y j m) gT (fun _ => 4) (fun x m => (x, m)) (fun _ => by decide)
  (fun n y j m h hN h0 hB => by
   have d1 : decide ((j : Int) < ((m.length : Nat) : Int)) = true := decide_eq_true (by omega)
   have d0 : decide ((0 : Int) ≤ ((j : Nat) : Int)) = true := decide_eq_true (by omega)
   have w0 : IntKind.i64.wrap (y + 1) = y + 1 := by rw [i64_in _ (by omega)]
   have w1 : IntKind.i64.wrap (y + 1 + 1) = y + 2 := by rw [i64_in _ (by omega)]; omega
   have w2 : IntKind.i64.wrap (y + 2 + 1) = y + 3 := by rw [i64_in _ (by omega)]; omega
   have w3 : IntKind.i64.wrap (y + 3 + 1) = y + 4 := by rw [i64_in _ (by omega)]; omega
   simp only [Ix, Gk, A2]
   rw [I3 j (by omega)]
   simp only [Int.toNat_natCast, List.set_set, Rs h, List.length_set, d0, d1, cond_true, sto, Option.bind_some, w0, w1, w2, w3]
   rfl)
  (fun n x m => by simp [Ix, Gk]) k x [] l (by simp) hk h0 (by rw [Cc]; exact hB)
 rw [Cc] at this
 simp only [F33, V9]
 exact this
def wT (s : den sta) : Int := 1 + 4 * (s.2.length : Int)
theorem Ur (s : den sta) : 0 ≤ wT s := by unfold wT; omega
def gS (y : Int) (s : den sta) : den sta := (y, Be gT (fun _ => 4) (y + 1) s.2)
theorem sumT (l : L9) : A0 wT l = (l.length : Int) + 4 * (E0 l : Int) := by
 induction l with
 | nil => rfl
 | cons a l ih => simp only [A0, E0, wT, ih, List.length_cons]; omega
theorem Xki (k : Nat) (l : L9) (x : Int) (hl : l.length ≤ 1048576) (hs : E0 l ≤ 1048576) (hk : 1048576 < k) (h0 : 0 ≤ x) (hB : x + A0 wT l ≤ 1099511627776) :
  F13 k l x = some (x + A0 wT l, Be gS wT x l) := by
 simp only [F13, V7]
 have main : ∀ (n : Nat) (y : Int) (d r : L9), d.length + r.length = l.length → r.length < n → E0 r ≤ 1048576 → 0 ≤ y → y + A0 wT r ≤ 1099511627776 →
   Ic k l x n y (d.length : Nat) (d ++ r) = some (y + A0 wT r, d ++ Be gS wT y r) := by
  intro n
  induction n with
  | zero => intro y d r _ h; omega
  | succ n ih =>
   intro y d r hN2 hn hr h0 hB
   cases r with
   | nil => simp [Ic, Gi, A0, Be]
   | cons a r =>
    simp only [A0] at hB
    simp only [E0] at hr
    have ha := Ur a
    have hr2 := Bv Ur r
    have h : d.length < (d ++ a :: r).length := by simp
    have d1 : decide (((d.length : Nat) : Int) < (((d ++ a :: r).length : Nat) : Int)) = true := decide_eq_true (by omega)
    have d0 : decide ((0 : Int) ≤ ((d.length : Nat) : Int)) = true := decide_eq_true (by omega)
    have hw : wT a = 1 + 4 * (a.2.length : Int) := rfl
    have w0 : IntKind.i64.wrap (y + 1) = y + 1 := by rw [i64_in _ (by omega)]
    have hg : (d ++ a :: r)[d.length] = a := by simp
    have m1 := Xn7 k a.2 (y + 1) (by omega) (by omega) (by omega) (by omega)
    have := ih (y + wT a) (d ++ [gS y a]) r (by simp at hN2 ⊢; omega) (by simp at hn; omega) (by omega) (by omega) (by omega)
    simp only [List.length_append, List.length_singleton, List.append_assoc, List.singleton_append] at this
    have hset : (d ++ a :: r).set d.length (gS y a) = d ++ gS y a :: r := by simp
    have e1 : y + 1 + 4 * (a.2.length : Int) = y + wT a := by omega
    simp only [Ic, Gi, A2]
    rw [Av (d ++ a :: r) d.length h, hg, I3 d.length (by simp at hN2; omega)]
    simp only [Int.toNat_natCast, List.set_set, Rs h, List.length_set, d0, d1, cond_true, w0, m1, Option.bind_some]
    rw [show (d ++ a :: r).set d.length (y, Be gT (fun _ => 4) (y + 1) a.2) = d ++ gS y a :: r from hset, e1, this]
    simp [A0, Be, Int.add_assoc]
 have := main k x [] l (by simp) (by omega) hs h0 hB
 simpa using this
def wP (p : den An) : Int := 8 + (p.2.2.2.2.2.2.2.2.length : Int)
theorem Oq (p : den An) : 0 ≤ wP p := by unfold wP; omega
def gP (y : Int) (p : den An) : den An := (y, y + 1, y + 2, y + 3, y + 4, y + 5, (y + 6).tmod 3 == 0, (y + 7).tmod 3 == 0, Be gB (fun _ => 1) (y + 8) p.2.2.2.2.2.2.2.2)
theorem Xd2 (y : Int) (p : den An) : wP (gP y p) = wP p := by simp [wP, gP, Ht]
theorem Xer (k : Nat) (a0 : Fs) (a1 : Int) (n : Nat) (y : Int) (j : Nat) (m : Fs) (h : j < m.length) (hm : m.length ≤ 1048576) (h0 : 0 ≤ y) (hB : y + wP m[j] ≤ 1099511627776) (hs : m[j].2.2.2.2.2.2.2.2.length ≤ 1048576) (hk : 1048576 < k) :
  Fk k a0 a1 (n + 1) y (j : Int) m = Fk k a0 a1 n (y + wP m[j]) ((j + 1 : Nat) : Int) (m.set j (gP y m[j])) := by
 rw [Fk]
 unfold Gg; (try dsimp only [A2])
 rw [Av m j h, I3 j (by omega)]
 generalize m[j] = s at *
 obtain ⟨s0, s1, s2, s3, s4, s5, s6, s7, s8⟩ := s
 simp only [wP] at hB
 simp only at hs
 have d1 : decide ((j : Int) < ((m.length : Nat) : Int)) = true := decide_eq_true (by omega)
 have d0 : decide ((0 : Int) ≤ ((j : Nat) : Int)) = true := decide_eq_true (by omega)
 have w0 : IntKind.i64.wrap (y + 1) = y + 1 := by rw [i64_in _ (by omega)]
 have w1 : IntKind.i64.wrap (y + 1 + 1) = y + 2 := by rw [i64_in _ (by omega)]; omega
 have w2 : IntKind.i64.wrap (y + 2 + 1) = y + 3 := by rw [i64_in _ (by omega)]; omega
 have w3 : IntKind.i64.wrap (y + 3 + 1) = y + 4 := by rw [i64_in _ (by omega)]; omega
 have w4 : IntKind.i64.wrap (y + 4 + 1) = y + 5 := by rw [i64_in _ (by omega)]; omega
 have w5 : IntKind.i64.wrap (y + 5 + 1) = y + 6 := by rw [i64_in _ (by omega)]; omega
 have w6 : IntKind.i64.wrap (y + 6 + 1) = y + 7 := by rw [i64_in _ (by omega)]; omega
 have w7 : IntKind.i64.wrap (y + 7 + 1) = y + 8 := by rw [i64_in _ (by omega)]; omega
 have m1 := Xci k s8 (y + 8) (by omega) (by omega) (by omega)
 simp only [Int.toNat_natCast, List.set_set, Rs h, List.length_set, d0, d1, cond_true, sto, Option.bind_some, w0, w1, w2, w3, w4, w5, w6, w7, m1]
 unfold wP gP
 have e : y + (8 + (s8.length : Int)) = y + 8 + (s8.length : Int) := by omega
 simp only [e]
theorem Xeg (k : Nat) (l : Fs) (x : Int) (hl : l.length ≤ 1048576) (hs : ∀ p ∈ l, p.2.2.2.2.2.2.2.2.length ≤ 1048576) (hk : 1048576 < k) (h0 : 0 ≤ x) (hB : x + A0 wP l ≤ 1099511627776) :
  F35 k l x = some (x + A0 wP l, Be gP wP x l) := by
 simp only [F35, X8]
 have main : ∀ (n : Nat) (y : Int) (d r : Fs), d.length + r.length = l.length → r.length < n → (∀ s ∈ r, s.2.2.2.2.2.2.2.2.length ≤ 1048576) → 0 ≤ y → y + A0 wP r ≤ 1099511627776 →
   Fk k l x n y (d.length : Nat) (d ++ r) = some (y + A0 wP r, d ++ Be gP wP y r) := by
  intro n
  induction n with
  | zero => intro y d r _ h; omega
  | succ n ih =>
   intro y d r hN2 hn hr h0 hB
   cases r with
   | nil => simp [Fk, Gg, A0, Be]
   | cons a r =>
    simp only [A0] at hB
    have ha := Oq a
    have hr2 := Bv Oq r
    have hj : d.length < (d ++ a :: r).length := by simp
    have hget : (d ++ a :: r)[d.length] = a := by simp
    rw [Xer k l x n y d.length (d ++ a :: r) hj (by simp at hN2 ⊢; omega) h0 (by rw [hget]; omega) (by rw [hget]; exact hr a (by simp)) hk, hget]
    have := ih (y + wP a) (d ++ [gP y a]) r (by simp at hN2 ⊢; omega) (by simp at hn; omega) (fun s hs => hr s (by simp [hs])) (by omega) (by omega)
    simp only [List.length_append, List.length_singleton, List.append_assoc, List.singleton_append] at this
    rw [show (d ++ a :: r).set d.length (gP y a) = d ++ gP y a :: r by simp, this]
    simp [A0, Be, Int.add_assoc]
 have := main k x [] l (by simp) (by omega) hs h0 hB
 simpa using this
def Xde (y : Int) (s : den An) : Prop := ∃ b : den An, s = gP y b ∧ b.2.2.2.2.2.2.2.2.length ≤ 1048576
theorem Xas (k : Nat) (l : Fs) (x : Int) (n : Nat) (y : Int) (j : Nat) (h : j < l.length) (hl : l.length ≤ 1048576) (ht : Xde y l[j]) (h0 : 0 ≤ y) (hB : y + wP l[j] ≤ 1099511627776) (hk : 1048576 < k) :
  E6 k l x (n + 1) y (j : Int) = E6 k l x n (y + wP l[j]) ((j + 1 : Nat) : Int) := by
 rw [E6]
 unfold G4; (try dsimp only [A2])
 rw [Av l j h, I3 j (by omega)]
 obtain ⟨b, hb, hs⟩ := ht
 generalize l[j] = s at *
 subst hb
 obtain ⟨s0, s1, s2, s3, s4, s5, s6, s7, s8⟩ := b
 rw [Xd2] at hB ⊢
 simp only [wP] at hB
 simp only at hs
 have d1 : decide ((j : Int) < ((l.length : Nat) : Int)) = true := decide_eq_true (by omega)
 have d0 : decide ((0 : Int) ≤ ((j : Nat) : Int)) = true := decide_eq_true (by omega)
 have w0 : IntKind.i64.wrap (y + 1) = y + 1 := by rw [i64_in _ (by omega)]
 have w1 : IntKind.i64.wrap (y + 1 + 1) = y + 2 := by rw [i64_in _ (by omega)]; omega
 have w2 : IntKind.i64.wrap (y + 2 + 1) = y + 3 := by rw [i64_in _ (by omega)]; omega
 have w3 : IntKind.i64.wrap (y + 3 + 1) = y + 4 := by rw [i64_in _ (by omega)]; omega
 have w4 : IntKind.i64.wrap (y + 4 + 1) = y + 5 := by rw [i64_in _ (by omega)]; omega
 have w5 : IntKind.i64.wrap (y + 5 + 1) = y + 6 := by rw [i64_in _ (by omega)]; omega
 have w6 : IntKind.i64.wrap (y + 6 + 1) = y + 7 := by rw [i64_in _ (by omega)]; omega
 have w7 : IntKind.i64.wrap (y + 7 + 1) = y + 8 := by rw [i64_in _ (by omega)]; omega
 have m1 := Xpb k s8 (y + 8) (by omega) (by omega) (by omega)
 have c9 : decide (y + 8 + (s8.length : Int) < 0) = false := decide_eq_false (by omega)
 simp only [gP, d0, d1, cond_true, cond_false, Option.bind_some, w0, w1, w2, w3, w4, w5, w6, w7, bne_self_eq_false, beq_self_eq_true, Bool.not_true, m1, c9]
 unfold wP
 have e : y + (8 + (s8.length : Int)) = y + 8 + (s8.length : Int) := by omega
 simp only [e]
theorem Xei (k : Nat) (l : Fs) (x : Int) (hl : l.length ≤ 1048576) (hs : ∀ p ∈ l, p.2.2.2.2.2.2.2.2.length ≤ 1048576) (hk : 1048576 < k) (h0 : 0 ≤ x) (hB : x + A0 wP l ≤ 1099511627776) :
  F36 k (Be gP wP x l) x = some (x + A0 wP l) := by
 have hlen := Ht gP wP x l
 have hsum := Iu (g := gP) (s := wP) Xd2 x l
 have hh := Qi (t := Xde) (g := gP) (s := wP) Xd2 x l (fun y a ha => ⟨a, rfl, hs a ha⟩)
 generalize Be gP wP x l = m at hlen hsum hh
 have := Nd 1099511627776 m (fun n y j => E6 k m x n y j) Xde wP (fun x => x) Oq
  (fun n y j h ht h0 hB => Xas k m x n y j h (by omega) ht h0 hB hk)
  (fun n y => by simp [E6, G4]) k x 0 (Nat.zero_le _) (by omega) h0 (by rw [List.drop_zero, hsum]; exact hB) (by rw [List.drop_zero]; exact hh)
 rw [List.drop_zero, hsum] at this
 simp only [F36, Vz]
 exact this
end Go.Proofs.Ytdmepjjepogddaa.Gn
end
