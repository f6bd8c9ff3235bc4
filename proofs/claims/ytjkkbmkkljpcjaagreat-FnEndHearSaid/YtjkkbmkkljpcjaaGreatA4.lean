/-
  What the proof of this row needs, part 4: the typed evaluator of the translated code, the functions that the law reaches as plain functions, and what they answer.
-/
import Derived.Test.YtjkkbmkkljpcjaaGreatChecked
import Derived.Shelf.Spec.SlicesInsertGrow
import Derived.KernelRfl
import Derived.Test.YtjkkbmkkljpcjaaGreatA3
section
namespace Go.Proofs.YtjkkbmkkljpcjaaGreat.In
open Go.RowKit Go.Shelf Go.Lib Go.Proofs
set_option linter.unusedVariables false
set_option linter.unusedSimpArgs false
theorem D7 {P : Program} (w : World) (dT sT ty elem : TypeId) (s b o dLen dCap : Nat) (a : Addr) (sLen sCap n : Nat) (cs : List Value)
  (hu : P.underlying dT = some (.slice elem)) (hs : (P.info? elem).map (·.size) = some s) (hn : n = Nat.min sLen dLen) (hl : cs.length = n * s)
  (hsrc : ∀ j v, cs[j]? = some v → w.cell? (a.add j) = some v) (hc : ∀ j, j < cs.length → (w.cell? ⟨b, o + j, none⟩).isSome = true) (hf : ∀ j, j < cs.length → w.frozen? ⟨b, o + j, none⟩ = false) (h1 : ∀ v ∈ cs, v.oneCell' = true) :
  (Builtin.copy_ #[dT, sT] ty #[.slice (some ⟨b, o, none⟩) dLen dCap, .slice (some a) sLen sCap]).run P w = .ok (goInt n) (w.setCells b o cs) := by
 have hl' := run_loadCells_list (P := P) w a cs hsrc
 have hst := run_storeCells_cells (P := P) b o cs 0 w (by simpa using hc) (by simpa using hf) h1
 cases hq : P.info? elem with
 | none => simp [hq] at hs
 | some i =>
  have hi : i.size = s := by simpa [hq] using hs
  simp [Builtin.copy_, run_underlying hu, Builtin.lenOf, Builtin.firstCells, sizeOf, typeInfo, hq, hi, ← hn, ← hl, hl', hst]
theorem u40 : Tryz.prog.underlying 40 = some (.slice 125) := by kernel_rfl
theorem u3 : Tryz.prog.underlying 3 = some (.int .i64) := by kernel_rfl
theorem Xiy : (Tryz.prog.info? 125).map (·.size) = some 2 := by kernel_rfl
theorem X6a : ∀ w : World, (Go.sizeOf 125).run Tryz.prog w = .ok 2 w := fun w => by
 cases hq : Tryz.prog.info? 125 with
 | none => have := Xiy; simp [hq] at this
 | some i =>
  have hi : i.size = 2 := by have := Xiy; simpa [hq] using this
  simp [sizeOf, typeInfo, hq, hi]
set_option maxHeartbeats 4000000 in
set_option maxRecDepth 100000 in
theorem shift (b off n c i vb voff vc : Nat) (cs vs : List Value) (w : World) (hi : i < n) (hroom : n + 1 ≤ c) (hn63 : n ≤ 140737488355328) (hvb : vb ≠ b)
  (hcl : cs.length = n * 2) (hvl : vs.length = 2)
  (hcs : ∀ j v, cs[j]? = some v → w.cell? ⟨b, off + j, none⟩ = some v) (hsp : ∀ j, j < (n + 1) * 2 → (w.cell? ⟨b, off + j, none⟩).isSome = true) (hfz : ∀ j, j < (n + 1) * 2 → w.frozen? ⟨b, off + j, none⟩ = false)
  (hvs : ∀ j v, vs[j]? = some v → w.cell? ⟨vb, voff + j, none⟩ = some v) (h1c : ∀ v ∈ cs, v.oneCell' = true) (h1v : ∀ v ∈ vs, v.oneCell' = true)
  (tA tB : TypeId) (kA kB : Nat) (hsa : w.shape? vb = some (tA, kA)) (hsb : w.shape? b = some (tB, kB)) (hkB : kB ≠ 0) (hfa : w.frozen? ⟨vb, voff, none⟩ = false) (hfe : w.frozen? ⟨vb, kA, none⟩ = false) :
  Calls Tryz.prog 183 #[.slice (some ⟨b, off, none⟩) n c, .int .i64 i, .slice (some ⟨vb, voff, none⟩) 1 vc] w fun e w' =>
   e = .returned (.slice (some ⟨b, off, none⟩) (n + 1) c) ∧ w' = (w.drew.setCells b (off + (i + 1) * 2) (cs.drop (i * 2))).setCells b (off + i * 2) vs := by
 have Ai : Tryz.prog.follows .mixedOrders = true := by kernel_rfl
 have hz2 : ¬ ((i : Int) = (n : Int)) := by omega
 have hov : ∀ lb cb, (callFunc 184 #[.slice (some ⟨vb, voff, none⟩) 1 vc, .slice (some ⟨b, off + (i + 1) * 2, none⟩) lb cb]).run Tryz.prog w = .ok (.value (.bool false)) w := fun lb cb => by
  rw [run_callFunc_extern Tryz.func184 (by kernel_rfl) (by kernel_rfl) (by kernel_rfl) (e := Extern.SlicesOverlaps.overlaps #[40, 40] #[4]) (by kernel_rfl),
   Lib.run_overlaps_apart w 40 4 125 u40 2 X6a ⟨vb, voff, none⟩ ⟨b, off + (i + 1) * 2, none⟩ 1 vc lb cb hvb tA tB kA kB hsa hsb hkB hfa hfe]
  rfl
 have hdl : (cs.drop (i * 2)).length = (n - i) * 2 := by rw [List.length_drop, hcl]; omega
 have hw1 : IntKind.i64.wrap ((i : Int) + 1) = (i : Int) + 1 := by rw [IntKind.wrap_i64]; omega
 have hw2 : IntKind.i64.wrap ((n : Int) + 1) = (n : Int) + 1 := by rw [IntKind.wrap_i64]; omega
 have hin : i ≤ n := by omega
 have htn : ((i : Int) + 1).toNat = i + 1 := by omega
 have htm : ((n : Int) + 1).toNat = n + 1 := by omega
 have hb1 : (0 : Int) ≤ (i : Int) + 1 := by omega
 have hb2 : ¬ (c = i + 1) := by omega
 have hb3 : (i : Int) ≤ (n : Int) + 1 := by omega
 have hb4 : ¬ (c = i) := by omega
 have hcp1 : ∀ ty dc sc, (Builtin.copy_ #[40, 40] ty #[.slice (some ⟨b, off + (i + 1) * 2, none⟩) (n - i) dc, .slice (some ⟨b, off + i * 2, none⟩) (n + 1 - i) sc]).run Tryz.prog w.drew = .ok (goInt ((n - i : Nat) : Int)) (w.drew.setCells b (off + (i + 1) * 2) (cs.drop (i * 2))) := fun ty dc sc =>
  D7 w.drew _ _ ty 125 2 b (off + (i + 1) * 2) (n - i) dc ⟨b, off + i * 2, none⟩ (n + 1 - i) sc (n - i) (cs.drop (i * 2)) u40 Xiy (by simp only [Nat.min_def]; split <;> omega) hdl
   (fun j v hj => by rw [Addr.add_lit, Nat.add_assoc]; exact hcs (i * 2 + j) v (by rwa [List.getElem?_drop] at hj))
   (fun j hj => by rw [Nat.add_assoc]; exact hsp _ (by omega)) (fun j hj => by rw [Nat.add_assoc]; exact hfz _ (by omega)) (fun v hv => h1c v (List.mem_of_mem_drop hv))
 obtain ⟨W1, hW1⟩ : ∃ W1, W1 = w.drew.setCells b (off + (i + 1) * 2) (cs.drop (i * 2)) := ⟨_, rfl⟩
 have hsp1 : ∀ k, k < (n + 1) * 2 → (W1.cell? ⟨b, off + k, none⟩).isSome = true := fun k hk => by
  rw [hW1]
  exact isSome_setCells b _ _ _ (fun j hj => by rw [Nat.add_assoc]; exact hsp _ (by omega)) _ (hsp k hk)
 have hcp2 : ∀ (W : World), (∀ x, W.cell? x = W1.cell? x) → (∀ x, W.frozen? x = W1.frozen? x) → ∀ ty dc, (Builtin.copy_ #[40, 40] ty #[.slice (some ⟨b, off + i * 2, none⟩) (n + 1 - i) dc, .slice (some ⟨vb, voff, none⟩) 1 vc]).run Tryz.prog W = .ok (goInt ((1 : Nat) : Int)) (W.setCells b (off + i * 2) vs) := fun W hWc hWf ty dc =>
  D7 W _ _ ty 125 2 b (off + i * 2) (n + 1 - i) dc ⟨vb, voff, none⟩ 1 vc 1 vs u40 Xiy (by simp only [Nat.min_def]; split <;> omega) (by omega)
   (fun j v hj => by
    rw [Addr.add_lit, hWc, hW1, World.cell?_setCells_out b _ _ _ _ (fun h _ => absurd h hvb)]
    exact hvs j v hj)
   (fun j hj => by rw [hWc, Nat.add_assoc]; exact hsp1 _ (by omega)) (fun j hj => by rw [hWf, hW1, World.frozen?_setCells, Nat.add_assoc]; exact hfz _ (by omega)) h1v
 rw [← hW1] at hcp1
 go_enter Tryz.func183, Tryz.ntmps183
 go_wp2_with (simp only [hov])
 go_region_law_o (refine step_copy_runI rfl _ _ 40 40 rfl _ _ (by simp [Act.eval, Act.put]) (by simp [Act.eval, Act.put]) (hcp1 _ _ _) ?_)
 go_wp2_with (at_builtin; refine wpList_copy_runI _ rfl _ _ 40 40 rfl _ _ rfl rfl (hcp2 _ (fun _ => rfl) (fun _ => rfl) _ _) ?_)
 go_ret
 first | exact ⟨rfl, rfl⟩ | exact ⟨rfl, by rw [hW1]⟩
set_option maxHeartbeats 4000000 in
set_option maxRecDepth 100000 in
theorem Xxn (base : Option Addr) (n c vb voff vc : Nat) (w w' : World) (v' : Value)
  (hrun : (Builtin.append_ #[40, 40] 40 #[.slice base n c, .slice (some ⟨vb, voff, none⟩) 1 vc]).run Tryz.prog w = .ok v' w') (hnil : base = none → c = 0) (hnc : n ≤ c) (hsp : ∀ a, base = some a → a.spot = none) :
  Calls Tryz.prog 183 #[.slice base n c, .int .i64 n, .slice (some ⟨vb, voff, none⟩) 1 vc] w fun e w1 => e = .returned v' ∧ w1 = w' := by
 have Ai : Tryz.prog.follows .mixedOrders = true := by kernel_rfl
 go_enter Tryz.func183, Tryz.ntmps183
 cases base with
 | none =>
  have h0 := hnil rfl
  subst h0
  obtain rfl : n = 0 := by omega
  go_wp2_with (at_builtin; refine Lib.wpList_append_run _ rfl _ _ _ _ rfl _ _ rfl rfl _ _ hrun ?_)
  go_ret
  exact ⟨rfl, rfl⟩
 | some a =>
  obtain ⟨ab, ao, asp⟩ := a
  go_wp2_with (at_builtin; refine Lib.wpList_append_run _ rfl _ _ _ _ rfl _ _ rfl rfl _ _ hrun ?_)
  all_goals (go_ret; exact ⟨rfl, rfl⟩)
abbrev Z : Value := .agg #[.int .i64 0, .int .u8 0]
set_option maxHeartbeats 4000000 in
set_option maxRecDepth 100000 in
theorem grow (b off n c i vb voff vc : Nat) (cs vs : List Value) (w : World) (hi : i < n) (hnc : n ≤ c) (hroom : c < n + 1) (hbig : (n + 1) * 16 ≤ 140737488355328)
  (hcl : cs.length = n * 2) (hvl : vs.length = 2)
  (hcs : ∀ j v, cs[j]? = some v → w.cell? ⟨b, off + j, none⟩ = some v)
  (hvs : ∀ j v, vs[j]? = some v → w.cell? ⟨vb, voff + j, none⟩ = some v) (h1c : ∀ v ∈ cs, v.oneCell' = true) (h1v : ∀ v ∈ vs, v.oneCell' = true) :
  Calls Tryz.prog 183 #[.slice (some ⟨b, off, none⟩) n c, .int .i64 i, .slice (some ⟨vb, voff, none⟩) 1 vc] w fun e w' =>
   e = .returned (.slice (some ⟨w.heap.size, 0, none⟩) (n + 1) (grownCap w (n + 1) c 125)) ∧
   w' = (((w.alloc (.cells ((cs.take (i * 2)).toArray ++ Builtin.zeroCells Z.cells (n + 1 - i) ++ Builtin.zeroCells Z.cells (grownCap w (n + 1) c 125 - (n + 1))) 125)).drew.setCells w.heap.size (i * 2) vs).drew).setCells w.heap.size ((i + 1) * 2) (cs.drop (i * 2)) := by
 have Ai : Tryz.prog.follows .mixedOrders = true := by kernel_rfl
 obtain ⟨i0, hi0, hz0, hzs, hzb⟩ := info_parts (P := Tryz.prog) (e := 125) (z := Z) (size := 2) (bytes := 16) (by kernel_rfl)
 have hz2 : ¬ ((i : Int) = (n : Int)) := by omega
 have hz3 : (c : Int) < (n : Int) + 1 := by omega
 have hbw : b < w.heap.size := block_lt_of_cell (hcs 0 _ (List.getElem?_eq_getElem (by omega)))
 have hvw : vb < w.heap.size := block_lt_of_cell (hvs 0 _ (List.getElem?_eq_getElem (by omega)))
 have hkk : (n : Int) + 1 - (i : Int) = ((n + 1 - i : Nat) : Int) := by omega
 have hik : i + (n + 1 - i) = n + 1 := by omega
 have hold : (Builtin.firstCells i0.size i (.slice (some ⟨b, off, none⟩) i c)).run Tryz.prog w.drew = .ok (cs.take (i * 2)).toArray w.drew := by
  rw [hzs]
  exact run_firstCells_some w.drew 2 i ⟨b, off, none⟩ i c (cs.take (i * 2)) (by rw [List.length_take]; omega) (fun j v hj => by
   rw [Addr.add_lit]
   rw [List.getElem?_take] at hj
   split at hj
   ·exact hcs j v hj
   ·cases hj)
 have hrz : ∀ ty, (Builtin.append_ #[40, 3] ty #[.slice (some ⟨b, off, none⟩) i c, .int .i64 ((n : Int) + 1 - (i : Int))]).run Tryz.prog w =
   .ok (.slice (some ⟨w.heap.size, 0, none⟩) (n + 1) (grownCap w (n + 1) c 125)) (w.drew.alloc (.cells ((cs.take (i * 2)).toArray ++ Builtin.zeroCells Z.cells (n + 1 - i) ++ Builtin.zeroCells Z.cells (grownCap w (n + 1) c 125 - (n + 1))) 125)) := fun ty => by
  have h := Lib.run_append_grow_zeros w 40 3 ty 125 i0 _ .i64 .i64 u40 u3 hi0 hz0 (some ⟨b, off, none⟩) i c (cs.take (i * 2)) hold (n + 1 - i) (by omega) (by omega) (by omega) (by omega) (by rw [hzb]; omega) (by rw [hzb, hik]; exact growslice_fits hroom hbig)
  rw [hik] at h
  rw [hkk]
  exact h
 obtain ⟨G, hG⟩ : ∃ G, G = grownCap w (n + 1) c 125 := ⟨_, rfl⟩
 obtain ⟨ROW, hROW⟩ : ∃ ROW : Array Value, ROW = (cs.take (i * 2)).toArray ++ Builtin.zeroCells Z.cells (n + 1 - i) ++ Builtin.zeroCells Z.cells (G - (n + 1)) := ⟨_, rfl⟩
 rw [← hG] at hrz ⊢
 rw [← hROW] at hrz ⊢
 have hRl : (n + 1) * 2 ≤ ROW.size := by
  rw [hROW]
  simp only [Array.size_append, List.size_toArray, size_zeroCells, List.length_take, hcl]
  have : Z.cells.size = 2 := rfl
  rw [this]
  omega
 obtain ⟨W1, hW1⟩ : ∃ W1, W1 = w.drew.alloc (.cells ROW 125) := ⟨_, rfl⟩
 rw [← hW1] at hrz
 have hN : ∀ j, j < (n + 1) * 2 → (W1.cell? ⟨w.heap.size, j, none⟩).isSome = true := fun j hj => by
  rw [hW1, World.cell?_alloc_at (w := w.drew) ROW _ w.heap.size j rfl, Array.getElem?_eq_getElem (by omega)]; rfl
 have hNf : ∀ j, W1.frozen? ⟨w.heap.size, j, none⟩ = false := fun j => by rw [hW1]; exact World.frozen?_alloc_at (w := w.drew) ROW _ w.heap.size j rfl
 have hOb : ∀ j v, w.cell? ⟨b, j, none⟩ = some v → W1.cell? ⟨b, j, none⟩ = some v := fun j v h => by rw [hW1, World.cell?_alloc_past (w := w.drew) _ b j hbw]; exact h
 have hOv : ∀ j v, w.cell? ⟨vb, j, none⟩ = some v → W1.cell? ⟨vb, j, none⟩ = some v := fun j v h => by rw [hW1, World.cell?_alloc_past (w := w.drew) _ vb j hvw]; exact h
 have hcpA : ∀ (W : World), (∀ x, W.cell? x = W1.cell? x) → (∀ x, W.frozen? x = W1.frozen? x) → ∀ ty dc, (Builtin.copy_ #[40, 40] ty #[.slice (some ⟨w.heap.size, i * 2, none⟩) (n + 1 - i) dc, .slice (some ⟨vb, voff, none⟩) 1 vc]).run Tryz.prog W = .ok (goInt ((1 : Nat) : Int)) (W.setCells w.heap.size (i * 2) vs) := fun W hWc hWf ty dc =>
  D7 W _ _ ty 125 2 w.heap.size (i * 2) (n + 1 - i) dc ⟨vb, voff, none⟩ 1 vc 1 vs u40 Xiy (by simp only [Nat.min_def]; split <;> omega) (by omega)
   (fun j v hj => by rw [Addr.add_lit, hWc]; exact hOv _ v (hvs j v hj))
   (fun j hj => by rw [hWc]; exact hN _ (by omega)) (fun j hj => by rw [hWf]; exact hNf _) h1v
 have hGn : n + 1 ≤ G := by rw [hG]; exact grownCap_ge w _ _ _
 have hG63 : G ≤ 9223372036854775807 := by
  have := grownCap_le_maxLen w (n + 1) c 125 (by unfold maxLen; omega)
  rw [← hG] at this
  unfold maxLen at this
  omega
 have hGi : ¬ (G = i) := by omega
 have hGim : ¬ (G = i + 1) := by omega
 have hci : ¬ (c = i) := by omega
 have hbN : b ≠ w.heap.size := by omega
 have hdl : (cs.drop (i * 2)).length = (n - i) * 2 := by rw [List.length_drop, hcl]; omega
 have hcpB : ∀ (W : World), (∀ x, W.cell? x = (W1.setCells w.heap.size (i * 2) vs).cell? x) → (∀ x, W.frozen? x = (W1.setCells w.heap.size (i * 2) vs).frozen? x) → ∀ ty dc sc, (Builtin.copy_ #[40, 40] ty #[.slice (some ⟨w.heap.size, (i + 1) * 2, none⟩) (n - i) dc, .slice (some ⟨b, off + i * 2, none⟩) (n - i) sc]).run Tryz.prog W = .ok (goInt ((n - i : Nat) : Int)) (W.setCells w.heap.size ((i + 1) * 2) (cs.drop (i * 2))) := fun W hWc hWf ty dc sc =>
  D7 W _ _ ty 125 2 w.heap.size ((i + 1) * 2) (n - i) dc ⟨b, off + i * 2, none⟩ (n - i) sc (n - i) (cs.drop (i * 2)) u40 Xiy (by simp only [Nat.min_def]; split <;> omega) hdl
   (fun j v hj => by
    rw [Addr.add_lit, hWc, World.cell?_setCells_out _ _ _ _ _ (fun h _ => absurd h hbN), Nat.add_assoc]
    exact hOb _ v (hcs (i * 2 + j) v (by rwa [List.getElem?_drop] at hj)))
   (fun j hj => by rw [hWc]; exact isSome_setCells _ _ _ _ (fun t ht => hN _ (by omega)) _ (hN _ (by omega)))
   (fun j hj => by rw [hWf, World.frozen?_setCells]; exact hNf _) (fun v hv => h1c v (List.mem_of_mem_drop hv))
 subst hW1
 have hE1 : ∀ x, ((w.alloc (.cells ROW 125)).drew).cell? x = (w.drew.alloc (.cells ROW 125)).cell? x := fun x => rfl
 have hE2 : ∀ x, ((w.alloc (.cells ROW 125)).drew).frozen? x = (w.drew.alloc (.cells ROW 125)).frozen? x := fun x => rfl
 have hF1 : ∀ x, (((w.alloc (.cells ROW 125)).drew.setCells w.heap.size (i * 2) vs).drew).cell? x = ((w.drew.alloc (.cells ROW 125)).setCells w.heap.size (i * 2) vs).cell? x := fun x => rfl
 have hF2 : ∀ x, (((w.alloc (.cells ROW 125)).drew.setCells w.heap.size (i * 2) vs).drew).frozen? x = ((w.drew.alloc (.cells ROW 125)).setCells w.heap.size (i * 2) vs).frozen? x := fun x => rfl
 have hw1 : IntKind.i64.wrap ((i : Int) + 1) = (i : Int) + 1 := by rw [IntKind.wrap_i64]; omega
 have hw2 : IntKind.i64.wrap ((n : Int) + 1) = (n : Int) + 1 := by rw [IntKind.wrap_i64]; omega
 have hb1 : (0 : Int) ≤ (i : Int) + 1 := by omega
 have hin : i ≤ n := by omega
 have htn : ((i : Int) + 1).toNat = i + 1 := by omega
 have hb3 : (i : Int) ≤ (n : Int) := by omega
 clear hkk hik hold hROW hG hRl
 go_enter Tryz.func183, Tryz.ntmps183
 go_wp2_with (first
  | (at_builtin; refine Lib.wpList_append_run _ rfl _ _ _ _ rfl _ _ rfl rfl _ _ (hrz _) ?_)
  | (at_builtin; refine wpList_copy_runI _ rfl _ _ 40 40 rfl _ _ rfl rfl (hcpA _ hE1 hE2 _ _) ?_)
  | (at_builtin; refine wpList_copy_runI _ rfl _ _ 40 40 rfl _ _ rfl rfl (hcpB _ (fun _ => rfl) (fun _ => rfl) _ _ _) ?_))
 go_region_law_o (refine step_copy_runI rfl _ _ 40 40 rfl (.slice (some ⟨w.heap.size, (i + 1) * 2, none⟩) (n - i) (G - (i + 1))) (.slice (some ⟨b, off + i * 2, none⟩) (n - i) (c - i)) (by simp [Act.eval, Act.put]) (by simp [Act.eval, Act.put]) (hcpB _ hF1 hF2 3 (G - (i + 1)) (c - i)) ?_)
 go_wp2
 go_ret
 exact ⟨rfl, rfl⟩
section
open Go.Rf
abbrev E : Ty := .pair (.int .i64) (.int .u8)
def ev (x : den E) : List Value := [.int .i64 x.1, .int .u8 x.2]
theorem Xn3 (l : List (den E)) : (l.flatMap ev).length = l.length * 2 := by
 induction l with
 | nil => rfl
 | cons x l ih => rw [List.flatMap_cons, List.length_append, ih]; simp only [ev, List.length_cons, List.length_nil]; omega
theorem X0y (l : List (den E)) (i j : Nat) (hj : j < 2) : (l.flatMap ev)[i * 2 + j]? = (l[i]?).bind fun x => (ev x)[j]? := by
 have := Gx (vss := l.map ev) (n := 2) (by intro v hv; obtain ⟨x, _, rfl⟩ := List.mem_map.1 hv; rfl) i j hj
 rw [← List.flatMap_def, List.getElem?_map] at this
 rw [this]
 cases l[i]? <;> rfl
theorem Xhh : ∀ (i : Nat) (l : List (den E)), (l.take i).flatMap ev = (l.flatMap ev).take (i * 2)
 | 0, l => by simp
 | i + 1, [] => by simp
 | i + 1, x :: l => by
  rw [List.take_succ_cons, List.flatMap_cons, List.flatMap_cons, Xhh i l, show (i + 1) * 2 = i * 2 + 1 + 1 by omega]
  rfl
theorem Xga : ∀ (i : Nat) (l : List (den E)), (l.drop i).flatMap ev = (l.flatMap ev).drop (i * 2)
 | 0, l => by simp
 | i + 1, [] => by simp
 | i + 1, x :: l => by
  rw [List.drop_succ_cons, List.flatMap_cons, Xga i l, show (i + 1) * 2 = i * 2 + 1 + 1 by omega]
  rfl
theorem Xlu (l : List (den E)) : ∀ v ∈ l.flatMap ev, v.oneCell' = true := by
 intro v hv
 obtain ⟨x, _, hx⟩ := List.mem_flatMap.1 hv
 simp only [ev, List.mem_cons, List.not_mem_nil, or_false] at hx
 rcases hx with rfl | rfl <;> rfl
theorem Xya {w : World} {S : Nat → Prop} {m : Rf.Mode} {x : den E} {u : List Value} {b : List Nat} (h : Rd w S E m x u b) : u = ev x ∧ b = [] := by
 obtain ⟨_, _, _, _, rfl, rfl, ⟨rfl, rfl⟩, ⟨rfl, rfl⟩⟩ := h
 exact ⟨rfl, rfl⟩
theorem Xxj (w : World) (S : Nat → Prop) (m : Rf.Mode) (x : den E) : Rd w S E m x (ev x) [] := ⟨[_], [_], [], [], rfl, rfl, ⟨rfl, rfl⟩, ⟨rfl, rfl⟩⟩
theorem Xaa {w : World} {S : Nat → Prop} {l : List (den E)} {y : Value} {bs : List Nat} (h : Rd w S (.sl E) .own l [y] bs) :
  ∃ ad c, y = .slice ad l.length c ∧ l.length ≤ c ∧ ((ad = none ∧ l = [] ∧ c = 0 ∧ bs = []) ∨ ∃ b o, ad = some ⟨b, o, none⟩ ∧ bs = [b] ∧ BlkOk w b (o + c * 2) ∧ ∀ j u, (l.flatMap ev)[j]? = some u → cellAt w b (o + j) = some u) := by
 obtain ⟨y', hy, h⟩ := h
 simp only [List.cons.injEq, and_true] at hy
 subst hy
 obtain ⟨vss, bss, ad, c, rfl, hc, _, lv, lb, hv, hel, hr⟩ := h.rows
 have e1 : vss = l.map ev := by
  apply List.ext_getElem?
  intro i
  rw [List.getElem?_map]
  by_cases hi : i < l.length
  ·rw [List.getElem?_eq_getElem hi, List.getElem?_eq_getElem (by omega)]
   exact congrArg some (Xya (hel i _ _ _ (List.getElem?_eq_getElem hi) (List.getElem?_eq_getElem (by omega)) (List.getElem?_eq_getElem (by omega)))).1
  ·rw [List.getElem?_eq_none (by omega), List.getElem?_eq_none (by omega)]; rfl
 have e2 : bss.flatten = [] := by
  rw [List.flatten_eq_nil_iff]
  intro b hb
  obtain ⟨i, hi, rfl⟩ := List.mem_iff_getElem.1 hb
  exact (Xya (hel i _ _ _ (List.getElem?_eq_getElem (by omega)) (List.getElem?_eq_getElem (by omega)) (List.getElem?_eq_getElem hi))).2
 refine ⟨ad, c, rfl, hc, ?_⟩
 rcases hr with ⟨h1, h2, h3, h4⟩ | ⟨b, o, rfl, h1, h2, _⟩
 ·exact .inl ⟨h1.resolve_right (by decide), h2, h3, h4⟩
 ·obtain ⟨h3, h4⟩ := h2 rfl
  rw [e2] at h3
  rw [e1, ← List.flatMap_def] at h1
  exact .inr ⟨b, o, rfl, h3, h4, h1⟩
theorem Qu {w : World} {S : Nat → Prop} {l : List (den E)} {b o c : Nat} (h : BlkOk w b (o + c * 2)) (hl : l.length ≤ c) (hc : ∀ j u, (l.flatMap ev)[j]? = some u → cellAt w b (o + j) = some u) :
  Rd w S (.sl E) .own l [.slice (some ⟨b, o, none⟩) l.length c] [b] := by
 refine ⟨_, rfl, some ⟨b, o, none⟩, c, rfl, hl, (by intro h; cases h), .inr ⟨b, o, List.replicate l.length [], rfl, by simp, fun _ => ⟨by simp, h⟩, (by intro h; cases h), (by intro i h; cases h), ?_⟩⟩
 intro i x b' _ hx hb
 have : b' = [] := by
  have := List.mem_of_getElem? hb
  exact (List.mem_replicate.1 this).2
 subst this
 refine ⟨ev x, rfl, fun j hj => ?_, Xxj _ _ _ _⟩
 have e := X0y l i j hj
 rw [hx] at e
 have hj' : j < (ev x).length := hj
 rw [Option.bind_some, List.getElem?_eq_getElem hj'] at e
 rw [Nat.add_assoc, show i * wd E + j = i * 2 + j from rfl, hc _ _ e, List.getElem?_eq_getElem hj']
theorem Xm1 {w : World} {S : Nat → Prop} {l : List (den E)} {y : Value} {ad : Option Addr} {c : Nat} (hy : y = .slice ad l.length c) (hc : l.length ≤ c)
  (h : (ad = none ∧ l = [] ∧ c = 0) ∨ ∃ b o, ad = some ⟨b, o, none⟩ ∧ ∀ j u, (l.flatMap ev)[j]? = some u → cellAt w b (o + j) = some u) : RowsOk w S E .own l y (l.map ev) (List.replicate l.length []) := by
 refine ⟨by simp, by simp, ?_, ?_, ad, c, hy, hc, ?_⟩
 ·intro u hu; obtain ⟨x, _, rfl⟩ := List.mem_map.1 hu; rfl
 ·intro i x u b' h1 h2 h3
  rw [List.getElem?_map, h1] at h2
  simp only [Option.map_some, Option.some.injEq] at h2
  subst h2
  have := (List.mem_replicate.1 (List.mem_of_getElem? h3)).2
  subst this
  exact Xxj _ _ _ _
 ·rcases h with ⟨h1, h2, h3⟩ | ⟨b, o, h1, h2⟩
  ·exact .inl ⟨.inl h1, h2, h3⟩
  ·refine .inr ⟨b, o, h1, ?_⟩
   rw [← List.flatMap_def]; exact h2
theorem C8 {b : Nat} : ∀ {vs : List Value} {o : Nat} {w : World}, BlkOk w b (o + vs.length) →
  (∀ q, q ≠ b → (w.setCells b o vs).heap[q]? = w.heap[q]?) ∧ (∀ n, BlkOk w b n → BlkOk (w.setCells b o vs) b n) ∧
   (∀ p, cellAt (w.setCells b o vs) b p = if o ≤ p ∧ p < o + vs.length then vs[p - o]? else cellAt w b p) ∧ (w.setCells b o vs).heap.size = w.heap.size ∧ Io w (w.setCells b o vs)
 | [], o, w, hb => ⟨fun _ _ => rfl, fun _ h => h, fun p => by rw [if_neg (by simp only [List.length_nil]; omega)]; rfl, rfl, Io.refl _⟩
 | v :: vs, o, w, hb => by
  have hb1 : BlkOk w b (o + 1) := by obtain ⟨cs, te, h2, h3⟩ := hb; exact ⟨cs, te, h2, by simp at h3; omega⟩
  obtain ⟨hq, hblk, hcell, hsz, hio⟩ := C8 (b := b) (vs := vs) (o := o + 1) (w := w.setCell ⟨b, o, none⟩ v)
   (Cn (by obtain ⟨cs, te, h2, h3⟩ := hb; exact ⟨cs, te, h2, by simp at h3; omega⟩))
  refine ⟨fun q hne => (hq q hne).trans (Bh hne), fun n hn => hblk n (Cn hn), fun p => ?_, hsz.trans (B4 _ _ _), (show Io w (w.setCell ⟨b, o, none⟩ v) from ⟨rfl, rfl, rfl⟩).trans hio⟩
  rw [World.setCells, hcell p]
  by_cases h2 : o + 1 ≤ p ∧ p < o + 1 + vs.length
  ·rw [if_pos h2, if_pos (by simp; omega)]
   rw [show p - o = (p - (o + 1)) + 1 by omega, List.getElem?_cons_succ]
  ·rw [if_neg h2, Du hb1 (by omega)]
   by_cases h3 : p = o
   ·subst h3
    simp
   ·rw [if_neg (by simp [h3]), if_neg (by simp; omega)]
def ins (l : List (den E)) (i : Int) (v : List (den E)) : Option (List (den E)) :=
 cond (decide (0 ≤ i) && decide (i ≤ (l.length : Int)) && decide (v.length = 1) && decide ((l.length + 1) * 16 ≤ 140737488355328)) (some (l.take i.toNat ++ v ++ l.drop i.toNat)) none
theorem fin {w w' : World} {S : Nat → Prop} {l : List (den E)} {y : Value} {b : Nat} {own : List Nat} (hR : Rd w' S (.sl E) .own l [y] [b]) (hb : b ∈ own ∨ w.heap.size ≤ b) (hown : ∀ q ∈ own, ¬ S q) (hS : ∀ q, S q → q < w.heap.size)
  (hsz : w.heap.size ≤ w'.heap.size) (hio : Io w w') (hfr : ∀ q, q < w.heap.size → q ∉ own → w'.heap[q]? = w.heap[q]?) : Post w S [] own w' (.one (.s .own E l), []) y := by
 refine ⟨⟨S, [b], [], hR, trivial, by simp, ?_, fun _ h => h, fun q h => Nat.lt_of_lt_of_le (hS q h) hsz, fun q h => .inl h, ?_, ?_⟩, hsz, hio, fun q h1 h2 => .inl (hfr q h1 h2).symm⟩
 ·intro q hq
  simp only [List.flatten_nil, List.append_nil, List.mem_singleton] at hq
  subst hq
  rcases hb with hb | hb
  ·exact hown _ hb
  ·intro h; have := hS _ h; omega
 ·intro q hq
  simp only [List.flatten_nil, List.append_nil, List.mem_singleton] at hq
  subst hq
  exact hb
 ·intro a ha; simp [resBk, U8] at ha
theorem get3 {α : Type} (A B C : List α) (t : Nat) : (A ++ B ++ C)[t]? = if t < A.length then A[t]? else if t < A.length + B.length then B[t - A.length]? else C[t - (A.length + B.length)]? := by
 split
 ·next h => rw [List.append_assoc, List.getElem?_append_left h]
 ·next h =>
  split
  ·next h2 => rw [List.append_assoc, List.getElem?_append_right (by omega), List.getElem?_append_left (by omega)]
  ·next h2 => rw [List.getElem?_append_right (by rw [List.length_append]; omega), List.length_append]
theorem Xtp : ∃ i, Tryz.prog.info? 125 = some i ∧ i.zero = some Z ∧ i.size = 2 ∧ i.bytes = 16 := info_parts (by kernel_rfl)
theorem X8e {w : World} {S : Nat → Prop} {a b c : Arg} {vals : List Value} {bss : List (List Nat)} (h : ArgsV w S [a, b, c] vals bss) :
  ∃ y iv z bl bi bv, vals = [y, iv, z] ∧ bss = [bl, bi, bv] ∧ ArgV w S a y bl ∧ ArgV w S b iv bi ∧ ArgV w S c z bv := by
 rcases vals with _ | ⟨y, _ | ⟨iv, _ | ⟨z, _ | _⟩⟩⟩ <;> rcases bss with _ | ⟨bl, _ | ⟨bi, _ | ⟨bv, _ | _⟩⟩⟩ <;> simp only [ArgsV, and_false] at h
 exact ⟨_, _, _, _, _, _, rfl, rfl, h.1, h.2.1, h.2.2.1⟩
theorem Xrt {w : World} {b n p : Nat} (h : BlkOk w b n) (hp : p < n) : (w.cell? ⟨b, p, none⟩).isSome = true ∧ w.frozen? ⟨b, p, none⟩ = false := by
 obtain ⟨cs, te, h1, h2⟩ := h
 unfold World.cell? World.frozen?
 simp only [h1, Option.isSome_none, Bool.false_eq_true, if_false]
 rw [Array.getElem?_eq_getElem (by omega)]
 exact ⟨rfl, by simp⟩
theorem V7 {w : World} {b n : Nat} (h : BlkOk w b n) : ∃ te k, w.shape? b = some (te, k) ∧ n ≤ k ∧ ∀ p, w.frozen? ⟨b, p, none⟩ = false := by
 obtain ⟨cs, te, h1, h2⟩ := h
 refine ⟨te, cs.size, by unfold World.shape?; simp only [h1], h2, fun p => ?_⟩
 unfold World.frozen?
 simp only [h1]
 simp
theorem con (l : List (den E)) (i : Int) (v : List (den E)) : Contract Tryz.prog 183 [.one (.l (.s .own E l)), .one (.l (.v (.int .i64 i))), .one (.l (.s .own E v))] ⟨ins l i v, fun r => (.one (.s .own E r), [])⟩ := by
 intro w S vals bss hA hnd hown hS _ _ r hr
 obtain ⟨y, iv, z, bl, bi, bv, rfl, rfl, h1, h2, h3⟩ := X8e hA
 obtain ⟨rfl, rfl⟩ : iv = .int .i64 i ∧ bi = [] := h2
 have hr : ins l i v = some r := hr
 unfold ins at hr
 cases hk : (decide (0 ≤ i) && decide (i ≤ (l.length : Int)) && decide (v.length = 1) && decide ((l.length + 1) * 16 ≤ 140737488355328)) with
 | false => rw [hk] at hr; cases hr
 | true =>
  rw [hk, cond_true, Option.some.injEq] at hr
  simp only [Bool.and_eq_true, decide_eq_true_eq] at hk
  obtain ⟨⟨⟨k0, k1⟩, kv⟩, ks⟩ := hk
  obtain ⟨j, rfl⟩ := Int.eq_ofNat_of_zero_le k0
  have k1 : j ≤ l.length := by omega
  have hr : l.take j ++ v ++ l.drop j = r := hr
  subst hr
  obtain ⟨x, rfl⟩ := List.length_eq_one_iff.1 kv
  clear kv k0 hA
  obtain ⟨i0, hi0, hz0, hzs, hzb⟩ := Xtp
  obtain ⟨ad, c, rfl, hc, hcase⟩ := Xaa h1
  obtain ⟨adv, vc, rfl, hvc, hvcase⟩ := Xaa h3
  obtain ⟨vb, vo, rfl, rfl, hvblk, hvcell⟩ : ∃ b o, adv = some ⟨b, o, none⟩ ∧ bv = [b] ∧ BlkOk w b (o + vc * 2) ∧ ∀ j u, (ev x)[j]? = some u → cellAt w b (o + j) = some u := by
   rcases hvcase with ⟨_, h, _⟩ | ⟨b, o, h1, h2, h3, h4⟩
   ·cases h
   ·exact ⟨b, o, h1, h2, h3, fun j u h => h4 j u (by simpa using h)⟩
  have hvc : 1 ≤ vc := hvc
  have lcs := Xn3 l
  have lvs : (ev x).length = 2 := rfl
  have lr : (l.take j ++ [x] ++ l.drop j).length = l.length + 1 := by
   simp only [List.length_append, List.length_take, List.length_drop, List.length_singleton]; omega
  have fr : (l.take j ++ [x] ++ l.drop j).flatMap ev = (l.flatMap ev).take (j * 2) ++ ev x ++ (l.flatMap ev).drop (j * 2) := by
   rw [List.flatMap_append, List.flatMap_append, Xhh, Xga, List.flatMap_singleton]
  have o1 := Xlu l
  have o2 : ∀ v ∈ ev x, v.oneCell' = true := fun v hv => Xlu [x] v (by simpa using hv)
  have r1 : RowsOk w S E .own [x] (.slice (some ⟨vb, vo, none⟩) 1 vc) [ev x] [[]] := Xm1 (l := [x]) rfl hvc (.inr ⟨vb, vo, rfl, fun j u h => hvcell j u (by simpa using h)⟩)
  have fm : [ev x].flatten = ev x := by simp
  have tl : ∀ t u, ((l.take j ++ [x] ++ l.drop j).flatMap ev)[t]? = some u → (t < j * 2 ∧ (l.flatMap ev)[t]? = some u) ∨ (j * 2 ≤ t ∧ t < j * 2 + 2 ∧ (ev x)[t - j * 2]? = some u) ∨ (j * 2 + 2 ≤ t ∧ t < (l.length + 1) * 2 ∧ (l.flatMap ev)[t - 2]? = some u) := by
   intro t u ht
   have hlt : t < (l.length + 1) * 2 := by
    have := (List.getElem?_eq_some_iff.1 ht).1
    rw [Xn3, lr] at this; exact this
   rw [fr, get3, List.length_take, lcs, lvs] at ht
   split at ht
   ·rw [List.getElem?_take_of_lt (by omega)] at ht
    exact .inl ⟨by omega, ht⟩
   ·split at ht
    ·refine .inr (.inl ⟨by omega, by omega, ?_⟩)
     rw [show t - j * 2 = t - min (j * 2) (l.length * 2) by omega]; exact ht
    ·refine .inr (.inr ⟨by omega, hlt, ?_⟩)
     rw [List.getElem?_drop] at ht
     rw [show t - 2 = j * 2 + (t - (min (j * 2) (l.length * 2) + 2)) by omega]; exact ht
  have hvl := fun q => hS q
  generalize hcs : l.flatMap ev = cs at *
  rcases Nat.eq_or_lt_of_le k1 with hj | hj
  ·
   by_cases hroom : l.length + 1 ≤ c
   ·obtain ⟨b, o, rfl, rfl, hblk, hcell⟩ : ∃ b o, ad = some ⟨b, o, none⟩ ∧ bl = [b] ∧ BlkOk w b (o + c * 2) ∧ ∀ j u, cs[j]? = some u → cellAt w b (o + j) = some u := by
     rcases hcase with ⟨_, _, h, _⟩ | h
     ·omega
     ·exact h
    obtain ⟨w', hst, hq, hb, hce, hsz, hio⟩ := Dc (P := Tryz.prog) (b := b) (o := o + l.length * 2) (vs := ev x) (i := 0) (w := w)
     (by obtain ⟨q1, q2, q3, q4⟩ := hblk; exact ⟨q1, q2, q3, by omega⟩) o2
    have hrun := Gp (P := Tryz.prog) (w := w) (t := 40) (te := 125) (ty := 40) (e := E) u40 hi0 (by rw [hzs]; rfl) r1 (n0 := l.length) (c0 := c) (ad0 := some ⟨b, o, none⟩) (w' := w') hroom
     (by
      intro b' o' hbo
      simp only [Option.some.injEq, Addr.mk.injEq, and_true] at hbo
      obtain ⟨rfl, rfl⟩ := hbo
      rw [fm]
      exact hst) (by rintro a ⟨⟩; rfl) (by intro h; cases h)
    rw [hj]
    refine (Xxn _ _ _ _ _ _ _ _ _ hrun (by intro h; cases h) (by omega) (by rintro a ⟨⟩; rfl)).mono ?_
    rintro e w1 ⟨rfl, rfl⟩
    refine ⟨_, rfl, ?_⟩
    rw [hj] at tl lr
    have hR : Rd w1 S (.sl E) .own (l.take l.length ++ [x] ++ l.drop l.length) [.slice (some ⟨b, o, none⟩) (l.length + 1) c] [b] := by
     rw [← lr]
     refine Qu (hb _ hblk) (by omega) ?_
     intro t u ht
     rw [hce]
     rcases tl t u ht with ⟨t1, t2⟩ | ⟨t1, t2, t3⟩ | ⟨t1, t2, t3⟩
     ·rw [if_neg (by omega)]
      exact hcell _ _ t2
     ·rw [if_pos (by omega), show o + t - (o + l.length * 2 + 0) = t - l.length * 2 by omega]; exact t3
     ·omega
    exact fin hR (.inl (by simp)) hown hS (by omega) hio (fun q h1 h2 => hq q (fun h => h2 (by subst h; simp)))
   ·have hc0 : ∃ ad0, ad = ad0 := ⟨_, rfl⟩
    have r0 : RowsOk w S E .own l (.slice ad l.length c) (l.map ev) (List.replicate l.length []) := Xm1 rfl hc (by
     rcases hcase with ⟨h1, h2, h3, _⟩ | ⟨b, o, h1, _, _, h4⟩
     ·exact .inl ⟨h1, h2, h3⟩
     ·exact .inr ⟨b, o, h1, by rw [hcs]; exact h4⟩)
    obtain ⟨w', c', zs, hrun, hheap, Uq, O3, hio⟩ := J1 (P := Tryz.prog) (w := w) (t := 40) (te := 125) (ty := 40) (e := E) u40 hi0 hz0 (by rw [hzs]; rfl) rfl r0 r1 (c0 := c) (ad0 := ad) rfl (by simp; omega) (by omega) (by rw [hzb]; exact ks)
    rw [hj]
    refine (Xxn _ _ _ _ _ _ _ _ _ hrun (by
     intro h
     rcases hcase with ⟨_, _, h3, _⟩ | ⟨b, o, h1, _⟩
     ·exact h3
     ·rw [h] at h1; cases h1) hc (by
     rintro a rfl
     rcases hcase with ⟨h, _⟩ | ⟨b, o, h1, _⟩
     ·cases h
     ·simp only [Option.some.injEq] at h1; subst h1; rfl)).mono ?_
    rintro e w1 ⟨rfl, rfl⟩
    refine ⟨_, rfl, ?_⟩
    rw [hj] at tl lr
    have fl : (l.map ev).flatten = cs := by rw [← List.flatMap_def, hcs]
    rw [fl, fm] at hheap O3
    have hat : w1.heap[w.heap.size]? = some (.cells (cs.toArray ++ (ev x).toArray ++ zs) 125 (0, 0)) := by rw [hheap]; simp
    have ll : (l ++ [x]).length = (l.take l.length ++ [x] ++ l.drop l.length).length := by simp
    have hR : Rd w1 S (.sl E) .own (l.take l.length ++ [x] ++ l.drop l.length) [.slice (some ⟨w.heap.size, 0, none⟩) (l ++ [x]).length c'] [w.heap.size] := by
     rw [ll]
     refine Qu ⟨_, _, hat, by rw [Nat.zero_add]; exact O3⟩ (by rw [lr]; simpa using Uq) ?_
     intro t u ht
     have : cellAt w1 w.heap.size (0 + t) = (cs.toArray ++ (ev x).toArray ++ zs)[t]? := by
      unfold cellAt World.cell?
      simp only [hat, Nat.zero_add]
      rfl
     rw [this]
     rcases tl t u ht with ⟨t1, t2⟩ | ⟨t1, t2, t3⟩ | ⟨t1, t2, t3⟩
     ·rw [Array.getElem?_append_left (by simp; omega), Array.getElem?_append_left (by simp; omega)]
      simpa using t2
     ·rw [Array.getElem?_append_left (by simp; omega), Array.getElem?_append_right (by simp; omega), ← t3]
      simp [lcs]
     ·omega
    have hsz : w1.heap.size = w.heap.size + 1 := by rw [hheap]; simp
    exact fin hR (.inr (Nat.le_refl _)) hown hS (by omega) hio (fun q h1 h2 => by rw [hheap]; rw [Array.getElem?_push_lt (by omega)]; exact (Array.getElem?_eq_getElem h1).symm)
  ·
   obtain ⟨b, o, rfl, rfl, hblk, hcell⟩ : ∃ b o, ad = some ⟨b, o, none⟩ ∧ bl = [b] ∧ BlkOk w b (o + c * 2) ∧ ∀ j u, cs[j]? = some u → cellAt w b (o + j) = some u := by
    rcases hcase with ⟨_, h, _⟩ | h
    ·subst h; simp at hj
    ·exact h
   have hvb : vb ≠ b := by rintro rfl; simp at hnd
   have hdl : (cs.drop (j * 2)).length = l.length * 2 - j * 2 := by rw [List.length_drop, lcs]
   by_cases hroom : l.length + 1 ≤ c
   ·obtain ⟨tA, kA, hsa, hk1, hfa⟩ := V7 hvblk
    obtain ⟨tB, kB, hsb, hk2, hfb⟩ := V7 hblk
    refine (shift b o l.length c j vb vo vc cs (ev x) w hj hroom (by omega) hvb lcs rfl hcell (fun t ht => (Xrt hblk (by omega)).1) (fun t ht => hfb _) hvcell o1 o2 tA tB kA kB hsa hsb (by omega) (hfa _) (hfa _)).mono ?_
    rintro e w1 ⟨rfl, hw⟩
    refine ⟨_, rfl, ?_⟩
    have hd0 : BlkOk w.drew b (o + c * 2) := hblk
    obtain ⟨q1, b1, c1, s1, io1⟩ := C8 (vs := cs.drop (j * 2)) (o := o + (j + 1) * 2) (w := w.drew) (b := b) (by obtain ⟨p1, p2, p3, p4⟩ := hd0; exact ⟨p1, p2, p3, by omega⟩)
    obtain ⟨q2, b2, c2, s2, io2⟩ := C8 (vs := ev x) (o := o + j * 2) (b := b) (by obtain ⟨p1, p2, p3, p4⟩ := b1 _ hd0; exact ⟨p1, p2, p3, by omega⟩)
    rw [← hw] at q2 b2 c2 s2 io2
    have hR : Rd w1 S (.sl E) .own (l.take j ++ [x] ++ l.drop j) [.slice (some ⟨b, o, none⟩) (l.length + 1) c] [b] := by
     rw [← lr]
     refine Qu (b2 _ (b1 _ hd0)) (by omega) ?_
     intro t u ht
     rw [c2]
     rcases tl t u ht with ⟨t1, t2⟩ | ⟨t1, t2, t3⟩ | ⟨t1, t2, t3⟩
     ·rw [if_neg (by omega), c1, if_neg (by omega)]
      exact hcell _ _ t2
     ·rw [if_pos (by omega), show o + t - (o + j * 2) = t - j * 2 by omega]; exact t3
     ·rw [if_neg (by omega), c1, if_pos (by omega), List.getElem?_drop, show j * 2 + (o + t - (o + (j + 1) * 2)) = t - 2 by omega]; exact t3
    have hne : ∀ q, q ∉ [[b], [], [vb]].flatten → q ≠ b := fun q h => by rintro rfl; simp at h
    exact fin hR (.inl (by simp)) hown hS (by rw [s2, s1]; exact Nat.le_refl _) ((show Io w w.drew from ⟨rfl, rfl, rfl⟩).trans (io1.trans io2)) (fun q h1 h2 => (q2 q (hne q h2)).trans (q1 q (hne q h2)))
   ·have hg := grownCap_ge w (l.length + 1) c 125
    refine (grow b o l.length c j vb vo vc cs (ev x) w hj hc (by omega) ks lcs rfl hcell hvcell o1 o2).mono ?_
    rintro e w1 ⟨rfl, hw⟩
    refine ⟨_, rfl, ?_⟩
    generalize hG : grownCap w (l.length + 1) c 125 = G at *
    obtain ⟨ROW, hROW⟩ : ∃ ROW : Array Value, ROW = (cs.take (j * 2)).toArray ++ Builtin.zeroCells Z.cells (l.length + 1 - j) ++ Builtin.zeroCells Z.cells (G - (l.length + 1)) := ⟨_, rfl⟩
    rw [← hROW] at hw
    have hRs : ROW.size = G * 2 := by
     rw [hROW]
     simp only [Array.size_append, List.size_toArray, size_zeroCells, List.length_take, lcs]
     have : Z.cells.size = 2 := rfl
     rw [this]
     omega
    have hX : (w.alloc (.cells ROW 125)).drew.heap = w.heap.push (.cells ROW 125) := rfl
    have hat : (w.alloc (.cells ROW 125)).drew.heap[w.heap.size]? = some (.cells ROW 125 (0, 0)) := by rw [hX]; simp
    have hd0 : BlkOk (w.alloc (.cells ROW 125)).drew w.heap.size (0 + G * 2) := ⟨_, _, hat, by omega⟩
    obtain ⟨q1, b1, c1, s1, io1⟩ := C8 (vs := ev x) (o := j * 2) (w := (w.alloc (.cells ROW 125)).drew) (b := w.heap.size) (by obtain ⟨p1, p2, p3, p4⟩ := hd0; exact ⟨p1, p2, p3, by omega⟩)
    have hd1 : BlkOk (((w.alloc (.cells ROW 125)).drew.setCells w.heap.size (j * 2) (ev x)).drew) w.heap.size (0 + G * 2) := b1 _ hd0
    obtain ⟨q2, b2, c2, s2, io2⟩ := C8 (vs := cs.drop (j * 2)) (o := (j + 1) * 2) (b := w.heap.size) (by obtain ⟨p1, p2, p3, p4⟩ := hd1; exact ⟨p1, p2, p3, by omega⟩)
    rw [← hw] at q2 b2 c2 s2 io2
    have hR : Rd w1 S (.sl E) .own (l.take j ++ [x] ++ l.drop j) [.slice (some ⟨w.heap.size, 0, none⟩) (l.length + 1) G] [w.heap.size] := by
     rw [← lr]
     refine Qu (b2 _ hd1) (by omega) ?_
     intro t u ht
     rw [c2, Nat.zero_add]
     rcases tl t u ht with ⟨t1, t2⟩ | ⟨t1, t2, t3⟩ | ⟨t1, t2, t3⟩
     ·rw [if_neg (by omega)]
      refine (c1 t).trans ?_
      rw [if_neg (by omega)]
      have : cellAt (w.alloc (.cells ROW 125)).drew w.heap.size t = ROW[t]? := by
       unfold cellAt World.cell?
       simp only [hat]
       rfl
      rw [this, hROW, Array.getElem?_append_left (by simp [lcs, size_zeroCells]; omega), Array.getElem?_append_left (by simp [lcs]; omega)]
      simp only [List.getElem?_toArray]
      rw [List.getElem?_take_of_lt (by omega)]
      exact t2
     ·rw [if_neg (by omega)]
      refine (c1 t).trans ?_
      rw [if_pos (by omega)]; exact t3
     ·rw [if_pos (by omega), List.getElem?_drop, show j * 2 + (t - (j + 1) * 2) = t - 2 by omega]; exact t3
    have sz : (w.alloc (.cells ROW 125)).drew.heap.size = w.heap.size + 1 := by rw [hX]; simp
    have s1' : ((w.alloc (.cells ROW 125)).drew.setCells w.heap.size (j * 2) (ev x)).drew.heap.size = w.heap.size + 1 := s1.trans sz
    refine fin hR (.inr (Nat.le_refl _)) hown hS (by rw [s2, s1']; omega) ((show Io w (w.alloc (.cells ROW 125)).drew from ⟨rfl, rfl, rfl⟩).trans (io1.trans ((show Io ((w.alloc (.cells ROW 125)).drew.setCells w.heap.size (j * 2) (ev x)) ((w.alloc (.cells ROW 125)).drew.setCells w.heap.size (j * 2) (ev x)).drew from ⟨rfl, rfl, rfl⟩).trans io2))) (fun q h1 h2 => ?_)
    have hne : q ≠ w.heap.size := by omega
    refine (q2 q hne).trans ((q1 q hne).trans ?_)
    rw [hX, Array.getElem?_push_lt (by omega)]
    exact (Array.getElem?_eq_getElem h1).symm
#print axioms con
end
end Go.Proofs.YtjkkbmkkljpcjaaGreat.In
end

section
set_option linter.unusedVariables false
set_option linter.unusedSimpArgs false
namespace Go.Proofs.YtjkkbmkkljpcjaaGreat.Gn
open Go.Rf IntKind
noncomputable section
abbrev Ap : Ty := (.pair (.int .i64) (.int .i64))
abbrev Av : Ty := (.pair (.int .i64) (.int .u8))
abbrev Uw : Ty := (.pair (.int .i64) Ap)
abbrev A9 : Ty := (.pair (.int .i64) (.pair (.int .i64) (.pair (.sl (.int .u8)) (.sl Av))))
abbrev Co : Ty := (.pair (.int .i64) (.pair (.sl (.int .u8)) (.pair (.int .i64) (.pair (.int .i64) (.sl Ap)))))
abbrev seg : Ty := (.pair (.int .i64) (.pair (.int .i64) (.pair (.int .i64) (.pair (.int .i64) (.pair (.int .i64) (.pair .bool (.pair .bool (.pair .bool (.pair .bool (.pair (.sl Ap) (.sl (.int .u8))))))))))))
abbrev fin : Ty := (.pair (.int .i64) (.pair (.int .i64) (.pair (.int .i64) (.pair (.int .i64) (.pair (.int .i64) (.pair (.int .i64) (.pair Co (.pair A9 (.pair .bool (.pair .bool (.pair .bool (.pair (.int .i64) (.pair (.int .i64) (.pair (.int .i64) Uw))))))))))))))
abbrev Ad : Type := List (den (.int .u8))
abbrev Ae : Type := List (den Ap)
abbrev Aw : Type := List (den Av)
abbrev Al : Type := List (den seg)
abbrev m_1 : MT := .pair (.sl .ro (.int .u8)) mI
abbrev m_2 : MT := .pair mI (.pair mI (.sl .ro Ap))
abbrev m_3 : MT := .pair (.sl .ro (.int .u8)) m_2
abbrev U7 : MT := .pair (.sl .ro (.int .u8)) (.sl .ro Av)
abbrev m_5 : MT := .pair mI (.pair mI (.pair mI mI))
abbrev m_6 : MT := .pair mB (.pair mI (.pair mI m_5))
abbrev m_7 : MT := .pair (.pair mI (.pair mI U7)) (.pair mB (.pair mB m_6))
abbrev m_8 : MT := .pair mI (.pair (.pair mI m_3) m_7)
abbrev Cp : MT := .pair mI (.pair mI (.pair mI m_8))
abbrev m_10 : MT := .pair mI (.pair mI (.sl .own Ap))
abbrev Zz : MT := .pair (.sl .own (.int .u8)) m_10
abbrev N2 : MT := .pair (.sl .own (.int .u8)) (.sl .own Av)
abbrev m_13 : MT := .pair (.pair mI (.pair mI N2)) (.pair mB (.pair mB m_6))
abbrev X10 : MT := .pair (.pair mI Zz) m_13
abbrev m_15 : MT := .pair mI (.pair mI (.pair mI X10))
abbrev B8 : MT := .pair mI (.pair mI (.pair mI m_15))
abbrev m_17 : MT := .pair (.sl .own Ap) (.sl .own (.int .u8))
abbrev m_18 : MT := .pair mB (.pair mB (.pair mB m_17))
abbrev m_19 : MT := .pair mI (.pair mI (.pair mB m_18))
abbrev Ji : MT := .pair mI (.pair mI (.pair mI m_19))
abbrev m_21 : MT := .pair (.sl .ro Ap) (.sl .ro (.int .u8))
abbrev m_22 : MT := .pair mB (.pair mB (.pair mB m_21))
abbrev m_23 : MT := .pair mI (.pair mI (.pair mB m_22))
abbrev Cu : MT := .pair mI (.pair mI (.pair mI m_23))
abbrev m_25 : MT := .pair (.sl .ro Ap) (.nil (.int .u8))
abbrev m_26 : MT := .pair mB (.pair mB (.pair mB m_25))
abbrev m_27 : MT := .pair mI (.pair mI (.pair mB m_26))
abbrev m_28 : MT := .pair mI (.pair mI (.pair mI m_27))
abbrev m_29 : MT := .pair (.sl .own Ap) (.nil (.int .u8))
abbrev m_30 : MT := .pair mB (.pair mB (.pair mB m_29))
abbrev m_31 : MT := .pair mI (.pair mI (.pair mB m_30))
abbrev m_32 : MT := .pair mI (.pair mI (.pair mI m_31))
abbrev m_33 : MT := .pair (.sl .own Ap) (.sl .ro (.int .u8))
abbrev m_34 : MT := .pair mB (.pair mB (.pair mB m_33))
abbrev m_35 : MT := .pair mI (.pair mI (.pair mB m_34))
abbrev m_36 : MT := .pair mI (.pair mI (.pair mI m_35))
abbrev u_0 {β : Type} (e : (Ad × Int)) (f : Ad → Int → β) : β := f e.1 e.2
abbrev Bn {β : Type} (e : (den Co)) (f : Int → Ad → Int → Int → Ae → β) : β := f e.1 e.2.1 e.2.2.1 e.2.2.2.1 e.2.2.2.2
abbrev Bs {β : Type} (e : (den A9)) (f : Int → Int → Ad → Aw → β) : β := f e.1 e.2.1 e.2.2.1 e.2.2.2
abbrev Ao {β : Type} (e : (den fin)) (f : Int → Int → Int → Int → Int → Int → Int → Ad → Int → Int → Ae → Int → Int → Ad → Aw → Bool → Bool → Bool → Int → Int → Int → Int → Int → Int → β) : β := f e.1 e.2.1 e.2.2.1 e.2.2.2.1 e.2.2.2.2.1 e.2.2.2.2.2.1 e.2.2.2.2.2.2.1.1 e.2.2.2.2.2.2.1.2.1 e.2.2.2.2.2.2.1.2.2.1 e.2.2.2.2.2.2.1.2.2.2.1 e.2.2.2.2.2.2.1.2.2.2.2 e.2.2.2.2.2.2.2.1.1 e.2.2.2.2.2.2.2.1.2.1 e.2.2.2.2.2.2.2.1.2.2.1 e.2.2.2.2.2.2.2.1.2.2.2 e.2.2.2.2.2.2.2.2.1 e.2.2.2.2.2.2.2.2.2.1 e.2.2.2.2.2.2.2.2.2.2.1 e.2.2.2.2.2.2.2.2.2.2.2.1 e.2.2.2.2.2.2.2.2.2.2.2.2.1 e.2.2.2.2.2.2.2.2.2.2.2.2.2.1 e.2.2.2.2.2.2.2.2.2.2.2.2.2.2.1 e.2.2.2.2.2.2.2.2.2.2.2.2.2.2.2.1 e.2.2.2.2.2.2.2.2.2.2.2.2.2.2.2.2
abbrev Wo {β : Type} (e : (den Uw)) (f : Int → Int → Int → β) : β := f e.1 e.2.1 e.2.2
abbrev A8 {β : Type} (e : (den seg)) (f : Int → Int → Int → Int → Int → Bool → Bool → Bool → Bool → Ae → Ad → β) : β := f e.1 e.2.1 e.2.2.1 e.2.2.2.1 e.2.2.2.2.1 e.2.2.2.2.2.1 e.2.2.2.2.2.2.1 e.2.2.2.2.2.2.2.1 e.2.2.2.2.2.2.2.2.1 e.2.2.2.2.2.2.2.2.2.1 e.2.2.2.2.2.2.2.2.2.2
abbrev Sg {β : Type} (e : (den Av)) (f : Int → Int → β) : β := f e.1 e.2
abbrev u_7 {β : Type} (e : ((den Co) × ((den A9) × (Bool × (Bool × (Bool × (Int × (Int × (Int × (den Uw)))))))))) (f : Int → Ad → Int → Int → Ae → Int → Int → Ad → Aw → Bool → Bool → Bool → Int → Int → Int → Int → Int → Int → β) : β := f e.1.1 e.1.2.1 e.1.2.2.1 e.1.2.2.2.1 e.1.2.2.2.2 e.2.1.1 e.2.1.2.1 e.2.1.2.2.1 e.2.1.2.2.2 e.2.2.1 e.2.2.2.1 e.2.2.2.2.1 e.2.2.2.2.2.1 e.2.2.2.2.2.2.1 e.2.2.2.2.2.2.2.1 e.2.2.2.2.2.2.2.2.1 e.2.2.2.2.2.2.2.2.2.1 e.2.2.2.2.2.2.2.2.2.2
def tyT : List (Nat × TyI) := [(3, ⟨(.int .i64), false, 0⟩), (4, ⟨.bool, false, 0⟩), (5, ⟨(.int .u8), false, 0⟩), (9, ⟨.str, false, 0⟩), (22, ⟨(.sl (.int .u8)), false, 1⟩), (37, ⟨(.sl Ap), false, 16⟩), (39, ⟨Co, true, 0⟩), (40, ⟨(.sl Av), false, 16⟩), (42, ⟨A9, true, 0⟩), (43, ⟨Uw, true, 0⟩), (45, ⟨fin, true, 0⟩), (46, ⟨(.sl seg), false, 96⟩), (51, ⟨seg, true, 0⟩), (116, ⟨Ap, true, 0⟩), (125, ⟨Av, true, 0⟩), (150, ⟨(.pair (.sl (.int .u8)) (.int .i64)), true, 0⟩), (152, ⟨(.sl (.int .i64)), false, 8⟩), (176, ⟨(.int .u64), false, 0⟩)]
def X5o : Xky := [(39, [(0, 1, false), (1, 1, false), (2, 1, false), (3, 1, false), (4, 1, false)]), (42, [(0, 1, false), (1, 1, false), (2, 1, false), (3, 1, false)]), (43, [(0, 1, false), (1, 1, false), (2, 1, false)]), (45, [(0, 1, false), (1, 1, false), (2, 1, false), (3, 1, false), (4, 1, false), (5, 1, false), (6, 5, true), (11, 4, true), (15, 1, false), (16, 1, false), (17, 1, false), (18, 1, false), (19, 1, false), (20, 1, false), (21, 3, true)]), (51, [(0, 1, false), (1, 1, false), (2, 1, false), (3, 1, false), (4, 1, false), (5, 1, false), (6, 1, false), (7, 1, false), (8, 1, false), (9, 1, false), (10, 1, false)]), (116, [(0, 1, false), (1, 1, false)]), (125, [(0, 1, false), (1, 1, false)]), (150, [(0, 1, false), (1, 1, false)])]
def eqT : List Nat := [43, 116, 125]
def Bg (tab : Tab) (hint : Nat → Hint) (rm : Rf.Mode) (pins : List (Bool × Nat)) (k : Nat) : Env :=
 { tab := tab, lend := (fun f => cond (Nat.beq f 183) [true, false, true] (cond (Nat.beq f 173) [true] (cond (Nat.beq f 170) [true] (cond (Nat.beq f 171) [true] (cond (Nat.beq f 99) [true] ([])))))), lent := (fun _ => []), pins := pins, ty := asc tyT, fld := Uj X5o, pw := fun _ => none, cw := fun _ => [], hint := hint, eqt := Cl eqT, rm := rm, fuel := k }
theorem tyOk : AllT (TyOk Tryz.prog) tyT :=
 ⟨.ofInt (b := 8) (by kernel_rfl) (by kernel_rfl), .ofBool (b := 1) (by kernel_rfl) (by kernel_rfl), .ofInt (b := 1) (by kernel_rfl) (by kernel_rfl), .ofStr (b := 16) (by kernel_rfl) (by kernel_rfl), .ofSl (te := 5) (b := 24) (by kernel_rfl) (by kernel_rfl) (by kernel_rfl) (fun _ h => by cases h; kernel_rfl), .ofSl (te := 116) (b := 24) (by kernel_rfl) (by kernel_rfl) (by kernel_rfl) nofun, .ofAgg (b := 72) (by kernel_rfl) (by kernel_rfl), .ofSl (te := 125) (b := 24) (by kernel_rfl) (by kernel_rfl) (by kernel_rfl) nofun, .ofAgg (b := 64) (by kernel_rfl) (by kernel_rfl), .ofAgg (b := 24) (by kernel_rfl) (by kernel_rfl), .ofAgg (b := 240) (by kernel_rfl) (by kernel_rfl), .ofSl (te := 51) (b := 24) (by kernel_rfl) (by kernel_rfl) (by kernel_rfl) nofun, .ofAgg (b := 96) (by kernel_rfl) (by kernel_rfl), .ofAgg (b := 16) (by kernel_rfl) (by kernel_rfl), .ofAgg (b := 16) (by kernel_rfl) (by kernel_rfl), .ofAgg (b := 32) (by kernel_rfl) (by kernel_rfl), .ofSl (te := 3) (b := 24) (by kernel_rfl) (by kernel_rfl) (by kernel_rfl) (fun _ h => by cases h; kernel_rfl), .ofInt (b := 8) (by kernel_rfl) (by kernel_rfl), trivial⟩
theorem fldOk : AllF Tryz.prog X5o :=
 ⟨⟨⟨by kernel_rfl, by kernel_rfl⟩, ⟨by kernel_rfl, by kernel_rfl⟩, ⟨by kernel_rfl, by kernel_rfl⟩, ⟨by kernel_rfl, by kernel_rfl⟩, ⟨by kernel_rfl, by kernel_rfl⟩, trivial⟩, ⟨⟨by kernel_rfl, by kernel_rfl⟩, ⟨by kernel_rfl, by kernel_rfl⟩, ⟨by kernel_rfl, by kernel_rfl⟩, ⟨by kernel_rfl, by kernel_rfl⟩, trivial⟩, ⟨⟨by kernel_rfl, by kernel_rfl⟩, ⟨by kernel_rfl, by kernel_rfl⟩, ⟨by kernel_rfl, by kernel_rfl⟩, trivial⟩, ⟨⟨by kernel_rfl, by kernel_rfl⟩, ⟨by kernel_rfl, by kernel_rfl⟩, ⟨by kernel_rfl, by kernel_rfl⟩, ⟨by kernel_rfl, by kernel_rfl⟩, ⟨by kernel_rfl, by kernel_rfl⟩, ⟨by kernel_rfl, by kernel_rfl⟩, ⟨by kernel_rfl, by kernel_rfl⟩, ⟨by kernel_rfl, by kernel_rfl⟩, ⟨by kernel_rfl, by kernel_rfl⟩, ⟨by kernel_rfl, by kernel_rfl⟩, ⟨by kernel_rfl, by kernel_rfl⟩, ⟨by kernel_rfl, by kernel_rfl⟩, ⟨by kernel_rfl, by kernel_rfl⟩, ⟨by kernel_rfl, by kernel_rfl⟩, ⟨by kernel_rfl, by kernel_rfl⟩, trivial⟩, ⟨⟨by kernel_rfl, by kernel_rfl⟩, ⟨by kernel_rfl, by kernel_rfl⟩, ⟨by kernel_rfl, by kernel_rfl⟩, ⟨by kernel_rfl, by kernel_rfl⟩, ⟨by kernel_rfl, by kernel_rfl⟩, ⟨by kernel_rfl, by kernel_rfl⟩, ⟨by kernel_rfl, by kernel_rfl⟩, ⟨by kernel_rfl, by kernel_rfl⟩, ⟨by kernel_rfl, by kernel_rfl⟩, ⟨by kernel_rfl, by kernel_rfl⟩, ⟨by kernel_rfl, by kernel_rfl⟩, trivial⟩, ⟨⟨by kernel_rfl, by kernel_rfl⟩, ⟨by kernel_rfl, by kernel_rfl⟩, trivial⟩, ⟨⟨by kernel_rfl, by kernel_rfl⟩, ⟨by kernel_rfl, by kernel_rfl⟩, trivial⟩, ⟨⟨by kernel_rfl, by kernel_rfl⟩, ⟨by kernel_rfl, by kernel_rfl⟩, trivial⟩, trivial⟩
theorem Ai : Tryz.prog.follows .mixedOrders = true := by kernel_rfl
theorem bldOk : AllT (fun t i => i.agg = true → BldOk Tryz.prog t (Uj X5o t)) tyT :=
 ⟨nofun, nofun, nofun, nofun, nofun, nofun, fun _ => Jy (row := [(0, 1, false), (1, 1, false), (2, 1, false), (3, 1, false), (4, 1, false)]) rfl (by kernel_rfl) (by kernel_rfl), nofun, fun _ => Jy (row := [(0, 1, false), (1, 1, false), (2, 1, false), (3, 1, false)]) rfl (by kernel_rfl) (by kernel_rfl), fun _ => Jy (row := [(0, 1, false), (1, 1, false), (2, 1, false)]) rfl (by kernel_rfl) (by kernel_rfl), fun _ => Jy (row := [(0, 1, false), (1, 1, false), (2, 1, false), (3, 1, false), (4, 1, false), (5, 1, false), (6, 5, true), (11, 4, true), (15, 1, false), (16, 1, false), (17, 1, false), (18, 1, false), (19, 1, false), (20, 1, false), (21, 3, true)]) rfl (by kernel_rfl) (by kernel_rfl), nofun, fun _ => Jy (row := [(0, 1, false), (1, 1, false), (2, 1, false), (3, 1, false), (4, 1, false), (5, 1, false), (6, 1, false), (7, 1, false), (8, 1, false), (9, 1, false), (10, 1, false)]) rfl (by kernel_rfl) (by kernel_rfl), fun _ => Jy (row := [(0, 1, false), (1, 1, false)]) rfl (by kernel_rfl) (by kernel_rfl), fun _ => Jy (row := [(0, 1, false), (1, 1, false)]) rfl (by kernel_rfl) (by kernel_rfl), fun _ => Jy (row := [(0, 1, false), (1, 1, false)]) rfl (by kernel_rfl) (by kernel_rfl), nofun, nofun, trivial⟩
theorem eqOkT : AllT (fun t i => Cl eqT t = true → EqOk Tryz.prog t i.ty) tyT :=
 ⟨fun h => absurd h (by decide), fun h => absurd h (by decide), fun h => absurd h (by decide), fun h => absurd h (by decide), fun h => absurd h (by decide), fun h => absurd h (by decide), fun h => absurd h (by decide), fun h => absurd h (by decide), fun h => absurd h (by decide), fun _ => EqOk.of (n := 8) (by decide) (by kernel_rfl) (by kernel_rfl) (by kernel_rfl) (by kernel_rfl) (by kernel_rfl), fun h => absurd h (by decide), fun h => absurd h (by decide), fun h => absurd h (by decide), fun _ => EqOk.of (n := 8) (by decide) (by kernel_rfl) (by kernel_rfl) (by kernel_rfl) (by kernel_rfl) (by kernel_rfl), fun _ => EqOk.of (n := 8) (by decide) (by kernel_rfl) (by kernel_rfl) (by kernel_rfl) (by kernel_rfl) (by kernel_rfl), fun h => absurd h (by decide), fun h => absurd h (by decide), fun h => absurd h (by decide), trivial⟩
theorem X8y (tab : Tab) (hint : Nat → Hint) (rm : Rf.Mode) (pins : List (Bool × Nat)) (k : Nat) : TysOk Tryz.prog (Bg tab hint rm pins k) :=
 ⟨fun t i h => tyOk.get h, fun s f z h => fldOk.get h, fun t i h => bldOk.get h, fun t i h h2 => eqOkT.get h2 h, fun _ h => by cases h⟩
theorem Ak {tab : Tab} (h : TabFn Tryz.prog tab) (hint : Nat → Hint) (rm : Rf.Mode) (pins : List (Bool × Nat)) (k : Nat) : EnvOk Tryz.prog (Bg tab hint rm pins k) := EnvOk.of (X8y tab hint rm pins k) h
theorem X5n (frz : List Nat) {tab : Tab} (h : TabFn Tryz.prog tab) (hint : Nat → Hint) (rm : Rf.Mode) (pins : List (Bool × Nat)) (k : Nat) : EnvOk Tryz.prog { Bg tab hint rm pins k with frz := frz } :=
 have e := Ak h hint rm pins k; ⟨e.ty, e.fld, e.bld, e.eq, e.tab, e.fn, e.itr⟩
theorem Xem (rh : Nat → Option Hint) {tab : Tab} (h : TabFn Tryz.prog tab) (hint : Nat → Hint) (rm : Rf.Mode) (pins : List (Bool × Nat)) (k : Nat) : EnvOk Tryz.prog { Bg tab hint rm pins k with rh := rh } :=
 have e := Ak h hint rm pins k; ⟨e.ty, e.fld, e.bld, e.eq, e.tab, e.fn, e.itr⟩
def Ca : Tab := fun _ _ => none
def Aj : Nat → Hint := fun _ => ⟨[], []⟩
end
end Go.Proofs.YtjkkbmkkljpcjaaGreat.Gn
end

section
set_option linter.unusedVariables false
set_option linter.unusedSimpArgs false
namespace Go.Proofs.YtjkkbmkkljpcjaaGreat.Gn
open Go.Rf IntKind
noncomputable section
abbrev X6l (k : Nat) : Env := Bg Ca Aj .own [] k
abbrev Xy8 : List PA := [.one (.sl .ro (.int .u8))]
abbrev F80_O : RO := ⟨[.ptr 2], [m_1]⟩
def Xg0 {β : Type} (RET : (Ad × Int) → Option β) (k : Nat) (v : Ad) : Option β := cond (decide ((v.length : Int) > 2000)) (cond (decide (0 ≤ 2000) && decide (2000 ≤ (v.length : Int))) (RET (v.take 2000, 0)) none) (RET (v, 0))
def F80 := Xg0 (β := (Ad × Int)) some
theorem X4b {β : Type} (k : Nat) (v : Ad) (K : KT β) : Ah (X6l k) Tryz.f80 (PsT.put Xy8 (v, ())) K = (F80 k v).bind fun r => K (F80_O.put r) :=
 Eq.trans (b := Xg0 (fun r => K (F80_O.put r)) k v) (by kernel_rfl) (by simp only [F80, Xg0, z1, z2, z3, z4, z5])
def Xzi (k : Nat) : FD := ⟨80, Xy8, F80_O, F80 k⟩
theorem X6z (k : Nat) : (Xzi k).Ok Tryz.prog := ⟨fun x => Ab (Ak .none _ _ _ _) Ai Tryz.func80 rfl rfl (X4b k _ some), .of (by kernel_rfl)⟩
abbrev X8l (k : Nat) : Env := Bg Ca Aj .own [(false, 0), (false, 1)] k
abbrev Xxc : List PA := [.p m_1, .one mI]
abbrev F82_O : RO := ⟨[.v], [mI, m_1]⟩
def Xgr {β : Type} (RET : (Int × (Ad × Int)) → Option β) (k : Nat) (v : (Ad × Int)) (w : Int) : Option β := u_0 v fun v0 v1 => cond (decide (w < 1)) (RET (0, (v0, i64.wrap (v1 + 1)))) (cond ((v0.length : Int) == 0) (RET (0, (v0, i64.wrap (v1 + 1)))) (cond (decide ((i64.wrap ((i64.wrap (v1 + 1)) - 1)) < (v0.length : Int))) (Bi (i64.wrap ((i64.wrap (v1 + 1)) - 1)) v0 (cond (decide (w = 0)) none (RET (((i64.wrap (Bd v0 (i64.wrap ((i64.wrap (v1 + 1)) - 1)))).tmod w), (v0, i64.wrap (v1 + 1)))))) (cond (decide ((v0.length : Int) = 0)) none (Bi ((i64.wrap ((i64.wrap (v1 + 1)) - 1)).tmod (v0.length : Int)) v0 (cond (decide ((v0.length : Int) = 0)) none (Bi ((i64.wrap ((i64.wrap ((i64.wrap ((i64.wrap (v1 + 1)) - 1)) * 7)) + 3)).tmod (v0.length : Int)) v0 (cond (decide ((v0.length : Int) = 0)) none (cond (decide (w = 0)) none (RET (((Dt .xor .i64 (i64.wrap ((i64.wrap ((i64.wrap ((i64.wrap ((i64.wrap (Bd v0 ((i64.wrap ((i64.wrap (v1 + 1)) - 1)).tmod (v0.length : Int)))) * 131)) + (i64.wrap ((i64.wrap (Bd v0 ((i64.wrap ((i64.wrap ((i64.wrap ((i64.wrap (v1 + 1)) - 1)) * 7)) + 3)).tmod (v0.length : Int)))) * 1117)))) + (i64.wrap ((i64.wrap ((i64.wrap (v1 + 1)) - 1)) * 29)))) + (i64.wrap ((i64.wrap ((i64.wrap ((i64.wrap (v1 + 1)) - 1)).tdiv (v0.length : Int))) * 53)))) (i64.wrap ((i64.wrap ((i64.wrap ((i64.wrap ((i64.wrap ((i64.wrap (Bd v0 ((i64.wrap ((i64.wrap (v1 + 1)) - 1)).tmod (v0.length : Int)))) * 131)) + (i64.wrap ((i64.wrap (Bd v0 ((i64.wrap ((i64.wrap ((i64.wrap ((i64.wrap (v1 + 1)) - 1)) * 7)) + 3)).tmod (v0.length : Int)))) * 1117)))) + (i64.wrap ((i64.wrap ((i64.wrap (v1 + 1)) - 1)) * 29)))) + (i64.wrap ((i64.wrap ((i64.wrap ((i64.wrap (v1 + 1)) - 1)).tdiv (v0.length : Int))) * 53)))).tdiv 64))).tmod w), (v0, i64.wrap (v1 + 1))))))))))))
def C6 := Xgr (β := Int × (Ad × Int)) some
theorem X4w {β : Type} (k : Nat) (v : (Ad × Int)) (w : Int) (K : KT β) : Ah (X8l k) Tryz.f82 (PsT.put Xxc (v, w, ())) K = (C6 k v w).bind fun r => K (F82_O.put r) :=
 Eq.trans (b := Xgr (fun r => K (F82_O.put r)) k v w) (by kernel_rfl) (by simp only [C6, Xgr, z1, z2, z3, z4, z5, u_0])
def Rk (k : Nat) : FD := ⟨82, Xxc, F82_O, C6 k⟩
theorem Wl (k : Nat) : (Rk k).Ok Tryz.prog := ⟨fun x => Ab (Ak .none _ _ _ _) Ai Tryz.func82 rfl rfl (X4w k _ _ some), .of (by kernel_rfl)⟩
abbrev X40 (k : Nat) : Env := Bg Ca Aj .own [] k
abbrev Xra : List PA := [.one mI]
abbrev F165_O : RO := ⟨[.a], [.pair mI (.pair mI mI)]⟩
def Xkh (k : Nat) (v : Int) : Option ((den Uw)) := some (0, 0, 24)
theorem Xvk {β : Type} (k : Nat) (v : Int) (K : KT β) : Ah (X40 k) Tryz.f165 (PsT.put Xra (v, ())) K = (Xkh k v).bind fun r => K (F165_O.put r) :=
 Eq.trans (b := K (F165_O.put (0, 0, 24))) (by kernel_rfl) (by simp only [Xkh, z1, z2, z3, z4, z5])
def Xqq (k : Nat) : FD := ⟨165, Xra, F165_O, Xkh k⟩
theorem X02 (k : Nat) : (Xqq k).Ok Tryz.prog := ⟨fun x => Ab (Ak .none _ _ _ _) Ai Tryz.func165 rfl rfl (Xvk k _ some), .of (by kernel_rfl)⟩
abbrev X7c (k : Nat) : Env := Bg Ca Aj .own [] k
abbrev Xza : List PA := [.one mI, .one mI, .one mI]
abbrev F44_O : RO := ⟨[.v], [mB]⟩
def Gf (k : Nat) (v w p : Int) : Option (Bool) := cond (decide (v ≥ w)) (some (decide (v ≤ p))) (some false)
theorem X4r {β : Type} (k : Nat) (v w p : Int) (K : KT β) : Ah (X7c k) Tryz.f44 (PsT.put Xza (v, w, p, ())) K = (Gf k v w p).bind fun r => K (F44_O.put r) :=
 Eq.trans (b := cond (decide (v ≥ w)) (K (F44_O.put (decide (v ≤ p)))) (K (F44_O.put false))) (by kernel_rfl) (by simp only [Gf, z1, z2, z3, z4, z5])
def Ej (k : Nat) : FD := ⟨44, Xza, F44_O, Gf k⟩
theorem Er (k : Nat) : (Ej k).Ok Tryz.prog := ⟨fun x => Ab (Ak .none _ _ _ _) Ai Tryz.func44 rfl rfl (X4r k _ _ _ some), .of (by kernel_rfl)⟩
def X2z : Nat → Hint
 | 0 => ⟨pl 1 1 (pl 3 1 []), pl 1000 5 []⟩
 | _ => ⟨[], []⟩
abbrev Xb (k : Nat) : Env := Bg (Ay [Ej k]) X2z .own [] k
abbrev Xdp : List PA := [.agg (.pair mI m_3)]
abbrev F107_O : RO := ⟨[.v], [mB]⟩
noncomputable def X2f {β : Type} (k : Nat) (v : (den Co)) (K : KT β) : Ex → St → Option β := Cz (Xb k) Tryz.f107 (PsT.put Xdp (v, ())) K
def Xwf (v : (den Co)) (x3_0 : Int) : St := ⟨(.one .d) :: (.one (.ptr (.cell 1000) 5 0)) :: (.one .d) :: (.one (vI x3_0)) :: dz 82 [], Bc 1000 (Cb (.pair mI m_3) v) []⟩
noncomputable def O5 {β : Type} (k : Nat) (v : (den Co)) (K : KT β) (n : Nat) (x3_0 : Int) : Option β := Bu (Xb k) Tryz.f107 [1, 1, 0, 1, 0] 0 (A1 (Xb k) [1, 1, 0, 1, 0] (Aa Tryz.f107) 0 (X2f k v K)) n (Xwf v x3_0)
def E2 {β : Type} (NX : Int → Option β) (RET : Bool → Option β) (k : Nat) (v : (den Co)) (x3_0 : Int) : Option β := Bn v fun v0 _ v2 _ v4 => cond (decide (x3_0 < (v4.length : Int))) (Bi x3_0 v4 (cond (decide ((Bd v4 x3_0).1 ≤ v0)) (RET false) (cond (decide ((Bd v4 x3_0).2 ≤ (Bd v4 x3_0).1)) (RET false) (cond (decide ((Bd v4 x3_0).2 > (i64.wrap (v0 + v2)))) (RET false) (cond (decide (x3_0 > 0)) (Bi (i64.wrap (x3_0 - 1)) v4 (cond (decide ((Bd v4 (i64.wrap (x3_0 - 1))).2 ≥ (Bd v4 x3_0).1)) (RET false) (NX (i64.wrap (x3_0 + 1))))) (NX (i64.wrap (x3_0 + 1)))))))) (RET true)
def E0 (k : Nat) (v : (den Co)) : Nat → Int → Option (Bool)
 | 0, _ => none
 | n + 1, x3_0 => E2 (E0 k v n) some k v x3_0
theorem Xfd {β : Type} (k : Nat) (v : (den Co)) (K : KT β) (n : Nat) : ∀ (x3_0 : Int), O5 k v K n x3_0 =
  (E0 k v n x3_0).bind fun r => K (F107_O.put r) := by
 induction n with
 | zero => intros; rfl
 | succ n ih =>
  intro x3_0
  refine Eq.trans (b := E2 (O5 k v K n) (fun r => K (F107_O.put r)) k v x3_0) (by kernel_rfl) ?_
  rw [E0]
  simp only [E2, z1, z2, z3, z4, z5, Bn, ih]
def Xh {β : Type} (LP0 : Int → Option β) (RET : Bool → Option β) (k : Nat) (v : (den Co)) : Option β := Bn v fun v0 v1 v2 v3 v4 => (Gf k v0 0 1000000).bind fun b1 => cond (!b1) (RET false) (cond (decide ((v1.length : Int) > 32)) (RET false) ((Gf k v2 0 (v1.length : Int)).bind fun b2 => cond (!b2) (RET false) ((Gf k v3 0 255).bind fun b3 => cond (!b3) (RET false) (cond (decide ((v4.length : Int) > 2)) (RET false) (LP0 0)))))
def Un (k : Nat) (v : (den Co)) : Option (Bool) := Xh (E0 k v k) some k v
theorem Xwi {β : Type} (k : Nat) (v : (den Co)) (K : KT β) : Ah (Xb k) Tryz.f107 (PsT.put Xdp (v, ())) K = (Un k v).bind fun r => K (F107_O.put r) :=
 Eq.trans (b := Xh (O5 k v K k) (fun r => K (F107_O.put r)) k v) (by kernel_rfl) (by simp only [Un, Xh, z1, z2, z3, z4, z5, Bn, Xfd])
def Lv (k : Nat) : FD := ⟨107, Xdp, F107_O, Un k⟩
theorem Nn (k : Nat) : (Lv k).Ok Tryz.prog := ⟨fun x => Ab (Ak (Af (.c (Er k) .n)) _ _ _ _) Ai Tryz.func107 rfl rfl (Xwi k _ some), .of (by kernel_rfl)⟩
def X1v : Nat → Hint
 | 0 => ⟨pl 1 1 (pl 3 1 []), pl 1000 4 []⟩
 | _ => ⟨[], []⟩
abbrev Xf (k : Nat) : Env := Bg (Ay [Ej k]) X1v .own [] k
abbrev Xcz : List PA := [.agg (.pair mI (.pair mI U7))]
abbrev F108_O : RO := ⟨[.v], [mB]⟩
noncomputable def X35 {β : Type} (k : Nat) (v : (den A9)) (K : KT β) : Ex → St → Option β := Cz (Xf k) Tryz.f108 (PsT.put Xcz (v, ())) K
def Xtw (v : (den A9)) (x3_0 : Int) : St := ⟨(.one .d) :: (.one (.ptr (.cell 1000) 4 0)) :: (.one .d) :: (.one (vI x3_0)) :: dz 72 [], Bc 1000 (Cb (.pair mI (.pair mI U7)) v) []⟩
noncomputable def Oq {β : Type} (k : Nat) (v : (den A9)) (K : KT β) (n : Nat) (x3_0 : Int) : Option β := Bu (Xf k) Tryz.f108 [1, 1, 0, 1, 0] 0 (A1 (Xf k) [1, 1, 0, 1, 0] (Aa Tryz.f108) 0 (X35 k v K)) n (Xtw v x3_0)
def E1 {β : Type} (NX : Int → Option β) (RET : Bool → Option β) (k : Nat) (v : (den A9)) (x3_0 : Int) : Option β := Bs v fun v0 v1 v2 v3 => cond (decide (x3_0 < (v3.length : Int))) (Bi x3_0 v3 (cond (decide ((Bd v3 x3_0).1 ≤ v0)) (RET false) (Bi x3_0 v3 (cond (decide ((Bd v3 x3_0).1 ≥ (i64.wrap ((i64.wrap (v0 + v1)) - (v2.length : Int))))) (RET false) (cond (decide (x3_0 > 0)) (Bi (i64.wrap (x3_0 - 1)) v3 (Bi x3_0 v3 (cond (decide ((Bd v3 (i64.wrap (x3_0 - 1))).1 ≥ (Bd v3 x3_0).1)) (RET false) (NX (i64.wrap (x3_0 + 1)))))) (NX (i64.wrap (x3_0 + 1)))))))) (RET true)
def Ew (k : Nat) (v : (den A9)) : Nat → Int → Option (Bool)
 | 0, _ => none
 | n + 1, x3_0 => E1 (Ew k v n) some k v x3_0
theorem Xf3 {β : Type} (k : Nat) (v : (den A9)) (K : KT β) (n : Nat) : ∀ (x3_0 : Int), Oq k v K n x3_0 =
  (Ew k v n x3_0).bind fun r => K (F108_O.put r) := by
 induction n with
 | zero => intros; rfl
 | succ n ih =>
  intro x3_0
  refine Eq.trans (b := E1 (Oq k v K n) (fun r => K (F108_O.put r)) k v x3_0) (by kernel_rfl) ?_
  rw [Ew]
  simp only [E1, z1, z2, z3, z4, z5, Bs, ih]
def Xx {β : Type} (LP0 : Int → Option β) (RET : Bool → Option β) (k : Nat) (v : (den A9)) : Option β := (Gf k v.1 0 1000000).bind fun b1 => cond (!b1) (RET false) ((Gf k v.2.1 1 32).bind fun b2 => cond (!b2) (RET false) (cond (decide ((v.2.2.1.length : Int) > v.2.1)) (RET false) (LP0 0)))
def Qj (k : Nat) (v : (den A9)) : Option (Bool) := Xx (Ew k v k) some k v
theorem Xwr {β : Type} (k : Nat) (v : (den A9)) (K : KT β) : Ah (Xf k) Tryz.f108 (PsT.put Xcz (v, ())) K = (Qj k v).bind fun r => K (F108_O.put r) :=
 Eq.trans (b := Xx (Oq k v K k) (fun r => K (F108_O.put r)) k v) (by kernel_rfl) (by simp only [Qj, Xx, z1, z2, z3, z4, z5, Bs, Xf3])
def Lm (k : Nat) : FD := ⟨108, Xcz, F108_O, Qj k⟩
theorem Ns (k : Nat) : (Lm k).Ok Tryz.prog := ⟨fun x => Ab (Ak (Af (.c (Er k) .n)) _ _ _ _) Ai Tryz.func108 rfl rfl (Xwr k _ some), .of (by kernel_rfl)⟩
abbrev X0o (k : Nat) : Env := Bg (Ay [Ej k]) Aj .own [] k
abbrev Xsg : List PA := [.agg (.pair mI (.pair mI mI))]
abbrev F109_O : RO := ⟨[.v], [mB]⟩
def Z5 {β : Type} (RET : Bool → Option β) (k : Nat) (v : (den Uw)) : Option β := (Gf k v.1 0 80000).bind fun b1 => cond b1 ((Gf k v.2.1 0 80000).bind fun b2 => cond b2 ((Gf k v.2.2 4 200).bind fun b3 => RET b3) (RET false)) (RET false)
def Xfm := Z5 (β := Bool) some
theorem Xwk {β : Type} (k : Nat) (v : (den Uw)) (K : KT β) : Ah (X0o k) Tryz.f109 (PsT.put Xsg (v, ())) K = (Xfm k v).bind fun r => K (F109_O.put r) :=
 Eq.trans (b := Z5 (fun r => K (F109_O.put r)) k v) (by kernel_rfl) (by simp only [Xfm, Z5, z1, z2, z3, z4, z5])
def Xex (k : Nat) : FD := ⟨109, Xsg, F109_O, Xfm k⟩
theorem Xoa (k : Nat) : (Xex k).Ok Tryz.prog := ⟨fun x => Ab (Ak (Af (.c (Er k) .n)) _ _ _ _) Ai Tryz.func109 rfl rfl (Xwk k _ some), .of (by kernel_rfl)⟩
abbrev X2a (k : Nat) : Env := Bg Ca Aj .own [] k
abbrev Xqr : List PA := [.agg (.pair mI (.pair mI Cp))]
abbrev F110_O : RO := ⟨[.v], [mB]⟩
def Ts {β : Type} (RET : Bool → Option β) (k : Nat) (v : (den fin)) : Option β := cond (v.1 == 2) (RET true) (cond (v.1 == 3) (RET true) (cond (v.1 == 4) (cond (decide (v.2.2.2.2.2.2.1.2.2.1 > 0)) (RET true) (cond v.2.2.2.2.2.2.2.2.2.1 (cond (!v.2.2.2.2.2.2.2.2.2.2.1) (RET true) (RET (decide ((v.2.2.2.2.2.2.1.2.1.length : Int) > 0)))) (RET (decide ((v.2.2.2.2.2.2.1.2.1.length : Int) > 0))))) (RET false)))
def U6 := Ts (β := Bool) some
theorem Xuz {β : Type} (k : Nat) (v : (den fin)) (K : KT β) : Ah (X2a k) Tryz.f110 (PsT.put Xqr (v, ())) K = (U6 k v).bind fun r => K (F110_O.put r) :=
 Eq.trans (b := Ts (fun r => K (F110_O.put r)) k v) (by kernel_rfl) (by simp only [U6, Ts, z1, z2, z3, z4, z5])
def Xel (k : Nat) : FD := ⟨110, Xqr, F110_O, U6 k⟩
theorem Xos (k : Nat) : (Xel k).Ok Tryz.prog := ⟨fun x => Ab (Ak .none _ _ _ _) Ai Tryz.func110 rfl rfl (Xuz k _ some), .of (by kernel_rfl)⟩
def Xd6 : Hint := Jt [1] [1000, 1001, 1002, 1003, 1004, 1005, 1006, 1007, 1008, 1009, 1010, 1011, 1012, 1013, 1014, 1015, 1016, 1017, 1018, 1019, 1020, 1021, 1022, 1023]
def Xfj : Hint := Jt [1] [1000, 1001, 1002, 1003, 1004, 1005, 1006, 1007, 1008, 1009, 1010, 1011, 1012, 1013, 1014, 1015, 1016, 1017, 1018, 1019, 1020, 1021, 1022, 1023]
def Xeo : Hint := Jt [1] [1000, 1001, 1002, 1003, 1004, 1005, 1006, 1007, 1008, 1009, 1010, 1011, 1012, 1013, 1014, 1015, 1016, 1017, 1018, 1019, 1020, 1021, 1022, 1023]
def Xdj : Hint := Jt [1] [1000, 1001, 1002, 1003, 1004, 1005, 1006, 1007, 1008, 1009, 1010, 1011, 1012, 1013, 1014, 1015, 1016, 1017, 1018, 1019, 1020, 1021, 1022, 1023]
def Xdb : Hint := Jt [1] [1000, 1001, 1002, 1003, 1004, 1005, 1006, 1007, 1008, 1009, 1010, 1011, 1012, 1013, 1014, 1015, 1016, 1017, 1018, 1019, 1020, 1021, 1022, 1023]
def Xnn : Nat → Option Hint
 | 3 => some Xd6
 | 7 => some Xfj
 | 9 => some Xeo
 | 11 => some Xdj
 | 14 => some Xdb
 | _ => none
abbrev Da (k : Nat) : Env := { Bg (Ay [Ej k, Lv k, Lm k, Xex k, Xel k]) Aj .own [] k with rh := Xnn }
abbrev Xl1 : List PA := [.agg (.pair mI (.pair mI Cp))]
abbrev F42_O : RO := ⟨[.v], [mB]⟩
noncomputable def Ip {β : Type} (k : Nat) (v : (den fin)) (K : KT β) : Ex → St → Option β := Cz (Da k) Tryz.f42 (PsT.put Xl1 (v, ())) K
def Xfw (v : (den fin)) : St := ⟨(.one .d) :: (.one (.ptr (.cell 1000) 24 0)) :: dz 188 [], Bc 1000 (Cb (.pair mI (.pair mI Cp)) v) []⟩
def Xfv (v : (den fin)) : St := ⟨(.one .d) :: (.one (.ptr (.cell 1000) 24 0)) :: dz 188 [], Bc 1000 (Cb (.pair mI (.pair mI Cp)) v) []⟩
def Xd3 (v : (den fin)) : St := ⟨(.one .d) :: (.one (.ptr (.cell 1000) 24 0)) :: dz 188 [], Bc 1000 (Cb (.pair mI (.pair mI Cp)) v) []⟩
def Xe2 (v : (den fin)) : St := ⟨(.one .d) :: (.one (.ptr (.cell 1000) 24 0)) :: dz 188 [], Bc 1000 (Cb (.pair mI (.pair mI Cp)) v) []⟩
def Xnq (v : (den fin)) : St := ⟨(.one .d) :: (.one (.ptr (.cell 1000) 24 0)) :: dz 188 [], Bc 1000 (Cb (.pair mI (.pair mI Cp)) v) []⟩
def Yf {β : Type} (RET : Bool → Option β) (k : Nat) (v : (den fin)) : Option β := cond (v.2.2.2.2.2.2.2.2.2.2.2.1 == (-1)) (RET true) ((Gf k v.2.2.2.2.2.2.2.2.2.2.2.1 v.2.2.2.2.2.2.2.1.1 1000000).bind fun b109 => RET b109)
def Ot {β : Type} (k : Nat) (v : (den fin)) (RET : Bool → Option β) : Option β := Yf RET k v
theorem Xsf {β γ : Type} (k : Nat) (v : (den fin)) (RET : Bool → Option β) (g : β → Option γ) : (Ot k v RET).bind g = Ot k v (fun r => (RET r).bind g) := by
 simp only [Ot, Yf, z1, z2, z4]
theorem Xl6 {β : Type} (k : Nat) (v : (den fin)) (K : KT β) : G5 (Da k) (Ac [1, 1, 1, 1, 1, 1, 1] (Aa Tryz.f42)) (Ip k v K) (Xnq v) = Ot k v (fun r => K (F42_O.put r)) := by kernel_rfl
def Qn {β : Type} (RET : Bool → Option β) (GT : Option β) (k : Nat) (v : (den fin)) : Option β := cond (decide ((v.2.2.2.2.2.2.2.1.2.2.2.length : Int) > 0)) (cond (v.2.2.2.2.2.2.2.2.2.2.2.1 != (-1)) (Bi (i64.wrap ((v.2.2.2.2.2.2.2.1.2.2.2.length : Int) - 1)) v.2.2.2.2.2.2.2.1.2.2.2 (cond (decide ((Bd v.2.2.2.2.2.2.2.1.2.2.2 (i64.wrap ((v.2.2.2.2.2.2.2.1.2.2.2.length : Int) - 1))).1 ≥ v.2.2.2.2.2.2.2.2.2.2.2.1)) (RET false) GT)) GT) GT
def Jf {β : Type} (k : Nat) (v : (den fin)) (RET : Bool → Option β) : Option β := Qn RET (Ot k v RET) k v
theorem Xnj {β γ : Type} (k : Nat) (v : (den fin)) (RET : Bool → Option β) (g : β → Option γ) : (Jf k v RET).bind g = Jf k v (fun r => (RET r).bind g) := by
 simp only [Jf, Qn, z1, z2, z4, Xsf]
theorem Xsq {β : Type} (k : Nat) (v : (den fin)) (t : St → Option β) (K : KT β) : Qi (Da k) (Ac [1, 1, 1, 1, 1, 1, 0] (Aa Tryz.f42)) (Xe2 v) (Is (Da k) Xdb t (Ip k v K)) =
  Qn (fun r => K (F42_O.put r)) (t (Xnq v)) k v := by kernel_rfl
theorem Xrx : (Ac [1, 1, 1, 1, 1, 1] (Aa Tryz.f42)) = (.seq (Ac [1, 1, 1, 1, 1, 1, 0] (Aa Tryz.f42)) (Ac [1, 1, 1, 1, 1, 1, 1] (Aa Tryz.f42))) := by kernel_rfl
theorem Xrg {β : Type} (k : Nat) (v : (den fin)) (K : KT β) : G5 (Da k) (Ac [1, 1, 1, 1, 1, 1] (Aa Tryz.f42)) (Ip k v K) (Xe2 v) = Jf k v (fun r => K (F42_O.put r)) := by
 rw [Xrx, Dj, B1 (c := (Ac [1, 1, 1, 1, 1, 1, 1] (Aa Tryz.f42))) (i := 14) (h := Xdb) (by kernel_rfl) rfl, Xsq]
 simp only [Xl6, Jf]
def Qp {β : Type} (RET : Bool → Option β) (GT : Option β) (k : Nat) (v : (den fin)) : Option β := cond (!((decide (v.2.2.2.2.1 > 0)) == (decide (v.1 ≥ 2)))) (RET false) ((U6 k v).bind fun b108 => cond (!b108) (cond (decide (v.2.2.2.2.2.2.2.2.2.2.2.2.1 > 0)) (RET false) (cond (decide (v.2.2.2.2.2.2.2.2.2.2.2.2.2.1 > 0)) (cond (v.1 != 5) (RET false) GT) GT)) GT)
def I8 {β : Type} (k : Nat) (v : (den fin)) (RET : Bool → Option β) : Option β := Qp RET (Jf k v RET) k v
theorem Xpz {β γ : Type} (k : Nat) (v : (den fin)) (RET : Bool → Option β) (g : β → Option γ) : (I8 k v RET).bind g = I8 k v (fun r => (RET r).bind g) := by
 simp only [I8, Qp, z1, z2, z4, Xnj]
theorem Xsr {β : Type} (k : Nat) (v : (den fin)) (t : St → Option β) (K : KT β) : Qi (Da k) (Ac [1, 1, 1, 1, 1, 0] (Aa Tryz.f42)) (Xd3 v) (Is (Da k) Xdj t (Ip k v K)) =
  Qp (fun r => K (F42_O.put r)) (t (Xe2 v)) k v := by kernel_rfl
theorem Xl9 : (Ac [1, 1, 1, 1, 1] (Aa Tryz.f42)) = (.seq (Ac [1, 1, 1, 1, 1, 0] (Aa Tryz.f42)) (Ac [1, 1, 1, 1, 1, 1] (Aa Tryz.f42))) := by kernel_rfl
theorem Xqj {β : Type} (k : Nat) (v : (den fin)) (K : KT β) : G5 (Da k) (Ac [1, 1, 1, 1, 1] (Aa Tryz.f42)) (Ip k v K) (Xd3 v) = I8 k v (fun r => K (F42_O.put r)) := by
 rw [Xl9, Dj, B1 (c := (Ac [1, 1, 1, 1, 1, 1] (Aa Tryz.f42))) (i := 11) (h := Xdj) (by kernel_rfl) rfl, Xsr]
 simp only [Xrg, I8]
def Qw {β : Type} (RET : Bool → Option β) (GT : Option β) (k : Nat) (v : (den fin)) : Option β := cond (decide (v.1 < 4)) (cond (decide (v.2.2.2.2.2.2.1.2.2.1 > 0)) (RET false) (cond (v.2.2.2.2.2.2.1.1 != (i64.wrap (v.2.2.2.2.2.1 + 1))) (RET false) (cond (v.2.2.2.2.2.2.2.2.2.2.2.1 != (-1)) (RET false) GT))) GT
def Dp {β : Type} (k : Nat) (v : (den fin)) (RET : Bool → Option β) : Option β := Qw RET (I8 k v RET) k v
theorem Xo5 {β γ : Type} (k : Nat) (v : (den fin)) (RET : Bool → Option β) (g : β → Option γ) : (Dp k v RET).bind g = Dp k v (fun r => (RET r).bind g) := by
 simp only [Dp, Qw, z1, z2, z4, Xpz]
theorem Xss {β : Type} (k : Nat) (v : (den fin)) (t : St → Option β) (K : KT β) : Qi (Da k) (Ac [1, 1, 1, 1, 0] (Aa Tryz.f42)) (Xfv v) (Is (Da k) Xeo t (Ip k v K)) =
  Qw (fun r => K (F42_O.put r)) (t (Xd3 v)) k v := by kernel_rfl
theorem Xmw : (Ac [1, 1, 1, 1] (Aa Tryz.f42)) = (.seq (Ac [1, 1, 1, 1, 0] (Aa Tryz.f42)) (Ac [1, 1, 1, 1, 1] (Aa Tryz.f42))) := by kernel_rfl
theorem Xn6 {β : Type} (k : Nat) (v : (den fin)) (K : KT β) : G5 (Da k) (Ac [1, 1, 1, 1] (Aa Tryz.f42)) (Ip k v K) (Xfv v) = Dp k v (fun r => K (F42_O.put r)) := by
 rw [Xmw, Dj, B1 (c := (Ac [1, 1, 1, 1, 1] (Aa Tryz.f42))) (i := 9) (h := Xeo) (by kernel_rfl) rfl, Xss]
 simp only [Xqj, Dp]
def Ql {β : Type} (RET : Bool → Option β) (GT : Option β) (k : Nat) (v : (den fin)) : Option β := Ao v fun v0 _ _ _ _ v5 v6 v7 v8 _ _ _ _ _ _ v15 v16 v17 _ v19 v20 v21 v22 v23 => (Un k v.2.2.2.2.2.2.1).bind fun b103 => cond (!b103) (RET false) (cond (decide (v6 ≤ v5)) (RET false) ((Qj k v.2.2.2.2.2.2.2.1).bind fun b104 => cond (!b104) (RET false) ((Xfm k (v21, v22, v23)).bind fun b105 => cond (!b105) (RET false) ((Gf k v19 0 1000000).bind fun b106 => cond (!b106) (RET false) ((Gf k v20 0 8).bind fun b107 => cond (!b107) (RET false) (cond v17 (cond (!v16) (RET false) (cond v16 (cond (!v15) (RET false) (cond (decide (v8 < (v7.length : Int))) (RET false) (cond (decide (v0 < 4)) (RET false) GT))) GT)) (cond v16 (cond (!v15) (RET false) (cond (decide (v8 < (v7.length : Int))) (RET false) (cond (decide (v0 < 4)) (RET false) GT))) GT)))))))
def Ll {β : Type} (k : Nat) (v : (den fin)) (RET : Bool → Option β) : Option β := Ql RET (Dp k v RET) k v
theorem Xl8 {β γ : Type} (k : Nat) (v : (den fin)) (RET : Bool → Option β) (g : β → Option γ) : (Ll k v RET).bind g = Ll k v (fun r => (RET r).bind g) := by
 simp only [Ll, Ql, Ao, z1, z2, z4, Xo5]
theorem Xk8 {β : Type} (k : Nat) (v : (den fin)) (t : St → Option β) (K : KT β) : Qi (Da k) (Ac [1, 1, 0] (Aa Tryz.f42)) (Xfw v) (Cc (Da k) (Ac [1, 1, 1, 0] (Aa Tryz.f42)) 0 (Is (Da k) Xfj t (Ip k v K))) =
  Ql (fun r => K (F42_O.put r)) (t (Xfv v)) k v := by kernel_rfl
theorem Xm8 : (Ac [1, 1] (Aa Tryz.f42)) = (.seq (Ac [1, 1, 0] (Aa Tryz.f42)) (.seq (Ac [1, 1, 1, 0] (Aa Tryz.f42)) (Ac [1, 1, 1, 1] (Aa Tryz.f42)))) := by kernel_rfl
theorem Xpa {β : Type} (k : Nat) (v : (den fin)) (K : KT β) : G5 (Da k) (Ac [1, 1] (Aa Tryz.f42)) (Ip k v K) (Xfw v) = Ll k v (fun r => K (F42_O.put r)) := by
 rw [Xm8, Dj, Bl, B1 (c := (Ac [1, 1, 1, 1] (Aa Tryz.f42))) (i := 7) (h := Xfj) (by kernel_rfl) rfl, Xk8]
 simp only [Xn6, Ll]
def Z3 {β : Type} (RET : Bool → Option β) (GT : Option β) (k : Nat) (v : (den fin)) : Option β := (Gf k v.1 0 5).bind fun b92 => cond (!b92) (RET false) ((Gf k v.2.1 0 65535).bind fun b93 => cond (!b93) (RET false) ((Gf k v.2.2.2.1 0 65535).bind fun b94 => cond (!b94) (RET false) ((Gf k v.2.2.1 1 255).bind fun b95 => cond (!b95) (RET false) ((Gf k v.2.2.2.2.1 0 255).bind fun b96 => cond (!b96) (RET false) ((Gf k v.2.2.2.2.2.1 0 65535).bind fun b97 => cond (!b97) (RET false) GT)))))
def Rz {β : Type} (k : Nat) (v : (den fin)) (RET : Bool → Option β) : Option β := Z3 RET (Ll k v RET) k v
theorem Xwo {β γ : Type} (k : Nat) (v : (den fin)) (RET : Bool → Option β) (g : β → Option γ) : (Rz k v RET).bind g = Rz k v (fun r => (RET r).bind g) := by
 simp only [Rz, Z3, Ao, z1, z2, z4, Xl8]
theorem Xu7 {β : Type} (k : Nat) (v : (den fin)) (t : St → Option β) (K : KT β) : Bb (Da k) (Ac [0] (Aa Tryz.f42)) 0 ⟨(.agg (Cb (.pair mI (.pair mI Cp)) v)) :: uz 189 [], []⟩ (Cc (Da k) (Ac [1, 0] (Aa Tryz.f42)) 0 (Is (Da k) Xd6 t (Ip k v K))) =
  Z3 (fun r => K (F42_O.put r)) (t (Xfw v)) k v := by kernel_rfl
theorem Xto : (Ac [] (Aa Tryz.f42)) = (.seq (Ac [0] (Aa Tryz.f42)) (.seq (Ac [1, 0] (Aa Tryz.f42)) (Ac [1, 1] (Aa Tryz.f42)))) := by kernel_rfl
theorem Xv0 {β : Type} (k : Nat) (v : (den fin)) (K : KT β) : Bb (Da k) (Ac [] (Aa Tryz.f42)) 0 ⟨(.agg (Cb (.pair mI (.pair mI Cp)) v)) :: uz 189 [], []⟩ (Ip k v K) = Rz k v (fun r => K (F42_O.put r)) := by
 rw [Xto, Oo, Bl, B1 (c := (Ac [1, 1] (Aa Tryz.f42))) (i := 3) (h := Xd6) (by kernel_rfl) rfl, Xu7]
 simp only [Xpa, Rz]
def F42 (k : Nat) (v : (den fin)) : Option (Bool) := Rz k v some
theorem X2n {β : Type} (k : Nat) (v : (den fin)) (K : KT β) : Ah (Da k) Tryz.f42 (PsT.put Xl1 (v, ())) K = (F42 k v).bind fun r => K (F42_O.put r) := by
 refine Eq.trans (b := Bb (Da k) (Ac [] (Aa Tryz.f42)) 0 ⟨(.agg (Cb (.pair mI (.pair mI Cp)) v)) :: uz 189 [], []⟩ (Ip k v K)) (by kernel_rfl) ?_
 rw [Xv0, F42, Xwo]
 simp only [z3]
def Mm (k : Nat) : FD := ⟨42, Xl1, F42_O, F42 k⟩
theorem Pq (k : Nat) : (Mm k).Ok Tryz.prog := ⟨fun x => Ab (Xem Xnn (Af (.c (Er k) (.c (Nn k) (.c (Ns k) (.c (Xoa k) (.c (Xos k) .n)))))) _ _ _ _) Ai Tryz.func42 rfl rfl (X2n k _ some), .of (by kernel_rfl)⟩
abbrev X06 (k : Nat) : Env := Bg (Ay [Xqq k, Mm k]) Aj .own [] k
abbrev Xpe : List PA := [.one mI, .one mI, .one mI, .one mI]
abbrev F134_O : RO := ⟨[.a], [B8]⟩
def Sa {β : Type} (RET : (den fin) → Option β) (k : Nat) (v w p q : Int) : Option β := (Xkh k 0).bind fun b1 => (F42 k (0, v, w, 0, 0, p, (i64.wrap (p + 1), [], 0, 0, []), (0, q, [], []), false, false, false, (-1), 0, 0, b1)).bind fun b2 => cond (!b2) (RET (0, 0, 0, 0, 0, 0, (0, [], 0, 0, []), (0, 0, [], []), false, false, false, 0, 0, 0, 0, 0, 0)) (RET (0, v, w, 0, 0, p, (i64.wrap (p + 1), [], 0, 0, []), (0, q, [], []), false, false, false, (-1), 0, 0, b1))
def U0 := Sa (β := (den fin)) some
theorem Xui {β : Type} (k : Nat) (v w p q : Int) (K : KT β) : Ah (X06 k) Tryz.f134 (PsT.put Xpe (v, w, p, q, ())) K = (U0 k v w p q).bind fun r => K (F134_O.put r) :=
 Eq.trans (b := Sa (fun r => K (F134_O.put r)) k v w p q) (by kernel_rfl) (by simp only [U0, Sa, z1, z2, z3, z4, z5])
def Xng (k : Nat) : FD := ⟨134, Xpe, F134_O, U0 k⟩
theorem X2d (k : Nat) : (Xng k).Ok Tryz.prog := ⟨fun x => Ab (Ak (Af (.c (X02 k) (.c (Pq k) .n))) _ _ _ _) Ai Tryz.func134 rfl rfl (Xui k _ _ _ _ some), .of (by kernel_rfl)⟩
abbrev X22 (k : Nat) : Env := Bg Ca Aj .own [] k
abbrev Xmp : List PA := [.agg (.pair mI m_3)]
abbrev F111_O : RO := ⟨[.a], [.pair mI Zz]⟩
def S7 {β : Type} (RET : (den Co) → Option β) (k : Nat) (v : (den Co)) : Option β := Bn v fun v0 v1 v2 v3 v4 => Bp (([] : Ad).length) (v1.length) 1 (Bp (([] : Ae).length) (v4.length) 16 (RET (v0, [] ++ v1, v2, v3, [] ++ v4)))
def Ur := S7 (β := (den Co)) some
theorem Xs3 {β : Type} (k : Nat) (v : (den Co)) (K : KT β) : Ah (X22 k) Tryz.f111 (PsT.put Xmp (v, ())) K = (Ur k v).bind fun r => K (F111_O.put r) :=
 Eq.trans (b := S7 (fun r => K (F111_O.put r)) k v) (by kernel_rfl) (by simp only [Ur, S7, z1, z2, z3, z4, z5, Bn])
def S8 (k : Nat) : FD := ⟨111, Xmp, F111_O, Ur k⟩
theorem Yo (k : Nat) : (S8 k).Ok Tryz.prog := ⟨fun x => Ab (Ak .none _ _ _ _) Ai Tryz.func111 rfl rfl (Xs3 k _ some), .of (by kernel_rfl)⟩
abbrev X8n (k : Nat) : Env := Bg (Ay [S8 k]) Aj .own [] k
abbrev Xyj : List PA := [.agg (.pair mI (.pair mI Cp))]
abbrev F45_O : RO := ⟨[.a], [B8]⟩
def Xik {β : Type} (RET : (den fin) → Option β) (k : Nat) (v : (den fin)) : Option β := (Ur k v.2.2.2.2.2.2.1).bind fun b1 => Bp (([] : Ad).length) (v.2.2.2.2.2.2.2.1.2.2.1.length) 1 (Bp (([] : Aw).length) (v.2.2.2.2.2.2.2.1.2.2.2.length) 16 (RET (v.1, v.2.1, v.2.2.1, v.2.2.2.1, v.2.2.2.2.1, v.2.2.2.2.2.1, b1, (v.2.2.2.2.2.2.2.1.1, v.2.2.2.2.2.2.2.1.2.1, [] ++ v.2.2.2.2.2.2.2.1.2.2.1, [] ++ v.2.2.2.2.2.2.2.1.2.2.2), v.2.2.2.2.2.2.2.2)))
def F45 := Xik (β := (den fin)) some
theorem X1f {β : Type} (k : Nat) (v : (den fin)) (K : KT β) : Ah (X8n k) Tryz.f45 (PsT.put Xyj (v, ())) K = (F45 k v).bind fun r => K (F45_O.put r) :=
 Eq.trans (b := Xik (fun r => K (F45_O.put r)) k v) (by kernel_rfl) (by simp only [F45, Xik, z1, z2, z3, z4, z5, Ao])
def P7 (k : Nat) : FD := ⟨45, Xyj, F45_O, F45 k⟩
theorem Su (k : Nat) : (P7 k).Ok Tryz.prog := ⟨fun x => Ab (Ak (Af (.c (Yo k) .n)) _ _ _ _) Ai Tryz.func45 rfl rfl (X1f k _ some), .of (by kernel_rfl)⟩
abbrev X1g (k : Nat) : Env := Bg (Ay [Mm k, P7 k]) Aj .own [] k
abbrev Xox : List PA := [.agg (.pair mI (.pair mI Cp))]
abbrev F135_O : RO := ⟨[.a, .v], [B8, mB]⟩
def R5 {β : Type} (RET : (den fin) × Bool → Option β) (k : Nat) (v : (den fin)) : Option β := (F42 k v).bind fun b1 => cond (!b1) (RET ((0, 0, 0, 0, 0, 0, (0, [], 0, 0, []), (0, 0, [], []), false, false, false, 0, 0, 0, 0, 0, 0), false)) ((F45 k v).bind fun b2 => cond (v.1 != 0) (RET (b2, false)) (RET ((1, b2.2), true)))
def Xg := R5 (β := (den fin) × Bool) some
theorem Xw1 {β : Type} (k : Nat) (v : (den fin)) (K : KT β) : Ah (X1g k) Tryz.f135 (PsT.put Xox (v, ())) K = (Xg k v).bind fun r => K (F135_O.put r) :=
 Eq.trans (b := R5 (fun r => K (F135_O.put r)) k v) (by kernel_rfl) (by simp only [Xg, R5, z1, z2, z3, z4, z5, Ao])
def Xnz (k : Nat) : FD := ⟨135, Xox, F135_O, Xg k⟩
theorem X0k (k : Nat) : (Xnz k).Ok Tryz.prog := ⟨fun x => Ab (Ak (Af (.c (Pq k) (.c (Su k) .n))) _ _ _ _) Ai Tryz.func135 rfl rfl (Xw1 k _ some), .of (by kernel_rfl)⟩
end
end Go.Proofs.YtjkkbmkkljpcjaaGreat.Gn
end

section
set_option linter.unusedVariables false
set_option linter.unusedSimpArgs false
namespace Go.Proofs.YtjkkbmkkljpcjaaGreat.Gn
open Go.Rf IntKind
noncomputable section
abbrev X80 (k : Nat) : Env := Bg (Ay [Xel k]) Aj .own [] k
abbrev Xzj : List PA := [.agg (.pair mI (.pair mI Cp)), .one mI, .one mB]
abbrev F48_O : RO := ⟨[.a], [.pair mI (.pair mI Cp)]⟩
def Sz {β : Type} (RET : (den fin) → Option β) (k : Nat) (v : (den fin)) (w : Int) (p : Bool) : Option β := Ao v fun v0 v1 v2 v3 v4 v5 _ _ _ _ _ _ _ _ _ v15 v16 v17 v18 v19 _ v21 v22 v23 => cond p ((U6 k (v0, v1, v2, v3, v4, v5, v.2.2.2.2.2.2.1, v.2.2.2.2.2.2.2.1, v15, v16, v17, v18, v19, 0, v21, v22, v23)).bind fun b1 => cond (!b1) (cond (v0 != 5) (RET (v0, v1, v2, v3, v4, v5, v.2.2.2.2.2.2.1, v.2.2.2.2.2.2.2.1, v15, v16, v17, v18, 0, 0, v21, v22, v23)) (RET (v0, v1, v2, v3, v4, v5, v.2.2.2.2.2.2.1, v.2.2.2.2.2.2.2.1, v15, v16, v17, v18, 0, 0, v21, v22, v23))) (cond p (RET (v0, v1, v2, v3, v4, v5, v.2.2.2.2.2.2.1, v.2.2.2.2.2.2.2.1, v15, v16, v17, v18, i64.wrap (w + v23), 0, v21, v22, v23)) (cond (v19 == 0) (RET (v0, v1, v2, v3, v4, v5, v.2.2.2.2.2.2.1, v.2.2.2.2.2.2.2.1, v15, v16, v17, v18, i64.wrap (w + v23), 0, v21, v22, v23)) (RET (v0, v1, v2, v3, v4, v5, v.2.2.2.2.2.2.1, v.2.2.2.2.2.2.2.1, v15, v16, v17, v18, v19, 0, v21, v22, v23))))) ((U6 k v).bind fun b2 => cond (!b2) (cond (v0 != 5) (RET (v0, v1, v2, v3, v4, v5, v.2.2.2.2.2.2.1, v.2.2.2.2.2.2.2.1, v15, v16, v17, v18, 0, 0, v21, v22, v23)) (RET (v0, v1, v2, v3, v4, v5, v.2.2.2.2.2.2.1, v.2.2.2.2.2.2.2.1, v15, v16, v17, v18, 0, v.2.2.2.2.2.2.2.2.2.2.2.2.2))) (cond p (RET (v0, v1, v2, v3, v4, v5, v.2.2.2.2.2.2.1, v.2.2.2.2.2.2.2.1, v15, v16, v17, v18, i64.wrap (w + v23), v.2.2.2.2.2.2.2.2.2.2.2.2.2)) (cond (v19 == 0) (RET (v0, v1, v2, v3, v4, v5, v.2.2.2.2.2.2.1, v.2.2.2.2.2.2.2.1, v15, v16, v17, v18, i64.wrap (w + v23), v.2.2.2.2.2.2.2.2.2.2.2.2.2)) (RET v))))
def Jz := Sz (β := (den fin)) some
theorem X1h {β : Type} (k : Nat) (v : (den fin)) (w : Int) (p : Bool) (K : KT β) : Ah (X80 k) Tryz.f48 (PsT.put Xzj (v, w, p, ())) K = (Jz k v w p).bind fun r => K (F48_O.put r) :=
 Eq.trans (b := Sz (fun r => K (F48_O.put r)) k v w p) (by kernel_rfl) (by simp only [Jz, Sz, z1, z2, z3, z4, z5, Ao])
def Xci (k : Nat) : FD := ⟨48, Xzj, F48_O, Jz k⟩
theorem Xhd (k : Nat) : (Xci k).Ok Tryz.prog := ⟨fun x => Ab (Ak (Af (.c (Xos k) .n)) _ _ _ _) Ai Tryz.func48 rfl rfl (X1h k _ _ _ some), .of (by kernel_rfl)⟩
abbrev X8v (k : Nat) : Env := Bg Ca Aj .own [] k
abbrev Xx6 : List PA := [.one mI]
abbrev F46_O : RO := ⟨[.v], [mI]⟩
def Xaf {β : Type} (RET : Int → Option β) (k : Nat) (v : Int) : Option β := cond (decide ((v.tmod 65536) < 0)) (RET (i64.wrap ((v.tmod 65536) + 65536))) (RET (v.tmod 65536))
def Up := Xaf (β := Int) some
theorem Xzm {β : Type} (k : Nat) (v : Int) (K : KT β) : Ah (X8v k) Tryz.f46 (PsT.put Xx6 (v, ())) K = (Up k v).bind fun r => K (F46_O.put r) :=
 Eq.trans (b := Xaf (fun r => K (F46_O.put r)) k v) (by kernel_rfl) (by simp only [Up, Xaf, z1, z2, z3, z4, z5])
def V9 (k : Nat) : FD := ⟨46, Xx6, F46_O, Up k⟩
theorem Xbd (k : Nat) : (V9 k).Ok Tryz.prog := ⟨fun x => Ab (Ak .none _ _ _ _) Ai Tryz.func46 rfl rfl (Xzm k _ some), .of (by kernel_rfl)⟩
abbrev X7b (k : Nat) : Env := Bg Ca Aj .own [] k
abbrev Xx5 : List PA := [.agg (.pair mI (.pair mI Cp))]
abbrev F47_O : RO := ⟨[.v], [mI]⟩
def Sf (k : Nat) (v : (den fin)) : Option (Int) := cond (v.2.2.2.2.2.2.2.2.2.2.2.1 == v.2.2.2.2.2.2.2.1.1) (some (i64.wrap (v.2.2.2.2.2.2.2.1.1 + 1))) (some v.2.2.2.2.2.2.2.1.1)
theorem X2b {β : Type} (k : Nat) (v : (den fin)) (K : KT β) : Ah (X7b k) Tryz.f47 (PsT.put Xx5 (v, ())) K = (Sf k v).bind fun r => K (F47_O.put r) :=
 Eq.trans (b := cond (v.2.2.2.2.2.2.2.2.2.2.2.1 == v.2.2.2.2.2.2.2.1.1) (K (F47_O.put (i64.wrap (v.2.2.2.2.2.2.2.1.1 + 1)))) (K (F47_O.put v.2.2.2.2.2.2.2.1.1))) (by kernel_rfl) (by simp only [Sf, z1, z2, z3, z4, z5, Ao])
def Xf6 (k : Nat) : FD := ⟨47, Xx5, F47_O, Sf k⟩
theorem Xm6 (k : Nat) : (Xf6 k).Ok Tryz.prog := ⟨fun x => Ab (Ak .none _ _ _ _) Ai Tryz.func47 rfl rfl (X2b k _ some), .of (by kernel_rfl)⟩
abbrev X56 (k : Nat) : Env := Bg (Ay [Lm k]) Aj .own [] k
abbrev Xq7 : List PA := [.agg (.pair mI (.pair mI U7))]
abbrev F114_O : RO := ⟨[.v], [mI]⟩
def Jx (k : Nat) (v : (den A9)) : Option (Int) := (Qj k v).bind fun b1 => cond (!b1) (some 0) (some (i64.wrap (v.2.1 - (v.2.2.1.length : Int))))
theorem Xs2 {β : Type} (k : Nat) (v : (den A9)) (K : KT β) : Ah (X56 k) Tryz.f114 (PsT.put Xq7 (v, ())) K = (Jx k v).bind fun r => K (F114_O.put r) :=
 Eq.trans (b := (Qj k v).bind fun b1 => cond (!b1) (K (F114_O.put 0)) (K (F114_O.put (i64.wrap (v.2.1 - (v.2.2.1.length : Int)))))) (by kernel_rfl) (by simp only [Jx, z1, z2, z3, z4, z5, Bs])
def Rv (k : Nat) : FD := ⟨114, Xq7, F114_O, Jx k⟩
theorem Yq (k : Nat) : (Rv k).Ok Tryz.prog := ⟨fun x => Ab (Ak (Af (.c (Ns k) .n)) _ _ _ _) Ai Tryz.func114 rfl rfl (Xs2 k _ some), .of (by kernel_rfl)⟩
def X20 : Nat → Hint
 | 0 => ⟨pl 1 1 ((3, .own .own Ap []) :: (pl 4 1 [])), pl 1000 4 []⟩
 | _ => ⟨[], []⟩
abbrev Xk (k : Nat) : Env := Bg (Ay [Lm k]) X20 .own [] k
abbrev Xe5 : List PA := [.agg (.pair mI (.pair mI U7))]
abbrev F115_O : RO := ⟨[.v], [.sl .own Ap]⟩
noncomputable def X0j {β : Type} (k : Nat) (v : (den A9)) (K : KT β) : Ex → St → Option β := Cz (Xk k) Tryz.f115 (PsT.put Xe5 (v, ())) K
def Xvt (v : (den A9)) (x4_0 : Int) (m3900_0 : Ae) : St := ⟨(.one .d) :: (.one (.ptr (.cell 1000) 4 0)) :: (.one .d) :: (.one (.a (.cell 3900) 0 0 none)) :: (.one (vI x4_0)) :: dz 63 [], Bc 1000 (Cb (.pair mI (.pair mI U7)) v) [eM 3900 (.s .own Ap m3900_0)]⟩
noncomputable def Ow {β : Type} (k : Nat) (v : (den A9)) (K : KT β) (n : Nat) (x4_0 : Int) (m3900_0 : Ae) : Option β := Bu (Xk k) Tryz.f115 [1, 1, 1, 0, 1, 0] 0 (A1 (Xk k) [1, 1, 1, 0, 1, 0] (Aa Tryz.f115) 0 (X0j k v K)) n (Xvt v x4_0 m3900_0)
def Hw {β : Type} (k : Nat) (v : (den A9)) (NX : Int → Ae → Option β) (RET : Ae → Option β) (m3900_0 : Ae) (x4_0 : Int) : Option β := Bs v fun _ _ _ v3 => cond (decide ((m3900_0.length : Int) < 2)) (Bi x4_0 v3 (Bi x4_0 v3 (Bp (m3900_0.length) ([((Bd v3 x4_0).1, i64.wrap ((Bd v3 x4_0).1 + 1))].length) 16 (NX (i64.wrap (x4_0 + 1)) (m3900_0 ++ [((Bd v3 x4_0).1, i64.wrap ((Bd v3 x4_0).1 + 1))]))))) (NX (i64.wrap (x4_0 + 1)) m3900_0)
def G2 {β : Type} (NX : Int → Ae → Option β) (RET : Ae → Option β) (k : Nat) (v : (den A9)) (x4_0 : Int) (m3900_0 : Ae) : Option β := cond (decide (x4_0 < (v.2.2.2.length : Int))) (cond (decide ((i64.wrap ((m3900_0.length : Int) - 1)) ≥ 0)) (Bi (i64.wrap ((m3900_0.length : Int) - 1)) m3900_0 (Bi x4_0 v.2.2.2 (cond ((Bd m3900_0 (i64.wrap ((m3900_0.length : Int) - 1))).2 == (Bd v.2.2.2 x4_0).1) (Bi (i64.wrap ((m3900_0.length : Int) - 1)) m3900_0 (Bi (i64.wrap ((m3900_0.length : Int) - 1)) m3900_0 (NX (i64.wrap (x4_0 + 1)) (m3900_0.set ((i64.wrap ((m3900_0.length : Int) - 1)).toNat) ((Bd m3900_0 (i64.wrap ((m3900_0.length : Int) - 1))).1, i64.wrap ((Bd m3900_0 (i64.wrap ((m3900_0.length : Int) - 1))).2 + 1)))))) (Hw k v NX RET m3900_0 x4_0)))) (Hw k v NX RET m3900_0 x4_0)) (RET m3900_0)
def Im (k : Nat) (v : (den A9)) : Nat → Int → Ae → Option (Ae)
 | 0, _, _ => none
 | n + 1, x4_0, m3900_0 => G2 (Im k v n) some k v x4_0 m3900_0
theorem Xdc {β : Type} (k : Nat) (v : (den A9)) (K : KT β) (n : Nat) : ∀ (x4_0 : Int) (m3900_0 : Ae), Ow k v K n x4_0 m3900_0 =
  (Im k v n x4_0 m3900_0).bind fun r => K (F115_O.put r) := by
 induction n with
 | zero => intros; rfl
 | succ n ih =>
  intro x4_0 m3900_0
  refine Eq.trans (b := G2 (Ow k v K n) (fun r => K (F115_O.put r)) k v x4_0 m3900_0) (by kernel_rfl) ?_
  rw [Im]
  simp only [G2, Hw, z1, z2, z3, z4, z5, Bs, ih]
def Ua {β : Type} (LP0 : Int → Ae → Option β) (RET : Ae → Option β) (k : Nat) (v : (den A9)) : Option β := (Qj k v).bind fun b1 => cond (!b1) (RET []) (LP0 0 [])
def Xau (k : Nat) (v : (den A9)) : Option (Ae) := Ua (Im k v k) some k v
theorem Xsy {β : Type} (k : Nat) (v : (den A9)) (K : KT β) : Ah (Xk k) Tryz.f115 (PsT.put Xe5 (v, ())) K = (Xau k v).bind fun r => K (F115_O.put r) :=
 Eq.trans (b := Ua (Ow k v K k) (fun r => K (F115_O.put r)) k v) (by kernel_rfl) (by simp only [Xau, Ua, z1, z2, z3, z4, z5, Bs, Xdc])
def Xru (k : Nat) : FD := ⟨115, Xe5, F115_O, Xau k⟩
theorem X14 (k : Nat) : (Xru k).Ok Tryz.prog := ⟨fun x => Ab (Ak (Af (.c (Ns k) .n)) _ _ _ _) Ai Tryz.func115 rfl rfl (Xsy k _ some), .of (by kernel_rfl)⟩
def X62 : Nat → Hint
 | 0 => ⟨pl 4 4 [], pl 4000 11 (pl 5000 9 ((5009, .own .own Ap []) :: (pl 5010 1 (pl 30000 1 []))))⟩
 | _ => ⟨[], []⟩
abbrev Xhy (k : Nat) : Env := Bg (Ay [V9 k, Xf6 k, Rv k, Xru k]) X62 .own [] k
abbrev Xm7 : List PA := [.agg (.pair mI (.pair mI Cp)), .one mI]
abbrev F51_O : RO := ⟨[.a], [Ji]⟩
noncomputable def X8k {β : Type} (k : Nat) (v : (den fin)) (w : Int) (K : KT β) : Ex → St → Option β := Cz (Xhy k) Tryz.f51 (PsT.put Xm7 (v, w, ())) K
def X1u (v : (den fin)) (w : Int) (x7_0 : Int) (m5000_0 : (den seg)) (m30000_0 : Ae) : St := ⟨dz 4 ((.one (.ptr (.cell 4000) 11 0)) :: (.one (.ptr (.cell 5000) 11 0)) :: (.one (.a (.cell 30000) 0 0 none)) :: (.one (vI x7_0)) :: dz 48 []), Bc 4000 (Cb Ji (0, 0, 0, 0, 0, false, false, false, false, [], [])) (Bc 5000 (Cb Ji m5000_0) [eM 30000 (.s .own Ap m30000_0)])⟩
noncomputable def Ry {β : Type} (k : Nat) (v : (den fin)) (w : Int) (K : KT β) (n : Nat) (x7_0 : Int) (m5000_0 : (den seg)) (m30000_0 : Ae) : Option β := Bu (Xhy k) Tryz.f51 [1, 1, 1, 1, 1, 1, 1, 0, 1, 0] 0 (A1 (Xhy k) [1, 1, 1, 1, 1, 1, 1, 0, 1, 0] (Aa Tryz.f51) 0 (X8k k v w K)) n (X1u v w x7_0 m5000_0 m30000_0)
def Jb {β : Type} (NX : Int → (den seg) → Ae → Option β) (RET : (den seg) → Option β) (k : Nat) (v : (den fin)) (w : Int) (x7_0 : Int) (m5000_0 : (den seg)) (m30000_0 : Ae) : Option β := cond (decide (x7_0 < (m30000_0.length : Int))) (Bi x7_0 m30000_0 ((Up k (Bd m30000_0 x7_0).1).bind fun b6 => Bi x7_0 m30000_0 ((Up k (Bd m30000_0 x7_0).2).bind fun b7 => Bp (m5000_0.2.2.2.2.2.2.2.2.2.1.length) ([(b6, b7)].length) 16 (NX (i64.wrap (x7_0 + 1)) (m5000_0.1, m5000_0.2.1, m5000_0.2.2.1, m5000_0.2.2.2.1, m5000_0.2.2.2.2.1, m5000_0.2.2.2.2.2.1, m5000_0.2.2.2.2.2.2.1, m5000_0.2.2.2.2.2.2.2.1, m5000_0.2.2.2.2.2.2.2.2.1, m5000_0.2.2.2.2.2.2.2.2.2.1 ++ [(b6, b7)], m5000_0.2.2.2.2.2.2.2.2.2.2) m30000_0)))) (RET m5000_0)
def Jc (k : Nat) (v : (den fin)) (w : Int) : Nat → Int → (den seg) → Ae → Option ((den seg))
 | 0, _, _, _ => none
 | n + 1, x7_0, m5000_0, m30000_0 => Jb (Jc k v w n) some k v w x7_0 m5000_0 m30000_0
theorem Xko {β : Type} (k : Nat) (v : (den fin)) (w : Int) (K : KT β) (n : Nat) : ∀ (x7_0 : Int) (m5000_0 : (den seg)) (m30000_0 : Ae), Ry k v w K n x7_0 m5000_0 m30000_0 =
  (Jc k v w n x7_0 m5000_0 m30000_0).bind fun r => K (F51_O.put r) := by
 induction n with
 | zero => intros; rfl
 | succ n ih =>
  intro x7_0 m5000_0 m30000_0
  refine Eq.trans (b := Jb (Ry k v w K n) (fun r => K (F51_O.put r)) k v w x7_0 m5000_0 m30000_0) (by kernel_rfl) ?_
  rw [Jc]
  simp only [Jb, z1, z2, z3, z4, z5, Ao, ih]
def Wt {β : Type} (LP0 : Int → (den seg) → Ae → Option β) (RET : (den seg) → Option β) (k : Nat) (v : (den fin)) (w : Int) : Option β := (Up k w).bind fun b1 => cond (v.1 == 2) (RET (v.2.2.1, v.2.2.2.2.1, b1, 0, 0, false, false, false, false, [], [])) ((Sf k v).bind fun b2 => (Up k b2).bind fun b3 => (Jx k v.2.2.2.2.2.2.2.1).bind fun b4 => (Xau k v.2.2.2.2.2.2.2.1).bind fun b5 => LP0 0 (v.2.2.1, v.2.2.2.2.1, b1, b3, b4, false, true, false, false, [], []) b5)
def Wd (k : Nat) (v : (den fin)) (w : Int) : Option ((den seg)) := Wt (Jc k v w k) some k v w
theorem X2u {β : Type} (k : Nat) (v : (den fin)) (w : Int) (K : KT β) : Ah (Xhy k) Tryz.f51 (PsT.put Xm7 (v, w, ())) K = (Wd k v w).bind fun r => K (F51_O.put r) :=
 Eq.trans (b := Wt (Ry k v w K k) (fun r => K (F51_O.put r)) k v w) (by kernel_rfl) (by simp only [Wd, Wt, z1, z2, z3, z4, z5, Ao, Xko])
def Rr (k : Nat) : FD := ⟨51, Xm7, F51_O, Wd k⟩
theorem Wm (k : Nat) : (Rr k).Ok Tryz.prog := ⟨fun x => Ab (Ak (Af (.c (Xbd k) (.c (Xm6 k) (.c (Yq k) (.c (X14 k) .n))))) _ _ _ _) Ai Tryz.func51 rfl rfl (X2u k _ _ some), .of (by kernel_rfl)⟩
abbrev X65 (k : Nat) : Env := Bg (Ay [Rr k]) Aj .own [] k
abbrev Xx8 : List PA := [.agg (.pair mI (.pair mI Cp))]
abbrev F49_O : RO := ⟨[.a], [Ji]⟩
def Xbl {β : Type} (RET : (den seg) → Option β) (k : Nat) (v : (den fin)) : Option β := (Wd k v v.2.2.2.2.2.1).bind fun b1 => RET (b1.1, b1.2.1, b1.2.2.1, b1.2.2.2.1, b1.2.2.2.2.1, true, b1.2.2.2.2.2.2)
def F49 := Xbl (β := (den seg)) some
theorem X4q {β : Type} (k : Nat) (v : (den fin)) (K : KT β) : Ah (X65 k) Tryz.f49 (PsT.put Xx8 (v, ())) K = (F49 k v).bind fun r => K (F49_O.put r) :=
 Eq.trans (b := Xbl (fun r => K (F49_O.put r)) k v) (by kernel_rfl) (by simp only [F49, Xbl, z1, z2, z3, z4, z5, Ao])
def Xhn (k : Nat) : FD := ⟨49, Xx8, F49_O, F49 k⟩
theorem Xri (k : Nat) : (Xhn k).Ok Tryz.prog := ⟨fun x => Ab (Ak (Af (.c (Wm k) .n)) _ _ _ _) Ai Tryz.func49 rfl rfl (X4q k _ some), .of (by kernel_rfl)⟩
abbrev X2e (k : Nat) : Env := Bg (Ay [Mm k, Ej k, P7 k, Xci k, Xhn k]) Aj .ro [] k
abbrev Xms : List PA := [.agg (.pair mI (.pair mI Cp)), .one mI, .one mI, .one mI]
abbrev F136_O : RO := ⟨[.a, .v], [.pair mI (.pair mI Cp), .sl .ro seg]⟩
def Sp {β : Type} (RET : (den fin) × Al → Option β) (k : Nat) (v : (den fin)) (w p q : Int) : Option β := (F42 k v).bind fun b1 => cond (!b1) (RET ((0, 0, 0, 0, 0, 0, (0, [], 0, 0, []), (0, 0, [], []), false, false, false, 0, 0, 0, 0, 0, 0), [])) ((Gf k w 0 65535).bind fun b2 => cond (!b2) (RET ((0, 0, 0, 0, 0, 0, (0, [], 0, 0, []), (0, 0, [], []), false, false, false, 0, 0, 0, 0, 0, 0), [])) ((Gf k p 1 255).bind fun b3 => cond (!b3) (RET ((0, 0, 0, 0, 0, 0, (0, [], 0, 0, []), (0, 0, [], []), false, false, false, 0, 0, 0, 0, 0, 0), [])) ((Gf k q 0 900000).bind fun b4 => cond (!b4) (RET ((0, 0, 0, 0, 0, 0, (0, [], 0, 0, []), (0, 0, [], []), false, false, false, 0, 0, 0, 0, 0, 0), [])) ((F45 k v).bind fun b5 => cond (v.1 != 0) (RET (b5, [])) ((Jz k (2, b5.2.1, b5.2.2.1, w, p, b5.2.2.2.2.2) q true).bind fun b6 => (F49 k b6).bind fun b7 => RET (b6, [b7]))))))
def Xai := Sp (β := (den fin) × Al) some
theorem Xtg {β : Type} (k : Nat) (v : (den fin)) (w p q : Int) (K : KT β) : Ah (X2e k) Tryz.f136 (PsT.put Xms (v, w, p, q, ())) K = (Xai k v w p q).bind fun r => K (F136_O.put r) :=
 Eq.trans (b := Sp (fun r => K (F136_O.put r)) k v w p q) (by kernel_rfl) (by simp only [Xai, Sp, z1, z2, z3, z4, z5, Ao])
def Xpi (k : Nat) : FD := ⟨136, Xms, F136_O, Xai k⟩
theorem X54 (k : Nat) : (Xpi k).Ok Tryz.prog := ⟨fun x => Ab (Ak (Af (.c (Pq k) (.c (Er k) (.c (Su k) (.c (Xhd k) (.c (Xri k) .n)))))) _ _ _ _) Ai Tryz.func136 rfl rfl (Xtg k _ _ _ _ some), .of (by kernel_rfl)⟩
def X6n : Nat → Hint
 | 0 => ⟨pl 0 2 ((5, .own .own (.int .u8) []) :: []), pl 0 2 []⟩
 | _ => ⟨[], []⟩
abbrev Xib (k : Nat) : Env := Bg (Ay [Rk k]) X6n .own [(false, 0), (false, 1)] k
abbrev Xk2 : List PA := [.p m_1, .one mI]
abbrev F95_O : RO := ⟨[.v], [.sl .own (.int .u8), m_1]⟩
noncomputable def X8a {β : Type} (k : Nat) (v : (Ad × Int)) (w : Int) (K : KT β) : Ex → St → Option β := Cz (Xib k) Tryz.f95 (PsT.put Xk2 (v, w, ())) K
def Xz8 (v : (Ad × Int)) (w : Int) (x1_0 : Int) (m0_0 : (Ad × Int)) (m5900_0 : Ad) : St := ⟨(.one (.ptr (.cell 0) 2 0)) :: (.one (vI x1_0)) :: dz 3 ((.one (.a (.cell 5900) 0 0 none)) :: dz 22 []), Bc 0 (Cb m_1 m0_0) [eM 5900 (.s .own (.int .u8) m5900_0)]⟩
noncomputable def Se {β : Type} (k : Nat) (v : (Ad × Int)) (w : Int) (K : KT β) (n : Nat) (x1_0 : Int) (m0_0 : (Ad × Int)) (m5900_0 : Ad) : Option β := Bu (Xib k) Tryz.f95 [1, 1, 0, 0] 0 (A1 (Xib k) [1, 1, 0, 0] (Aa Tryz.f95) 0 (X8a k v w K)) n (Xz8 v w x1_0 m0_0 m5900_0)
def Jh {β : Type} (NX : Int → (Ad × Int) → Ad → Option β) (RET : (Ad × (Ad × Int)) → Option β) (k : Nat) (v : (Ad × Int)) (w : Int) (x1_0 : Int) (m0_0 : (Ad × Int)) (m5900_0 : Ad) : Option β := cond (decide (x1_0 > 0)) ((C6 k m0_0 3).bind fun b1 => cond (b1.1 == 0) ((C6 k b1.2 256).bind fun b2 => Bp (m5900_0.length) ([u8.wrap b2.1].length) 1 (NX (i64.wrap (x1_0 - 1)) b2.2 (m5900_0 ++ [u8.wrap b2.1]))) ((C6 k b1.2 3).bind fun b3 => Bp (m5900_0.length) ([u8.wrap (i64.wrap (b3.1 + 97))].length) 1 (NX (i64.wrap (x1_0 - 1)) b3.2 (m5900_0 ++ [u8.wrap (i64.wrap (b3.1 + 97))])))) (RET (m5900_0, m0_0))
def Jo (k : Nat) (v : (Ad × Int)) (w : Int) : Nat → Int → (Ad × Int) → Ad → Option (Ad × (Ad × Int))
 | 0, _, _, _ => none
 | n + 1, x1_0, m0_0, m5900_0 => Jh (Jo k v w n) some k v w x1_0 m0_0 m5900_0
theorem Xjk {β : Type} (k : Nat) (v : (Ad × Int)) (w : Int) (K : KT β) (n : Nat) : ∀ (x1_0 : Int) (m0_0 : (Ad × Int)) (m5900_0 : Ad), Se k v w K n x1_0 m0_0 m5900_0 =
  (Jo k v w n x1_0 m0_0 m5900_0).bind fun r => K (F95_O.put r) := by
 induction n with
 | zero => intros; rfl
 | succ n ih =>
  intro x1_0 m0_0 m5900_0
  refine Eq.trans (b := Jh (Se k v w K n) (fun r => K (F95_O.put r)) k v w x1_0 m0_0 m5900_0) (by kernel_rfl) ?_
  rw [Jo]
  simp only [Jh, z1, z2, z3, z4, z5, u_0, ih]
def Xrj {β : Type} (LP0 : Int → (Ad × Int) → Ad → Option β) (k : Nat) (v : (Ad × Int)) (w : Int) : Option β := LP0 w v []
def F95 (k : Nat) (v : (Ad × Int)) (w : Int) : Option (Ad × (Ad × Int)) := Xrj (Jo k v w k) k v w
theorem X1k {β : Type} (k : Nat) (v : (Ad × Int)) (w : Int) (K : KT β) : Ah (Xib k) Tryz.f95 (PsT.put Xk2 (v, w, ())) K = (F95 k v w).bind fun r => K (F95_O.put r) :=
 Eq.trans (b := Xrj (Se k v w K k) k v w) (by kernel_rfl) (by simp only [F95, Xrj, z1, z2, z3, z4, z5, u_0, Xjk])
def Xk3 (k : Nat) : FD := ⟨95, Xk2, F95_O, F95 k⟩
theorem Xxg (k : Nat) : (Xk3 k).Ok Tryz.prog := ⟨fun x => Ab (Ak (Af (.c (Wl k) .n)) _ _ _ _) Ai Tryz.func95 rfl rfl (X1k k _ _ some), .of (by kernel_rfl)⟩
abbrev Xz9 (k : Nat) : Env := Bg (Ay [Lv k, S8 k]) Aj .own [] k
abbrev Xml : List PA := [.agg (.pair mI m_3), .one (.sl .ro (.int .u8))]
abbrev F166_O : RO := ⟨[.a, .v], [.pair mI Zz, mI]⟩
def Yl {β : Type} (RET : (den Co) × Int → Option β) (k : Nat) (v : (den Co)) (w : Ad) : Option β := Bn v fun _ v1 _ _ _ => (Un k v).bind fun b1 => cond (!b1) (RET ((0, [], 0, 0, []), 0)) ((Ur k v).bind fun b2 => cond (decide (0 ≤ (if (i64.wrap (32 - (v1.length : Int))) < (w.length : Int) then i64.wrap (32 - (v1.length : Int)) else (w.length : Int))) && decide ((if (i64.wrap (32 - (v1.length : Int))) < (w.length : Int) then i64.wrap (32 - (v1.length : Int)) else (w.length : Int)) ≤ (w.length : Int))) (Bp (b2.2.1.length) ((w.take ((if (i64.wrap (32 - (v1.length : Int))) < (w.length : Int) then i64.wrap (32 - (v1.length : Int)) else (w.length : Int)).toNat)).length) 1 (RET ((b2.1, b2.2.1 ++ (w.take ((if (i64.wrap (32 - (v1.length : Int))) < (w.length : Int) then i64.wrap (32 - (v1.length : Int)) else (w.length : Int)).toNat)), b2.2.2), (if (i64.wrap (32 - (v1.length : Int))) < (w.length : Int) then i64.wrap (32 - (v1.length : Int)) else (w.length : Int))))) none)
def Xjy := Yl (β := (den Co) × Int) some
theorem Xue {β : Type} (k : Nat) (v : (den Co)) (w : Ad) (K : KT β) : Ah (Xz9 k) Tryz.f166 (PsT.put Xml (v, w, ())) K = (Xjy k v w).bind fun r => K (F166_O.put r) :=
 Eq.trans (b := Yl (fun r => K (F166_O.put r)) k v w) (by kernel_rfl) (by simp only [Xjy, Yl, z1, z2, z3, z4, z5, Bn])
def Xsb (k : Nat) : FD := ⟨166, Xml, F166_O, Xjy k⟩
theorem X46 (k : Nat) : (Xsb k).Ok Tryz.prog := ⟨fun x => Ab (Ak (Af (.c (Nn k) (.c (Yo k) .n))) _ _ _ _) Ai Tryz.func166 rfl rfl (Xue k _ _ some), .of (by kernel_rfl)⟩
abbrev X2x (k : Nat) : Env := Bg (Ay [Lv k, Ej k, S8 k]) Aj .own [] k
abbrev Xqh : List PA := [.agg (.pair mI m_3), .one mI]
abbrev F153_O : RO := ⟨[.a, .v, .v], [.pair mI Zz, mI, .sl .own (.int .u8)]⟩
def Yb {β : Type} (RET : (den Co) × Int × Ad → Option β) (k : Nat) (v : (den Co)) (w : Int) : Option β := Bn v fun v0 v1 v2 v3 _ => (Un k v).bind fun b1 => cond (!b1) (RET ((0, [], 0, 0, []), 0, [])) ((Gf k w 1 12).bind fun b2 => cond (!b2) (RET ((0, [], 0, 0, []), 0, [])) ((Ur k v).bind fun b3 => cond (decide ((if (i64.wrap (v2 + w)) < (if v3 < (v1.length : Int) then v3 else (v1.length : Int)) then i64.wrap (v2 + w) else (if v3 < (v1.length : Int) then v3 else (v1.length : Int))) ≤ v2)) (RET (b3, i64.wrap (v0 + v2), [])) (cond (decide (0 ≤ (if (i64.wrap (v2 + w)) < (if v3 < (v1.length : Int) then v3 else (v1.length : Int)) then i64.wrap (v2 + w) else (if v3 < (v1.length : Int) then v3 else (v1.length : Int)))) && decide ((if (i64.wrap (v2 + w)) < (if v3 < (v1.length : Int) then v3 else (v1.length : Int)) then i64.wrap (v2 + w) else (if v3 < (v1.length : Int) then v3 else (v1.length : Int))) ≤ (v1.length : Int))) (cond (decide (0 ≤ v2) && decide (v2 ≤ (if (i64.wrap (v2 + w)) < (if v3 < (v1.length : Int) then v3 else (v1.length : Int)) then i64.wrap (v2 + w) else (if v3 < (v1.length : Int) then v3 else (v1.length : Int))))) (Bp (([] : Ad).length) (((v1.take ((if (i64.wrap (v2 + w)) < (if v3 < (v1.length : Int) then v3 else (v1.length : Int)) then i64.wrap (v2 + w) else (if v3 < (v1.length : Int) then v3 else (v1.length : Int))).toNat)).drop v2.toNat).length) 1 (RET ((b3.1, b3.2.1, (if (i64.wrap (v2 + w)) < (if v3 < (v1.length : Int) then v3 else (v1.length : Int)) then i64.wrap (v2 + w) else (if v3 < (v1.length : Int) then v3 else (v1.length : Int))), b3.2.2.2), i64.wrap (v0 + v2), [] ++ ((v1.take ((if (i64.wrap (v2 + w)) < (if v3 < (v1.length : Int) then v3 else (v1.length : Int)) then i64.wrap (v2 + w) else (if v3 < (v1.length : Int) then v3 else (v1.length : Int))).toNat)).drop v2.toNat)))) none) none)))
def Xi6 := Yb (β := (den Co) × Int × Ad) some
theorem Xt8 {β : Type} (k : Nat) (v : (den Co)) (w : Int) (K : KT β) : Ah (X2x k) Tryz.f153 (PsT.put Xqh (v, w, ())) K = (Xi6 k v w).bind fun r => K (F153_O.put r) :=
 Eq.trans (b := Yb (fun r => K (F153_O.put r)) k v w) (by kernel_rfl) (by simp only [Xi6, Yb, z1, z2, z3, z4, z5, Bn])
def Xls (k : Nat) : FD := ⟨153, Xqh, F153_O, Xi6 k⟩
theorem X27 (k : Nat) : (Xls k).Ok Tryz.prog := ⟨fun x => Ab (Ak (Af (.c (Nn k) (.c (Er k) (.c (Yo k) .n)))) _ _ _ _) Ai Tryz.func153 rfl rfl (Xt8 k _ _ some), .of (by kernel_rfl)⟩
def X4j : Nat → Hint
 | 0 => ⟨pl 1 2 ((4, .own .own seg []) :: []), pl 1000 7 ((1007, .ro (.int .u8)) :: (pl 1008 2 ((1010, .ro Ap) :: (pl 1011 13 (pl 2000 24 [])))))⟩
 | _ => ⟨[], []⟩
abbrev Xv (k : Nat) : Env := Bg (Ay [Xls k, Rr k]) X4j .own [] k
abbrev Xc5 : List PA := [.agg (.pair mI (.pair mI Cp))]
abbrev F112_O : RO := ⟨[.a, .v], [.pair mI (.pair mI Cp), .sl .own seg]⟩
noncomputable def X3g {β : Type} (k : Nat) (v : (den fin)) (K : KT β) : Ex → St → Option β := Cz (Xv k) Tryz.f112 (PsT.put Xc5 (v, ())) K
def Xtj (v : (den fin)) (m1000_0 : (den fin)) (m4900_0 : Al) : St := ⟨(.one .d) :: (.one (.ptr (.cell 1000) 24 0)) :: (.one (.ptr (.cell 2000) 24 0)) :: (.one .d) :: (.one (.a (.cell 4900) 0 0 none)) :: dz 31 [], Bc 1000 (Cb (.pair mI (.pair mI Cp)) m1000_0) (Bc 2000 (Cb B8 (0, 0, 0, 0, 0, 0, (0, [], 0, 0, []), (0, 0, [], []), false, false, false, 0, 0, 0, 0, 0, 0)) [eM 4900 (.s .own seg m4900_0)])⟩
noncomputable def Of {β : Type} (k : Nat) (v : (den fin)) (K : KT β) (n : Nat) (m1000_0 : (den fin)) (m4900_0 : Al) : Option β := Bu (Xv k) Tryz.f112 [1, 1, 0, 0] 0 (A1 (Xv k) [1, 1, 0, 0] (Aa Tryz.f112) 0 (X3g k v K)) n (Xtj v m1000_0 m4900_0)
def Hj {β : Type} (NX : (den fin) → Al → Option β) (RET : (den fin) × Al → Option β) (k : Nat) (v : (den fin)) (m1000_0 : (den fin)) (m4900_0 : Al) : Option β := cond (m1000_0.1 == 4) ((Xi6 k m1000_0.2.2.2.2.2.2.1 12).bind fun b1 => cond ((b1.2.2.length : Int) == 0) (RET (m1000_0, m4900_0)) ((Wd k (m1000_0.1, m1000_0.2.1, m1000_0.2.2.1, m1000_0.2.2.2.1, m1000_0.2.2.2.2.1, m1000_0.2.2.2.2.2.1, b1.1, m1000_0.2.2.2.2.2.2.2) b1.2.1).bind fun b2 => Bp (m4900_0.length) ([(b2.1, b2.2.1, b2.2.2.1, b2.2.2.2.1, b2.2.2.2.2.1, b2.2.2.2.2.2.1, b2.2.2.2.2.2.2.1, b2.2.2.2.2.2.2.2.1, b2.2.2.2.2.2.2.2.2.1, b2.2.2.2.2.2.2.2.2.2.1, b1.2.2)].length) 96 (NX (m1000_0.1, m1000_0.2.1, m1000_0.2.2.1, m1000_0.2.2.2.1, m1000_0.2.2.2.2.1, m1000_0.2.2.2.2.2.1, b1.1, m1000_0.2.2.2.2.2.2.2) (m4900_0 ++ [(b2.1, b2.2.1, b2.2.2.1, b2.2.2.2.1, b2.2.2.2.2.1, b2.2.2.2.2.2.1, b2.2.2.2.2.2.2.1, b2.2.2.2.2.2.2.2.1, b2.2.2.2.2.2.2.2.2.1, b2.2.2.2.2.2.2.2.2.2.1, b1.2.2)])))) (RET (m1000_0, m4900_0))
def H6 (k : Nat) (v : (den fin)) : Nat → (den fin) → Al → Option ((den fin) × Al)
 | 0, _, _ => none
 | n + 1, m1000_0, m4900_0 => Hj (H6 k v n) some k v m1000_0 m4900_0
theorem Xer {β : Type} (k : Nat) (v : (den fin)) (K : KT β) (n : Nat) : ∀ (m1000_0 : (den fin)) (m4900_0 : Al), Of k v K n m1000_0 m4900_0 =
  (H6 k v n m1000_0 m4900_0).bind fun r => K (F112_O.put r) := by
 induction n with
 | zero => intros; rfl
 | succ n ih =>
  intro m1000_0 m4900_0
  refine Eq.trans (b := Hj (Of k v K n) (fun r => K (F112_O.put r)) k v m1000_0 m4900_0) (by kernel_rfl) ?_
  rw [H6]
  simp only [Hj, z1, z2, z3, z4, z5, Ao, ih]
def Zq {β : Type} (LP0 : (den fin) → Al → Option β) (k : Nat) (v : (den fin)) : Option β := LP0 v []
def Nv (k : Nat) (v : (den fin)) : Option ((den fin) × Al) := Zq (H6 k v k) k v
theorem Xwj {β : Type} (k : Nat) (v : (den fin)) (K : KT β) : Ah (Xv k) Tryz.f112 (PsT.put Xc5 (v, ())) K = (Nv k v).bind fun r => K (F112_O.put r) :=
 Eq.trans (b := Zq (Of k v K k) k v) (by kernel_rfl) (by simp only [Nv, Zq, z1, z2, z3, z4, z5, Ao, Xer])
def Xfb (k : Nat) : FD := ⟨112, Xc5, F112_O, Nv k⟩
theorem Xo8 (k : Nat) : (Xfb k).Ok Tryz.prog := ⟨fun x => Ab (Ak (Af (.c (X27 k) (.c (Wm k) .n))) _ _ _ _) Ai Tryz.func112 rfl rfl (Xwj k _ some), .of (by kernel_rfl)⟩
abbrev X43 (k : Nat) : Env := Bg (Ay [Mm k, Ej k, P7 k, Xsb k, Xfb k, Xci k]) Aj .ro [] k
abbrev Xli : List PA := [.agg (.pair mI (.pair mI Cp)), .one (.sl .ro (.int .u8)), .one mI]
abbrev F137_O : RO := ⟨[.a, .v, .v], [.pair mI (.pair mI Cp), mI, .sl .ro seg]⟩
def R6 {β : Type} (RET : (den fin) × Int × Al → Option β) (k : Nat) (v : (den fin)) (w : Ad) (p : Int) : Option β := (F42 k v).bind fun b1 => cond (!b1) (RET ((0, 0, 0, 0, 0, 0, (0, [], 0, 0, []), (0, 0, [], []), false, false, false, 0, 0, 0, 0, 0, 0), 0, [])) ((Gf k p 0 900000).bind fun b2 => cond (!b2) (RET ((0, 0, 0, 0, 0, 0, (0, [], 0, 0, []), (0, 0, [], []), false, false, false, 0, 0, 0, 0, 0, 0), 0, [])) ((F45 k v).bind fun b3 => cond (!v.2.2.2.2.2.2.2.2.1) (cond (v.1 != 5) ((Xjy k b3.2.2.2.2.2.2.1 w).bind fun b4 => cond (v.1 != 4) (RET ((b3.1, b3.2.1, b3.2.2.1, b3.2.2.2.1, b3.2.2.2.2.1, b3.2.2.2.2.2.1, b4.1, b3.2.2.2.2.2.2.2), b4.2, [])) ((Nv k (b3.1, b3.2.1, b3.2.2.1, b3.2.2.2.1, b3.2.2.2.2.1, b3.2.2.2.2.2.1, b4.1, b3.2.2.2.2.2.2.2)).bind fun b5 => (Jz k b5.1 p false).bind fun b6 => RET (b6, b4.2, b5.2))) (cond (v.1 != 4) (RET (b3, 0, [])) ((Nv k b3).bind fun b7 => (Jz k b7.1 p false).bind fun b8 => RET (b8, 0, b7.2)))) (cond (v.1 != 4) (RET (b3, 0, [])) ((Nv k b3).bind fun b9 => (Jz k b9.1 p false).bind fun b10 => RET (b10, 0, b9.2)))))
def Tw := R6 (β := (den fin) × Int × Al) some
theorem Xvp {β : Type} (k : Nat) (v : (den fin)) (w : Ad) (p : Int) (K : KT β) : Ah (X43 k) Tryz.f137 (PsT.put Xli (v, w, p, ())) K = (Tw k v w p).bind fun r => K (F137_O.put r) :=
 Eq.trans (b := R6 (fun r => K (F137_O.put r)) k v w p) (by kernel_rfl) (by simp only [Tw, R6, z1, z2, z3, z4, z5, Ao])
def Xr5 (k : Nat) : FD := ⟨137, Xli, F137_O, Tw k⟩
theorem X26 (k : Nat) : (Xr5 k).Ok Tryz.prog := ⟨fun x => Ab (Ak (Af (.c (Pq k) (.c (Er k) (.c (Su k) (.c (X46 k) (.c (Xo8 k) (.c (Xhd k) .n))))))) _ _ _ _) Ai Tryz.func137 rfl rfl (Xvp k _ _ _ some), .of (by kernel_rfl)⟩
abbrev X25 (k : Nat) : Env := Bg (Ay [Lm k]) Aj .own [] k
abbrev Xkz : List PA := [.agg (.pair mI (.pair mI U7)), .one mI]
abbrev F167_O : RO := ⟨[.a, .v], [.pair mI (.pair mI N2), .sl .own (.int .u8)]⟩
def Rq {β : Type} (RET : (den A9) × Ad → Option β) (k : Nat) (v : (den A9)) (w : Int) : Option β := Bs v fun v0 v1 v2 v3 => (Qj k v).bind fun b1 => cond (!b1) (RET ((0, 0, [], []), [])) (cond (decide (w < 0)) (RET ((0, 0, [], []), [])) (cond (decide (0 ≤ (if (v2.length : Int) < w then (v2.length : Int) else w)) && decide ((if (v2.length : Int) < w then (v2.length : Int) else w) ≤ (v2.length : Int))) (Bp (([] : Ad).length) ((v2.drop ((if (v2.length : Int) < w then (v2.length : Int) else w).toNat)).length) 1 (Bp (([] : Aw).length) (v3.length) 16 (cond (decide (0 ≤ (if (v2.length : Int) < w then (v2.length : Int) else w)) && decide ((if (v2.length : Int) < w then (v2.length : Int) else w) ≤ (v2.length : Int))) (Bp (([] : Ad).length) ((v2.take ((if (v2.length : Int) < w then (v2.length : Int) else w).toNat)).length) 1 (RET ((v0, v1, [] ++ (v2.drop ((if (v2.length : Int) < w then (v2.length : Int) else w).toNat)), [] ++ v3), [] ++ (v2.take ((if (v2.length : Int) < w then (v2.length : Int) else w).toNat))))) none))) none))
def Xce := Rq (β := (den A9) × Ad) some
theorem Xth {β : Type} (k : Nat) (v : (den A9)) (w : Int) (K : KT β) : Ah (X25 k) Tryz.f167 (PsT.put Xkz (v, w, ())) K = (Xce k v w).bind fun r => K (F167_O.put r) :=
 Eq.trans (b := Rq (fun r => K (F167_O.put r)) k v w) (by kernel_rfl) (by simp only [Xce, Rq, z1, z2, z3, z4, z5, Bs])
def Xmf (k : Nat) : FD := ⟨167, Xkz, F167_O, Xce k⟩
theorem X0z (k : Nat) : (Xmf k).Ok Tryz.prog := ⟨fun x => Ab (Ak (Af (.c (Ns k) .n)) _ _ _ _) Ai Tryz.func167 rfl rfl (Xth k _ _ some), .of (by kernel_rfl)⟩
abbrev X75 (k : Nat) : Env := Bg Ca Aj .own [] k
abbrev Xxd : List PA := [.agg (.pair mI (.pair mI Cp))]
abbrev F52_O : RO := ⟨[.v], [mI]⟩
def F52 (k : Nat) (v : (den fin)) : Option (Int) := cond v.2.2.2.2.2.2.2.2.2.1 (some 1) (some 0)
theorem X45 {β : Type} (k : Nat) (v : (den fin)) (K : KT β) : Ah (X75 k) Tryz.f52 (PsT.put Xxd (v, ())) K = (F52 k v).bind fun r => K (F52_O.put r) :=
 Eq.trans (b := cond v.2.2.2.2.2.2.2.2.2.1 (K (F52_O.put 1)) (K (F52_O.put 0))) (by kernel_rfl) (by simp only [F52, z1, z2, z3, z4, z5, Ao])
def Xrd (k : Nat) : FD := ⟨52, Xxd, F52_O, F52 k⟩
theorem Xw2 (k : Nat) : (Xrd k).Ok Tryz.prog := ⟨fun x => Ab (Ak .none _ _ _ _) Ai Tryz.func52 rfl rfl (X45 k _ some), .of (by kernel_rfl)⟩
end
end Go.Proofs.YtjkkbmkkljpcjaaGreat.Gn
end

section
set_option linter.unusedVariables false
set_option linter.unusedSimpArgs false
namespace Go.Proofs.YtjkkbmkkljpcjaaGreat.Gn
open Go.Rf IntKind
noncomputable section
abbrev X0u (k : Nat) : Env := Bg (Ay [Mm k, Ej k, P7 k, Xmf k, Rv k, Xrd k, Rr k]) Aj .own [] k
abbrev Xld : List PA := [.agg (.pair mI (.pair mI Cp)), .one mI, .one mI]
abbrev F138_O : RO := ⟨[.a, .v, .v], [B8, .sl .own (.int .u8), .sl .own seg]⟩
def Sx {β : Type} (RET : (den fin) × Ad × Al → Option β) (k : Nat) (v : (den fin)) (w p : Int) : Option β := (F42 k v).bind fun b1 => cond (!b1) (RET ((0, 0, 0, 0, 0, 0, (0, [], 0, 0, []), (0, 0, [], []), false, false, false, 0, 0, 0, 0, 0, 0), [], [])) (cond (decide (w < 0)) (RET ((0, 0, 0, 0, 0, 0, (0, [], 0, 0, []), (0, 0, [], []), false, false, false, 0, 0, 0, 0, 0, 0), [], [])) ((Gf k p 0 900000).bind fun b2 => cond (!b2) (RET ((0, 0, 0, 0, 0, 0, (0, [], 0, 0, []), (0, 0, [], []), false, false, false, 0, 0, 0, 0, 0, 0), [], [])) ((F45 k v).bind fun b3 => (Xce k b3.2.2.2.2.2.2.2.1 w).bind fun b4 => cond (v.1 == 4) ((Jx k v.2.2.2.2.2.2.2.1).bind fun b5 => cond (b5 == 0) ((Jx k b4.1).bind fun b6 => cond (decide (b6 > 0)) ((F52 k (b3.1, b3.2.1, b3.2.2.1, b3.2.2.2.1, b3.2.2.2.2.1, b3.2.2.2.2.2.1, b3.2.2.2.2.2.2.1, b4.1, b3.2.2.2.2.2.2.2.2)).bind fun b7 => (Wd k (b3.1, b3.2.1, b3.2.2.1, b3.2.2.2.1, b3.2.2.2.2.1, b3.2.2.2.2.2.1, b3.2.2.2.2.2.2.1, b4.1, b3.2.2.2.2.2.2.2.2) (i64.wrap ((i64.wrap (b3.2.2.2.2.2.2.1.1 + b3.2.2.2.2.2.2.1.2.2.1)) + b7))).bind fun b8 => RET ((b3.1, b3.2.1, b3.2.2.1, b3.2.2.2.1, b3.2.2.2.2.1, b3.2.2.2.2.2.1, b3.2.2.2.2.2.2.1, b4.1, b3.2.2.2.2.2.2.2.2), b4.2, [b8])) (RET ((b3.1, b3.2.1, b3.2.2.1, b3.2.2.2.1, b3.2.2.2.2.1, b3.2.2.2.2.2.1, b3.2.2.2.2.2.2.1, b4.1, b3.2.2.2.2.2.2.2.2), b4.2, []))) (RET ((b3.1, b3.2.1, b3.2.2.1, b3.2.2.2.1, b3.2.2.2.2.1, b3.2.2.2.2.2.1, b3.2.2.2.2.2.2.1, b4.1, b3.2.2.2.2.2.2.2.2), b4.2, []))) (RET ((b3.1, b3.2.1, b3.2.2.1, b3.2.2.2.1, b3.2.2.2.2.1, b3.2.2.2.2.2.1, b3.2.2.2.2.2.2.1, b4.1, b3.2.2.2.2.2.2.2.2), b4.2, [])))))
def Zy := Sx (β := (den fin) × Ad × Al) some
theorem Xul {β : Type} (k : Nat) (v : (den fin)) (w p : Int) (K : KT β) : Ah (X0u k) Tryz.f138 (PsT.put Xld (v, w, p, ())) K = (Zy k v w p).bind fun r => K (F138_O.put r) :=
 Eq.trans (b := Sx (fun r => K (F138_O.put r)) k v w p) (by kernel_rfl) (by simp only [Zy, Sx, z1, z2, z3, z4, z5, Ao])
def Xqm (k : Nat) : FD := ⟨138, Xld, F138_O, Zy k⟩
theorem X4e (k : Nat) : (Xqm k).Ok Tryz.prog := ⟨fun x => Ab (Ak (Af (.c (Pq k) (.c (Er k) (.c (Su k) (.c (X0z k) (.c (Yq k) (.c (Xw2 k) (.c (Wm k) .n)))))))) _ _ _ _) Ai Tryz.func138 rfl rfl (Xul k _ _ _ some), .of (by kernel_rfl)⟩
abbrev X4s (k : Nat) : Env := Bg (Ay [Xex k]) Aj .own [] k
abbrev Xsv : List PA := [.agg (.pair mI (.pair mI mI))]
abbrev F168_O : RO := ⟨[.a], [.pair mI (.pair mI mI)]⟩
def Ta {β : Type} (RET : (den Uw) → Option β) (k : Nat) (v : (den Uw)) : Option β := Wo v fun v0 v1 v2 => (Xfm k v).bind fun b1 => cond (!b1) (RET (0, 0, 0)) (RET (v0, v1, (if 200 < (i64.wrap (2 * v2)) then 200 else i64.wrap (2 * v2))))
def Xby := Ta (β := (den Uw)) some
theorem Xt9 {β : Type} (k : Nat) (v : (den Uw)) (K : KT β) : Ah (X4s k) Tryz.f168 (PsT.put Xsv (v, ())) K = (Xby k v).bind fun r => K (F168_O.put r) :=
 Eq.trans (b := Ta (fun r => K (F168_O.put r)) k v) (by kernel_rfl) (by simp only [Xby, Ta, z1, z2, z3, z4, z5, Wo])
def Xnv (k : Nat) : FD := ⟨168, Xsv, F168_O, Xby k⟩
theorem X1t (k : Nat) : (Xnv k).Ok Tryz.prog := ⟨fun x => Ab (Ak (Af (.c (Xoa k) .n)) _ _ _ _) Ai Tryz.func168 rfl rfl (Xt9 k _ some), .of (by kernel_rfl)⟩
abbrev X3q (k : Nat) : Env := Bg (Ay [Lv k, Ej k]) Aj .own [] k
abbrev Xqd : List PA := [.agg (.pair mI m_3), .one mI]
abbrev F169_O : RO := ⟨[.v, .v], [mI, .sl .own (.int .u8)]⟩
def Yw {β : Type} (RET : (Int × Ad) → Option β) (k : Nat) (v : (den Co)) (w : Int) : Option β := Bn v fun v0 v1 v2 _ v4 => (Un k v).bind fun b1 => cond (!b1) (RET (0, [])) ((Gf k w 1 12).bind fun b2 => cond (!b2) (RET (0, [])) (cond (decide ((v4.length : Int) > 0)) (cond (decide (0 < (v4.length : Int))) (cond (decide (0 ≤ (if (i64.wrap ((Bd v4 0).1 - v0)) < (if w < v2 then w else v2) then i64.wrap ((Bd v4 0).1 - v0) else (if w < v2 then w else v2))) && decide ((if (i64.wrap ((Bd v4 0).1 - v0)) < (if w < v2 then w else v2) then i64.wrap ((Bd v4 0).1 - v0) else (if w < v2 then w else v2)) ≤ (v1.length : Int))) (Bp (([] : Ad).length) ((v1.take ((if (i64.wrap ((Bd v4 0).1 - v0)) < (if w < v2 then w else v2) then i64.wrap ((Bd v4 0).1 - v0) else (if w < v2 then w else v2)).toNat)).length) 1 (RET (v0, [] ++ (v1.take ((if (i64.wrap ((Bd v4 0).1 - v0)) < (if w < v2 then w else v2) then i64.wrap ((Bd v4 0).1 - v0) else (if w < v2 then w else v2)).toNat))))) none) none) (cond (decide (0 ≤ (if w < v2 then w else v2)) && decide ((if w < v2 then w else v2) ≤ (v1.length : Int))) (Bp (([] : Ad).length) ((v1.take ((if w < v2 then w else v2).toNat)).length) 1 (RET (v0, [] ++ (v1.take ((if w < v2 then w else v2).toNat))))) none)))
def Xjl := Yw (β := Int × Ad) some
theorem Xuw {β : Type} (k : Nat) (v : (den Co)) (w : Int) (K : KT β) : Ah (X3q k) Tryz.f169 (PsT.put Xqd (v, w, ())) K = (Xjl k v w).bind fun r => K (F169_O.put r) :=
 Eq.trans (b := Yw (fun r => K (F169_O.put r)) k v w) (by kernel_rfl) (by simp only [Xjl, Yw, z1, z2, z3, z4, z5, Bn])
def Xlf (k : Nat) : FD := ⟨169, Xqd, F169_O, Xjl k⟩
theorem X08 (k : Nat) : (Xlf k).Ok Tryz.prog := ⟨fun x => Ab (Ak (Af (.c (Nn k) (.c (Er k) .n))) _ _ _ _) Ai Tryz.func169 rfl rfl (Xuw k _ _ some), .of (by kernel_rfl)⟩
abbrev X41 (k : Nat) : Env := Bg (Ay [Rr k]) Aj .own [] k
abbrev Xrw : List PA := [.agg (.pair mI (.pair mI Cp))]
abbrev F113_O : RO := ⟨[.a], [Ji]⟩
def Uh {β : Type} (RET : (den seg) → Option β) (k : Nat) (v : (den fin)) : Option β := (Wd k v (i64.wrap (v.2.2.2.2.2.2.1.1 + (v.2.2.2.2.2.2.1.2.1.length : Int)))).bind fun b1 => RET (b1.1, b1.2.1, b1.2.2.1, b1.2.2.2.1, b1.2.2.2.2.1, b1.2.2.2.2.2.1, b1.2.2.2.2.2.2.1, true, b1.2.2.2.2.2.2.2.2)
def Uv := Uh (β := (den seg)) some
theorem Xun {β : Type} (k : Nat) (v : (den fin)) (K : KT β) : Ah (X41 k) Tryz.f113 (PsT.put Xrw (v, ())) K = (Uv k v).bind fun r => K (F113_O.put r) :=
 Eq.trans (b := Uh (fun r => K (F113_O.put r)) k v) (by kernel_rfl) (by simp only [Uv, Uh, z1, z2, z3, z4, z5, Ao])
def Xo (k : Nat) : FD := ⟨113, Xrw, F113_O, Uv k⟩
theorem Xek (k : Nat) : (Xo k).Ok Tryz.prog := ⟨fun x => Ab (Ak (Af (.c (Wm k) .n)) _ _ _ _) Ai Tryz.func113 rfl rfl (Xun k _ some), .of (by kernel_rfl)⟩
abbrev X1r (k : Nat) : Env := Bg (Ay [Mm k, Ej k, P7 k, Xnv k, Xhn k, Xlf k, Rr k, Xo k]) Aj .own [] k
abbrev Xpt : List PA := [.agg (.pair mI (.pair mI Cp)), .one mI]
abbrev F139_O : RO := ⟨[.a, .v], [B8, .sl .own seg]⟩
def L7 {β : Type} (k : Nat) (v : (den fin)) (w : Int) (RET : (den fin) × Al → Option β) (b3 : (den fin)) (b4 : (den Uw)) : Option β := (F49 k (b3.1, b3.2.1, b3.2.2.1, b3.2.2.2.1, b3.2.2.2.2.1, b3.2.2.2.2.2.1, b3.2.2.2.2.2.2.1, b3.2.2.2.2.2.2.2.1, b3.2.2.2.2.2.2.2.2.1, b3.2.2.2.2.2.2.2.2.2.1, b3.2.2.2.2.2.2.2.2.2.2.1, b3.2.2.2.2.2.2.2.2.2.2.2.1, i64.wrap (w + b4.2.2), i64.wrap (v.2.2.2.2.2.2.2.2.2.2.2.2.2.1 + 1), b4)).bind fun b5 => RET ((b3.1, b3.2.1, b3.2.2.1, b3.2.2.2.1, b3.2.2.2.2.1, b3.2.2.2.2.2.1, b3.2.2.2.2.2.2.1, b3.2.2.2.2.2.2.2.1, b3.2.2.2.2.2.2.2.2.1, b3.2.2.2.2.2.2.2.2.2.1, b3.2.2.2.2.2.2.2.2.2.2.1, b3.2.2.2.2.2.2.2.2.2.2.2.1, i64.wrap (w + b4.2.2), i64.wrap (v.2.2.2.2.2.2.2.2.2.2.2.2.2.1 + 1), b4), [b5])
def Nd {β : Type} (k : Nat) (v : (den fin)) (w : Int) (RET : (den fin) × Al → Option β) (b3 : (den fin)) (b4 : (den Uw)) : Option β := (Wd k (b3.1, b3.2.1, b3.2.2.1, b3.2.2.2.1, b3.2.2.2.2.1, b3.2.2.2.2.2.1, b3.2.2.2.2.2.2.1, b3.2.2.2.2.2.2.2.1, b3.2.2.2.2.2.2.2.2.1, b3.2.2.2.2.2.2.2.2.2.1, b3.2.2.2.2.2.2.2.2.2.2.1, b3.2.2.2.2.2.2.2.2.2.2.2.1, i64.wrap (w + b4.2.2), i64.wrap (v.2.2.2.2.2.2.2.2.2.2.2.2.2.1 + 1), b4) (i64.wrap (b3.2.2.2.2.2.2.1.1 - 1))).bind fun b10 => RET ((b3.1, b3.2.1, b3.2.2.1, b3.2.2.2.1, b3.2.2.2.2.1, b3.2.2.2.2.2.1, b3.2.2.2.2.2.2.1, b3.2.2.2.2.2.2.2.1, b3.2.2.2.2.2.2.2.2.1, b3.2.2.2.2.2.2.2.2.2.1, b3.2.2.2.2.2.2.2.2.2.2.1, b3.2.2.2.2.2.2.2.2.2.2.2.1, i64.wrap (w + b4.2.2), i64.wrap (v.2.2.2.2.2.2.2.2.2.2.2.2.2.1 + 1), b4), [b10])
def Tx {β : Type} (RET : (den fin) × Al → Option β) (k : Nat) (v : (den fin)) (w : Int) : Option β := Ao v fun v0 _ _ _ _ _ _ _ v8 _ _ _ _ _ _ _ v16 v17 _ v19 v20 v21 v22 v23 => (F42 k v).bind fun b1 => cond (!b1) (RET ((0, 0, 0, 0, 0, 0, (0, [], 0, 0, []), (0, 0, [], []), false, false, false, 0, 0, 0, 0, 0, 0), [])) ((Gf k w 0 900000).bind fun b2 => cond (!b2) (RET ((0, 0, 0, 0, 0, 0, (0, [], 0, 0, []), (0, 0, [], []), false, false, false, 0, 0, 0, 0, 0, 0), [])) ((F45 k v).bind fun b3 => cond (v19 == 0) (RET (b3, [])) (cond (decide (v19 > w)) (RET (b3, [])) (cond (v20 == 8) (RET ((5, b3.2.1, b3.2.2.1, b3.2.2.2.1, b3.2.2.2.2.1, b3.2.2.2.2.2.1, b3.2.2.2.2.2.2.1, b3.2.2.2.2.2.2.2.1, b3.2.2.2.2.2.2.2.2.1, b3.2.2.2.2.2.2.2.2.2.1, b3.2.2.2.2.2.2.2.2.2.2.1, b3.2.2.2.2.2.2.2.2.2.2.2.1, 0, b3.2.2.2.2.2.2.2.2.2.2.2.2.2), [])) ((Xby k (v21, v22, v23)).bind fun b4 => cond (v0 == 2) (L7 k v w RET b3 b4) (cond (v0 == 3) (L7 k v w RET b3 b4) (cond (v0 != 4) (RET ((b3.1, b3.2.1, b3.2.2.1, b3.2.2.2.1, b3.2.2.2.2.1, b3.2.2.2.2.2.1, b3.2.2.2.2.2.2.1, b3.2.2.2.2.2.2.2.1, b3.2.2.2.2.2.2.2.2.1, b3.2.2.2.2.2.2.2.2.2.1, b3.2.2.2.2.2.2.2.2.2.2.1, b3.2.2.2.2.2.2.2.2.2.2.2.1, 0, i64.wrap (v20 + 1), b4), [])) (cond (decide (v8 > 0)) ((Xjl k b3.2.2.2.2.2.2.1 12).bind fun b7 => (Wd k (b3.1, b3.2.1, b3.2.2.1, b3.2.2.2.1, b3.2.2.2.2.1, b3.2.2.2.2.2.1, b3.2.2.2.2.2.2.1, b3.2.2.2.2.2.2.2.1, b3.2.2.2.2.2.2.2.2.1, b3.2.2.2.2.2.2.2.2.2.1, b3.2.2.2.2.2.2.2.2.2.2.1, b3.2.2.2.2.2.2.2.2.2.2.2.1, i64.wrap (w + b4.2.2), i64.wrap (v20 + 1), b4) b7.1).bind fun b8 => RET ((b3.1, b3.2.1, b3.2.2.1, b3.2.2.2.1, b3.2.2.2.2.1, b3.2.2.2.2.2.1, b3.2.2.2.2.2.2.1, b3.2.2.2.2.2.2.2.1, b3.2.2.2.2.2.2.2.2.1, b3.2.2.2.2.2.2.2.2.2.1, b3.2.2.2.2.2.2.2.2.2.2.1, b3.2.2.2.2.2.2.2.2.2.2.2.1, i64.wrap (w + b4.2.2), i64.wrap (v20 + 1), b4), [(b8.1, b8.2.1, b8.2.2.1, b8.2.2.2.1, b8.2.2.2.2.1, b8.2.2.2.2.2.1, b8.2.2.2.2.2.2.1, b8.2.2.2.2.2.2.2.1, b8.2.2.2.2.2.2.2.2.1, b8.2.2.2.2.2.2.2.2.2.1, b7.2)])) (cond v16 (cond (!v17) ((Uv k (b3.1, b3.2.1, b3.2.2.1, b3.2.2.2.1, b3.2.2.2.2.1, b3.2.2.2.2.2.1, b3.2.2.2.2.2.2.1, b3.2.2.2.2.2.2.2.1, b3.2.2.2.2.2.2.2.2.1, b3.2.2.2.2.2.2.2.2.2.1, b3.2.2.2.2.2.2.2.2.2.2.1, b3.2.2.2.2.2.2.2.2.2.2.2.1, i64.wrap (w + b4.2.2), i64.wrap (v20 + 1), b4)).bind fun b9 => RET ((b3.1, b3.2.1, b3.2.2.1, b3.2.2.2.1, b3.2.2.2.2.1, b3.2.2.2.2.2.1, b3.2.2.2.2.2.2.1, b3.2.2.2.2.2.2.2.1, b3.2.2.2.2.2.2.2.2.1, b3.2.2.2.2.2.2.2.2.2.1, b3.2.2.2.2.2.2.2.2.2.2.1, b3.2.2.2.2.2.2.2.2.2.2.2.1, i64.wrap (w + b4.2.2), i64.wrap (v20 + 1), b4), [b9])) (Nd k v w RET b3 b4)) (Nd k v w RET b3 b4))))))))))
def Zs := Tx (β := (den fin) × Al) some
theorem Xvi {β : Type} (k : Nat) (v : (den fin)) (w : Int) (K : KT β) : Ah (X1r k) Tryz.f139 (PsT.put Xpt (v, w, ())) K = (Zs k v w).bind fun r => K (F139_O.put r) :=
 Eq.trans (b := Tx (fun r => K (F139_O.put r)) k v w) (by kernel_rfl) (by simp only [Zs, Tx, L7, Nd, z1, z2, z3, z4, z5, Ao])
def Xqb (k : Nat) : FD := ⟨139, Xpt, F139_O, Zs k⟩
theorem X5i (k : Nat) : (Xqb k).Ok Tryz.prog := ⟨fun x => Ab (Ak (Af (.c (Pq k) (.c (Er k) (.c (Su k) (.c (X1t k) (.c (Xri k) (.c (X08 k) (.c (Wm k) (.c (Xek k) .n))))))))) _ _ _ _) Ai Tryz.func139 rfl rfl (Xvi k _ _ some), .of (by kernel_rfl)⟩
abbrev X0w (k : Nat) : Env := Bg (Ay [Mm k, Ej k, P7 k, Xo k, Xci k]) Aj .ro [] k
abbrev Xmj : List PA := [.agg (.pair mI (.pair mI Cp)), .one mI]
abbrev F140_O : RO := ⟨[.a, .v], [.pair mI (.pair mI Cp), .sl .ro seg]⟩
def Kh {β : Type} (k : Nat) (v : (den fin)) (w : Int) (RET : (den fin) × Al → Option β) (b3 : (den fin)) : Option β := (Jz k (b3.1, b3.2.1, b3.2.2.1, b3.2.2.2.1, b3.2.2.2.2.1, b3.2.2.2.2.2.1, b3.2.2.2.2.2.2.1, b3.2.2.2.2.2.2.2.1, true, b3.2.2.2.2.2.2.2.2.2) w false).bind fun b6 => RET (b6, [])
def Sc {β : Type} (RET : (den fin) × Al → Option β) (k : Nat) (v : (den fin)) (w : Int) : Option β := (F42 k v).bind fun b1 => cond (!b1) (RET ((0, 0, 0, 0, 0, 0, (0, [], 0, 0, []), (0, 0, [], []), false, false, false, 0, 0, 0, 0, 0, 0), [])) ((Gf k w 0 900000).bind fun b2 => cond (!b2) (RET ((0, 0, 0, 0, 0, 0, (0, [], 0, 0, []), (0, 0, [], []), false, false, false, 0, 0, 0, 0, 0, 0), [])) ((F45 k v).bind fun b3 => cond (b3.1 == 4) (cond (!b3.2.2.2.2.2.2.2.2.2.1) (cond (b3.2.2.2.2.2.2.1.2.2.1 == (b3.2.2.2.2.2.2.1.2.1.length : Int)) ((Uv k (b3.1, b3.2.1, b3.2.2.1, b3.2.2.2.1, b3.2.2.2.2.1, b3.2.2.2.2.2.1, b3.2.2.2.2.2.2.1, b3.2.2.2.2.2.2.2.1, true, true, b3.2.2.2.2.2.2.2.2.2.2)).bind fun b4 => Bp (([] : Al).length) ([b4].length) 96 ((Jz k (b3.1, b3.2.1, b3.2.2.1, b3.2.2.2.1, b3.2.2.2.2.1, b3.2.2.2.2.2.1, b3.2.2.2.2.2.2.1, b3.2.2.2.2.2.2.2.1, true, true, b3.2.2.2.2.2.2.2.2.2.2) w false).bind fun b5 => RET (b5, [] ++ [b4]))) (Kh k v w RET b3)) (Kh k v w RET b3)) (Kh k v w RET b3)))
def Xbu := Sc (β := (den fin) × Al) some
theorem Xvw {β : Type} (k : Nat) (v : (den fin)) (w : Int) (K : KT β) : Ah (X0w k) Tryz.f140 (PsT.put Xmj (v, w, ())) K = (Xbu k v w).bind fun r => K (F140_O.put r) :=
 Eq.trans (b := Sc (fun r => K (F140_O.put r)) k v w) (by kernel_rfl) (by simp only [Xbu, Sc, Kh, z1, z2, z3, z4, z5, Ao])
def Xno (k : Nat) : FD := ⟨140, Xmj, F140_O, Xbu k⟩
theorem X5m (k : Nat) : (Xno k).Ok Tryz.prog := ⟨fun x => Ab (Ak (Af (.c (Pq k) (.c (Er k) (.c (Su k) (.c (Xek k) (.c (Xhd k) .n)))))) _ _ _ _) Ai Tryz.func140 rfl rfl (Xvw k _ _ some), .of (by kernel_rfl)⟩
def X8f : Nat → Hint
 | 0 => ⟨pl 1 1 (pl 3 1 []), pl 1000 11 []⟩
 | _ => ⟨[], []⟩
abbrev Xgc (k : Nat) : Env := Bg (Ay [Ej k]) X8f .own [] k
abbrev Xq9 : List PA := [.agg Cu]
abbrev F43_O : RO := ⟨[.v], [mB]⟩
noncomputable def X6m {β : Type} (k : Nat) (v : (den seg)) (K : KT β) : Ex → St → Option β := Cz (Xgc k) Tryz.f43 (PsT.put Xq9 (v, ())) K
def X3o (v : (den seg)) (x3_0 : Int) : St := ⟨(.one .d) :: (.one (.ptr (.cell 1000) 11 0)) :: (.one .d) :: (.one (vI x3_0)) :: dz 103 [], Bc 1000 (Cb Cu v) []⟩
noncomputable def T3 {β : Type} (k : Nat) (v : (den seg)) (K : KT β) (n : Nat) (x3_0 : Int) : Option β := Bu (Xgc k) Tryz.f43 [1, 1, 0, 1, 0] 0 (A1 (Xgc k) [1, 1, 0, 1, 0] (Aa Tryz.f43) 0 (X6m k v K)) n (X3o v x3_0)
def Jl {β : Type} (NX : Int → Option β) (RET : Bool → Option β) (k : Nat) (v : (den seg)) (x3_0 : Int) : Option β := A8 v fun _ _ _ v3 v4 v5 v6 v7 v8 v9 v10 => cond (decide (x3_0 < (v9.length : Int))) (Bi x3_0 v9 ((Gf k (Bd v9 x3_0).1 0 65535).bind fun b6 => cond (!b6) (RET false) (Bi x3_0 v9 ((Gf k (Bd v9 x3_0).2 0 65535).bind fun b7 => cond (!b7) (RET false) (NX (i64.wrap (x3_0 + 1))))))) (cond (!v6) (cond (v3 != 0) (RET false) (cond (v4 != 0) (RET false) (cond (decide ((v9.length : Int) > 0)) (RET false) (cond (!v8) (RET true) (cond (!v5) (cond (!v7) (RET ((v10.length : Int) == 0)) (RET false)) (RET false)))))) (cond (!v8) (RET true) (cond (!v5) (cond (!v7) (RET ((v10.length : Int) == 0)) (RET false)) (RET false))))
def Jr (k : Nat) (v : (den seg)) : Nat → Int → Option (Bool)
 | 0, _ => none
 | n + 1, x3_0 => Jl (Jr k v n) some k v x3_0
theorem Xjm {β : Type} (k : Nat) (v : (den seg)) (K : KT β) (n : Nat) : ∀ (x3_0 : Int), T3 k v K n x3_0 =
  (Jr k v n x3_0).bind fun r => K (F43_O.put r) := by
 induction n with
 | zero => intros; rfl
 | succ n ih =>
  intro x3_0
  refine Eq.trans (b := Jl (T3 k v K n) (fun r => K (F43_O.put r)) k v x3_0) (by kernel_rfl) ?_
  rw [Jr]
  simp only [Jl, z1, z2, z3, z4, z5, A8, ih]
def Xg6 {β : Type} (LP0 : Int → Option β) (RET : Bool → Option β) (k : Nat) (v : (den seg)) : Option β := (Gf k v.1 1 255).bind fun b1 => cond (!b1) (RET false) ((Gf k v.2.1 1 255).bind fun b2 => cond (!b2) (RET false) ((Gf k v.2.2.1 0 65535).bind fun b3 => cond (!b3) (RET false) ((Gf k v.2.2.2.1 0 65535).bind fun b4 => cond (!b4) (RET false) ((Gf k v.2.2.2.2.1 0 255).bind fun b5 => cond (!b5) (RET false) (cond (decide ((v.2.2.2.2.2.2.2.2.2.1.length : Int) > 2)) (RET false) (cond (decide ((v.2.2.2.2.2.2.2.2.2.2.length : Int) > 12)) (RET false) (LP0 0)))))))
def F43 (k : Nat) (v : (den seg)) : Option (Bool) := Xg6 (Jr k v k) some k v
theorem X0v {β : Type} (k : Nat) (v : (den seg)) (K : KT β) : Ah (Xgc k) Tryz.f43 (PsT.put Xq9 (v, ())) K = (F43 k v).bind fun r => K (F43_O.put r) :=
 Eq.trans (b := Xg6 (T3 k v K k) (fun r => K (F43_O.put r)) k v) (by kernel_rfl) (by simp only [F43, Xg6, z1, z2, z3, z4, z5, A8, Xjm])
def Xyd (k : Nat) : FD := ⟨43, Xq9, F43_O, F43 k⟩
theorem X6h (k : Nat) : (Xyd k).Ok Tryz.prog := ⟨fun x => Ab (Ak (Af (.c (Er k) .n)) _ _ _ _) Ai Tryz.func43 rfl rfl (X0v k _ some), .of (by kernel_rfl)⟩
abbrev X81 (k : Nat) : Env := Bg (Ay [Xfb k, Xo k]) Aj .own [] k
abbrev Xxt : List PA := [.agg (.pair mI (.pair mI Cp))]
abbrev F50_O : RO := ⟨[.a, .v], [.pair mI (.pair mI Cp), .sl .own seg]⟩
def Xb1 {β : Type} (RET : (den fin) × Al → Option β) (k : Nat) (v : (den fin)) : Option β := (Nv k v).bind fun b1 => cond (b1.1.1 == 4) (cond b1.1.2.2.2.2.2.2.2.2.1 (cond (!b1.1.2.2.2.2.2.2.2.2.2.1) (cond (b1.1.2.2.2.2.2.2.1.2.2.1 == (b1.1.2.2.2.2.2.2.1.2.1.length : Int)) ((Uv k (b1.1.1, b1.1.2.1, b1.1.2.2.1, b1.1.2.2.2.1, b1.1.2.2.2.2.1, b1.1.2.2.2.2.2.1, b1.1.2.2.2.2.2.2.1, b1.1.2.2.2.2.2.2.2.1, b1.1.2.2.2.2.2.2.2.2.1, true, b1.1.2.2.2.2.2.2.2.2.2.2)).bind fun b2 => Bp (b1.2.length) ([b2].length) 96 (RET ((b1.1.1, b1.1.2.1, b1.1.2.2.1, b1.1.2.2.2.1, b1.1.2.2.2.2.1, b1.1.2.2.2.2.2.1, b1.1.2.2.2.2.2.2.1, b1.1.2.2.2.2.2.2.2.1, b1.1.2.2.2.2.2.2.2.2.1, true, b1.1.2.2.2.2.2.2.2.2.2.2), b1.2 ++ [b2]))) (RET b1)) (RET b1)) (RET b1)) (RET b1)
def F50 := Xb1 (β := (den fin) × Al) some
theorem X5d {β : Type} (k : Nat) (v : (den fin)) (K : KT β) : Ah (X81 k) Tryz.f50 (PsT.put Xxt (v, ())) K = (F50 k v).bind fun r => K (F50_O.put r) :=
 Eq.trans (b := Xb1 (fun r => K (F50_O.put r)) k v) (by kernel_rfl) (by simp only [F50, Xb1, z1, z2, z3, z4, z5, Ao])
def Xy0 (k : Nat) : FD := ⟨50, Xxt, F50_O, F50 k⟩
theorem X6g (k : Nat) : (Xy0 k).Ok Tryz.prog := ⟨fun x => Ab (Ak (Af (.c (Xo8 k) (.c (Xek k) .n))) _ _ _ _) Ai Tryz.func50 rfl rfl (X5d k _ some), .of (by kernel_rfl)⟩
abbrev X5f (k : Nat) : Env := Bg (Ay [Ej k, V9 k]) Aj .own [] k
abbrev Xq8 : List PA := [.one mI, .one mI]
abbrev F116_O : RO := ⟨[.v], [mI]⟩
def R9 {β : Type} (RET : Int → Option β) (k : Nat) (v w : Int) : Option β := (Gf k v 0 1000000).bind fun b1 => cond (!b1) (RET v) ((Gf k w 0 65535).bind fun b2 => cond (!b2) (RET v) ((Up k v).bind fun b3 => (Up k (i64.wrap (w - b3))).bind fun b4 => cond (decide (b4 ≥ 32768)) (RET (i64.wrap (v + (i64.wrap (b4 - 65536))))) (RET (i64.wrap (v + b4)))))
def Tg := R9 (β := Int) some
theorem Xux {β : Type} (k : Nat) (v w : Int) (K : KT β) : Ah (X5f k) Tryz.f116 (PsT.put Xq8 (v, w, ())) K = (Tg k v w).bind fun r => K (F116_O.put r) :=
 Eq.trans (b := R9 (fun r => K (F116_O.put r)) k v w) (by kernel_rfl) (by simp only [Tg, R9, z1, z2, z3, z4, z5])
def Xc1 (k : Nat) : FD := ⟨116, Xq8, F116_O, Tg k⟩
theorem Xot (k : Nat) : (Xc1 k).Ok Tryz.prog := ⟨fun x => Ab (Ak (Af (.c (Er k) (.c (Xbd k) .n))) _ _ _ _) Ai Tryz.func116 rfl rfl (Xux k _ _ some), .of (by kernel_rfl)⟩
def X0i : Nat → Hint
 | 0 => ⟨pl 1 1 (pl 3 1 (pl 8 1 (pl 10 3 []))), pl 8000 5 (pl 10000 1 ((10001, .own .own (.int .u8) []) :: (pl 10002 2 ((10004, .own .own Ap []) :: (pl 48000 1 (pl 57000 1 []))))))⟩
 | _ => ⟨[], []⟩
abbrev Zm (k : Nat) : Env := Bg (Ay [Lv k, Ej k, S8 k]) X0i .own [] k
abbrev Xco : List PA := [.agg (.pair mI m_3), .one mI, .one mI, .one (.sl .ro Ap)]
abbrev F117_O : RO := ⟨[.a, .v], [.pair mI Zz, mI]⟩
noncomputable def X09 {β : Type} (k : Nat) (v : (den Co)) (w p : Int) (q : Ae) (K : KT β) : Ex → St → Option β := Cz (Zm k) Tryz.f117 (PsT.put Xco (v, w, p, q, ())) K
def Xwx (v : (den Co)) (w p : Int) (q : Ae) (x12_0 : Int) (m10000_0 : (den Co)) : St := ⟨(.one .d) :: (.one (vI w)) :: (.one .d) :: (.one (.s .ro Ap q)) :: dz 4 ((.one (.ptr (.cell 8000) 5 0)) :: (.one .d) :: (.one (.ptr (.cell 10000) 5 0)) :: (.one (vI (i64.wrap (w - v.1)))) :: (.one (vI x12_0)) :: dz 112 []), Bc 8000 (Cb (.pair mI Zz) (0, [], 0, 0, [])) (Bc 10000 (Cb (.pair mI Zz) m10000_0) [eM 48000 .d, eM 57000 .d])⟩
noncomputable def Pa {β : Type} (k : Nat) (v : (den Co)) (w p : Int) (q : Ae) (K : KT β) (n : Nat) (x12_0 : Int) (m10000_0 : (den Co)) : Option β := Bu (Zm k) Tryz.f117 [1, 1, 1, 1, 1, 1, 1, 1, 1, 1, 0, 1, 0] 0 (A1 (Zm k) [1, 1, 1, 1, 1, 1, 1, 1, 1, 1, 0, 1, 0] (Aa Tryz.f117) 0 (X09 k v w p q K)) n (Xwx v w p q x12_0 m10000_0)
def D0 {β : Type} (k : Nat) (v : (den Co)) (w p : Int) (q : Ae) (NX : Int → (den Co) → Option β) (RET : (den Co) × Int → Option β) (m10000_0 : (den Co)) (x12_0 : Int) : Option β := Bp (m10000_0.2.2.2.2.length) ([(Bd q x12_0)].length) 16 (NX (i64.wrap (x12_0 + 1)) (m10000_0.1, m10000_0.2.1, m10000_0.2.2.1, m10000_0.2.2.2.1, m10000_0.2.2.2.2 ++ [(Bd q x12_0)]))
def E7 {β : Type} (NX : Int → (den Co) → Option β) (RET : (den Co) × Int → Option β) (k : Nat) (v : (den Co)) (w p : Int) (q : Ae) (x12_0 : Int) (m10000_0 : (den Co)) : Option β := cond (decide (x12_0 < (q.length : Int))) (Bi x12_0 q (cond (decide ((Bd q x12_0).1 > w)) (cond (decide ((Bd q x12_0).2 > (Bd q x12_0).1)) (cond (decide ((Bd q x12_0).2 ≤ (i64.wrap (w + m10000_0.2.2.1)))) (cond (decide ((m10000_0.2.2.2.2.length : Int) < 2)) (cond (decide ((i64.wrap ((m10000_0.2.2.2.2.length : Int) - 1)) < 0)) (D0 k v w p q NX RET m10000_0 x12_0) (Bi (i64.wrap ((m10000_0.2.2.2.2.length : Int) - 1)) m10000_0.2.2.2.2 (cond (decide ((Bd q x12_0).1 > (Bd m10000_0.2.2.2.2 (i64.wrap ((m10000_0.2.2.2.2.length : Int) - 1))).2)) (D0 k v w p q NX RET m10000_0 x12_0) (NX (i64.wrap (x12_0 + 1)) m10000_0)))) (NX (i64.wrap (x12_0 + 1)) m10000_0)) (NX (i64.wrap (x12_0 + 1)) m10000_0)) (NX (i64.wrap (x12_0 + 1)) m10000_0)) (NX (i64.wrap (x12_0 + 1)) m10000_0))) (cond (decide (w > 1000000)) (RET ((0, [], 0, 0, []), 0)) (RET (m10000_0, i64.wrap (w - v.1))))
def C5 (k : Nat) (v : (den Co)) (w p : Int) (q : Ae) : Nat → Int → (den Co) → Option ((den Co) × Int)
 | 0, _, _ => none
 | n + 1, x12_0, m10000_0 => E7 (C5 k v w p q n) some k v w p q x12_0 m10000_0
theorem Xed {β : Type} (k : Nat) (v : (den Co)) (w p : Int) (q : Ae) (K : KT β) (n : Nat) : ∀ (x12_0 : Int) (m10000_0 : (den Co)), Pa k v w p q K n x12_0 m10000_0 =
  (C5 k v w p q n x12_0 m10000_0).bind fun r => K (F117_O.put r) := by
 induction n with
 | zero => intros; rfl
 | succ n ih =>
  intro x12_0 m10000_0
  refine Eq.trans (b := E7 (Pa k v w p q K n) (fun r => K (F117_O.put r)) k v w p q x12_0 m10000_0) (by kernel_rfl) ?_
  rw [C5]
  simp only [E7, D0, z1, z2, z3, z4, z5, Bn, ih]
def T6 {β : Type} (LP0 : Int → (den Co) → Option β) (RET : (den Co) × Int → Option β) (k : Nat) (v : (den Co)) (w p : Int) (q : Ae) : Option β := Bn v fun v0 v1 v2 _ _ => (Un k v).bind fun b1 => cond (!b1) (RET ((0, [], 0, 0, []), 0)) ((Gf k p 0 255).bind fun b2 => cond (!b2) (RET ((0, [], 0, 0, []), 0)) ((Ur k v).bind fun b3 => cond (decide (w < v0)) (RET (b3, 0)) (cond (decide ((i64.wrap (w - v0)) > v2)) (RET (b3, 0)) (cond (decide (0 ≤ (i64.wrap (w - v0))) && decide ((i64.wrap (w - v0)) ≤ (v1.length : Int))) (Bp (([] : Ad).length) ((v1.drop ((i64.wrap (w - v0)).toNat)).length) 1 (LP0 0 (w, [] ++ (v1.drop ((i64.wrap (w - v0)).toNat)), i64.wrap (v2 - (i64.wrap (w - v0))), p, []))) none))))
def Xbv (k : Nat) (v : (den Co)) (w p : Int) (q : Ae) : Option ((den Co) × Int) := T6 (C5 k v w p q k) some k v w p q
theorem Xtd {β : Type} (k : Nat) (v : (den Co)) (w p : Int) (q : Ae) (K : KT β) : Ah (Zm k) Tryz.f117 (PsT.put Xco (v, w, p, q, ())) K = (Xbv k v w p q).bind fun r => K (F117_O.put r) :=
 Eq.trans (b := T6 (Pa k v w p q K k) (fun r => K (F117_O.put r)) k v w p q) (by kernel_rfl) (by simp only [Xbv, T6, z1, z2, z3, z4, z5, Bn, Xed])
def Xo4 (k : Nat) : FD := ⟨117, Xco, F117_O, Xbv k⟩
theorem X1y (k : Nat) : (Xo4 k).Ok Tryz.prog := ⟨fun x => Ab (Ak (Af (.c (Nn k) (.c (Er k) (.c (Yo k) .n)))) _ _ _ _) Ai Tryz.func117 rfl rfl (Xtd k _ _ _ _ some), .of (by kernel_rfl)⟩
def X8x : Nat → Hint
 | 0 => ⟨pl 2 3 (pl 6 2 ((9, .own .own Ap []) :: (pl 10 1 []))), pl 2000 24 (pl 3000 11 (pl 4000 24 []))⟩
 | _ => ⟨[], []⟩
abbrev Xin (k : Nat) : Env := Bg (Ay [Xc1 k, Xo4 k, Lv k]) X8x .ro [] k
abbrev Xpo : List PA := [.agg (.pair mI (.pair mI Cp)), .agg Cu]
abbrev F53_O : RO := ⟨[.a, .v], [.pair mI (.pair mI Cp), mB]⟩
noncomputable def X7s {β : Type} (k : Nat) (v : (den fin)) (w : (den seg)) (K : KT β) : Ex → St → Option β := Cz (Xin k) Tryz.f53 (PsT.put Xpo (v, w, ())) K
def X1d (v : (den fin)) (w : (den seg)) (x6_0 : Int) (x7_0 : Bool) (x10_0 : Int) (m2000_0 : (den fin)) (m9900_0 : Ae) : St := ⟨(.one .d) :: (.one .d) :: (.one (.ptr (.cell 2000) 24 0)) :: (.one (.ptr (.cell 3000) 11 0)) :: (.one (.ptr (.cell 4000) 24 0)) :: (.one .d) :: (.one (vI x6_0)) :: (.one (vB x7_0)) :: (.one .d) :: (.one (.a (.cell 9900) 0 0 none)) :: (.one (vI x10_0)) :: dz 101 [], Bc 2000 (Cb (.pair mI (.pair mI Cp)) m2000_0) (Bc 3000 (Cb Cu w) (Bc 4000 (Cb B8 (0, 0, 0, 0, 0, 0, (0, [], 0, 0, []), (0, 0, [], []), false, false, false, 0, 0, 0, 0, 0, 0)) [eM 9900 (.s .own Ap m9900_0)]))⟩
noncomputable def T7 {β : Type} (k : Nat) (v : (den fin)) (w : (den seg)) (K : KT β) (n : Nat) (x6_0 : Int) (x7_0 : Bool) (x10_0 : Int) (m2000_0 : (den fin)) (m9900_0 : Ae) : Option β := Bu (Xin k) Tryz.f53 [1, 1, 1, 1, 1, 1, 0, 1, 0] 0 (A1 (Xin k) [1, 1, 1, 1, 1, 1, 0, 1, 0] (Aa Tryz.f53) 0 (X7s k v w K)) n (X1d v w x6_0 x7_0 x10_0 m2000_0 m9900_0)
def Hn {β : Type} (NX : Int → Bool → Int → (den fin) → Ae → Option β) (RET : (den fin) × Bool → Option β) (k : Nat) (v : (den fin)) (w : (den seg)) (x6_0 : Int) (x7_0 : Bool) (x10_0 : Int) (m2000_0 : (den fin)) (m9900_0 : Ae) : Option β := cond (decide (x10_0 < (w.2.2.2.2.2.2.2.2.2.1.length : Int))) (Bi x10_0 w.2.2.2.2.2.2.2.2.2.1 ((Tg k m2000_0.2.2.2.2.2.2.1.1 (Bd w.2.2.2.2.2.2.2.2.2.1 x10_0).1).bind fun b2 => Bi x10_0 w.2.2.2.2.2.2.2.2.2.1 ((Tg k m2000_0.2.2.2.2.2.2.1.1 (Bd w.2.2.2.2.2.2.2.2.2.1 x10_0).2).bind fun b3 => Bp (m9900_0.length) ([(b2, b3)].length) 16 (NX x6_0 x7_0 (i64.wrap (x10_0 + 1)) m2000_0 (m9900_0 ++ [(b2, b3)]))))) ((Xbv k m2000_0.2.2.2.2.2.2.1 x6_0 w.2.2.2.2.1 m9900_0).bind fun b4 => (Un k b4.1).bind fun b5 => cond b5 (cond (decide (b4.1.1 ≥ m2000_0.2.2.2.2.2.2.1.1)) (cond x7_0 (RET ((m2000_0.1, m2000_0.2.1, m2000_0.2.2.1, m2000_0.2.2.2.1, m2000_0.2.2.2.2.1, m2000_0.2.2.2.2.2.1, b4.1, m2000_0.2.2.2.2.2.2.2), true)) (cond (decide (b4.2 > 0)) (RET ((m2000_0.1, m2000_0.2.1, m2000_0.2.2.1, m2000_0.2.2.2.1, m2000_0.2.2.2.2.1, m2000_0.2.2.2.2.2.1, b4.1, m2000_0.2.2.2.2.2.2.2), true)) (cond (decide (b4.1.2.2.2.1 > 0)) (RET ((m2000_0.1, m2000_0.2.1, m2000_0.2.2.1, m2000_0.2.2.2.1, m2000_0.2.2.2.2.1, m2000_0.2.2.2.2.2.1, b4.1, m2000_0.2.2.2.2.2.2.2), (m2000_0.2.2.2.2.2.2.1.2.2.2.1 == 0))) (RET ((m2000_0.1, m2000_0.2.1, m2000_0.2.2.1, m2000_0.2.2.2.1, m2000_0.2.2.2.2.1, m2000_0.2.2.2.2.2.1, b4.1, m2000_0.2.2.2.2.2.2.2), false))))) (RET (m2000_0, x7_0))) (RET (m2000_0, x7_0)))
def En (k : Nat) (v : (den fin)) (w : (den seg)) : Nat → Int → Bool → Int → (den fin) → Ae → Option ((den fin) × Bool)
 | 0, _, _, _, _, _ => none
 | n + 1, x6_0, x7_0, x10_0, m2000_0, m9900_0 => Hn (En k v w n) some k v w x6_0 x7_0 x10_0 m2000_0 m9900_0
theorem Xj4 {β : Type} (k : Nat) (v : (den fin)) (w : (den seg)) (K : KT β) (n : Nat) : ∀ (x6_0 : Int) (x7_0 : Bool) (x10_0 : Int) (m2000_0 : (den fin)) (m9900_0 : Ae), T7 k v w K n x6_0 x7_0 x10_0 m2000_0 m9900_0 =
  (En k v w n x6_0 x7_0 x10_0 m2000_0 m9900_0).bind fun r => K (F53_O.put r) := by
 induction n with
 | zero => intros; rfl
 | succ n ih =>
  intro x6_0 x7_0 x10_0 m2000_0 m9900_0
  refine Eq.trans (b := Hn (T7 k v w K n) (fun r => K (F53_O.put r)) k v w x6_0 x7_0 x10_0 m2000_0 m9900_0) (by kernel_rfl) ?_
  rw [En]
  simp only [Hn, z1, z2, z3, z4, z5, Ao, A8, ih]
def Xbo {β : Type} (LP0 : Int → Bool → Int → (den fin) → Ae → Option β) (k : Nat) (v : (den fin)) (w : (den seg)) : Option β := Ao v fun v0 v1 v2 v3 v4 v5 v6 v7 _ _ _ _ _ _ _ v15 v16 v17 _ _ _ _ _ _ => (Tg k v6 w.2.2.2.1).bind fun b1 => cond v16 (cond (b1 == (i64.wrap ((i64.wrap (v6 + (v7.length : Int))) + 1))) (LP0 (i64.wrap (v6 + (v7.length : Int))) (!v17) 0 (v0, v1, v2, v3, v4, v5, v.2.2.2.2.2.2.1, v.2.2.2.2.2.2.2.1, v15, v16, true, v.2.2.2.2.2.2.2.2.2.2.2) []) (LP0 b1 false 0 v [])) (LP0 b1 false 0 v [])
def F53 (k : Nat) (v : (den fin)) (w : (den seg)) : Option ((den fin) × Bool) := Xbo (En k v w k) k v w
theorem X50 {β : Type} (k : Nat) (v : (den fin)) (w : (den seg)) (K : KT β) : Ah (Xin k) Tryz.f53 (PsT.put Xpo (v, w, ())) K = (F53 k v w).bind fun r => K (F53_O.put r) :=
 Eq.trans (b := Xbo (T7 k v w K k) k v w) (by kernel_rfl) (by simp only [F53, Xbo, z1, z2, z3, z4, z5, Ao, A8, Xj4])
def Xy3 (k : Nat) : FD := ⟨53, Xpo, F53_O, F53 k⟩
theorem X8o (k : Nat) : (Xy3 k).Ok Tryz.prog := ⟨fun x => Ab (Ak (Af (.c (Xot k) (.c (X1y k) (.c (Nn k) .n)))) _ _ _ _) Ai Tryz.func53 rfl rfl (X50 k _ _ some), .of (by kernel_rfl)⟩
end
end Go.Proofs.YtjkkbmkkljpcjaaGreat.Gn
end

section
set_option linter.unusedVariables false
set_option linter.unusedSimpArgs false
namespace Go.Proofs.YtjkkbmkkljpcjaaGreat.Gn
open Go.Rf IntKind
noncomputable section
def X3j : Nat → Hint
 | 0 => ⟨pl 0 1 (pl 3 1 ((5, .own .own Av []) :: (pl 6 2 []))), pl 3000 2 []⟩
 | _ => ⟨[], []⟩
abbrev Yc (k : Nat) : Env := Bg Ca X3j .own [] k
abbrev Xc3 : List PA := [.one (.sl .ro Av), .agg (.pair mI (.int .u8))]
abbrev F154_O : RO := ⟨[.v], [.sl .own Av]⟩
noncomputable def X1s {β : Type} (k : Nat) (v : Aw) (w : (den Av)) (K : KT β) : Ex → St → Option β := Cz (Yc k) Tryz.f154 (PsT.put Xc3 (v, w, ())) K
def Xwv (v : Aw) (w : (den Av)) (x6_0 : Bool) (x7_0 : Int) (m5900_0 : Aw) : St := ⟨(.one (.s .ro Av v)) :: (.one .d) :: (.one .d) :: (.one (.ptr (.cell 3000) 2 0)) :: (.one .d) :: (.one (.a (.cell 5900) 0 0 none)) :: (.one (vB x6_0)) :: (.one (vI x7_0)) :: dz 45 [], Bc 3000 (Cb (.pair mI (.int .u8)) w) [eM 5900 (.s .own Av m5900_0)]⟩
noncomputable def On {β : Type} (k : Nat) (v : Aw) (w : (den Av)) (K : KT β) (n : Nat) (x6_0 : Bool) (x7_0 : Int) (m5900_0 : Aw) : Option β := Bu (Yc k) Tryz.f154 [1, 1, 1, 0, 1, 0] 0 (A1 (Yc k) [1, 1, 1, 0, 1, 0] (Aa Tryz.f154) 0 (X1s k v w K)) n (Xwv v w x6_0 x7_0 m5900_0)
def Fg {β : Type} (k : Nat) (v : Aw) (w : (den Av)) (NX : Bool → Int → Aw → Option β) (RET : Aw → Option β) (x7_0 : Int) (m5900_0 : Aw) : Option β := Sg w fun w0 w1 => Bi x7_0 v (Bp ((m5900_0 ++ [(w0, w1)]).length) ([(Bd v x7_0)].length) 16 (NX true (i64.wrap (x7_0 + 1)) ((m5900_0 ++ [(w0, w1)]) ++ [(Bd v x7_0)])))
def Fb {β : Type} (k : Nat) (v : Aw) (w : (den Av)) (NX : Bool → Int → Aw → Option β) (RET : Aw → Option β) (x7_0 : Int) (m5900_0 : Aw) (x6_0 : Bool) : Option β := Bi x7_0 v (cond (w.1 == (Bd v x7_0).1) (Bi x7_0 v (Bp (m5900_0.length) ([(Bd v x7_0)].length) 16 (NX true (i64.wrap (x7_0 + 1)) (m5900_0 ++ [(Bd v x7_0)])))) (Bi x7_0 v (Bp (m5900_0.length) ([(Bd v x7_0)].length) 16 (NX x6_0 (i64.wrap (x7_0 + 1)) (m5900_0 ++ [(Bd v x7_0)])))))
def G4 {β : Type} (NX : Bool → Int → Aw → Option β) (RET : Aw → Option β) (k : Nat) (v : Aw) (w : (den Av)) (x6_0 : Bool) (x7_0 : Int) (m5900_0 : Aw) : Option β := Sg w fun w0 w1 => cond (decide (x7_0 < (v.length : Int))) (cond (!x6_0) (Bi x7_0 v (cond (decide (w0 < (Bd v x7_0).1)) (Bp (m5900_0.length) ([(w0, w1)].length) 16 (Bi x7_0 v (cond (w0 == (Bd v x7_0).1) (Fg k v w NX RET x7_0 m5900_0) (Fg k v w NX RET x7_0 m5900_0)))) (Fb k v w NX RET x7_0 m5900_0 x6_0))) (Fb k v w NX RET x7_0 m5900_0 x6_0)) (cond (!x6_0) (Bp (m5900_0.length) ([(w0, w1)].length) 16 (RET (m5900_0 ++ [(w0, w1)]))) (RET m5900_0))
def Dk (k : Nat) (v : Aw) (w : (den Av)) : Nat → Bool → Int → Aw → Option (Aw)
 | 0, _, _, _ => none
 | n + 1, x6_0, x7_0, m5900_0 => G4 (Dk k v w n) some k v w x6_0 x7_0 m5900_0
theorem Xey {β : Type} (k : Nat) (v : Aw) (w : (den Av)) (K : KT β) (n : Nat) : ∀ (x6_0 : Bool) (x7_0 : Int) (m5900_0 : Aw), On k v w K n x6_0 x7_0 m5900_0 =
  (Dk k v w n x6_0 x7_0 m5900_0).bind fun r => K (F154_O.put r) := by
 induction n with
 | zero => intros; rfl
 | succ n ih =>
  intro x6_0 x7_0 m5900_0
  refine Eq.trans (b := G4 (On k v w K n) (fun r => K (F154_O.put r)) k v w x6_0 x7_0 m5900_0) (by kernel_rfl) ?_
  rw [Dk]
  simp only [G4, Fg, Fb, z1, z2, z3, z4, z5, Sg, ih]
def Xdf {β : Type} (LP0 : Bool → Int → Aw → Option β) (k : Nat) (v : Aw) (w : (den Av)) : Option β := LP0 false 0 []
def Xji (k : Nat) (v : Aw) (w : (den Av)) : Option (Aw) := Xdf (Dk k v w k) k v w
theorem Xu5 {β : Type} (k : Nat) (v : Aw) (w : (den Av)) (K : KT β) : Ah (Yc k) Tryz.f154 (PsT.put Xc3 (v, w, ())) K = (Xji k v w).bind fun r => K (F154_O.put r) :=
 Eq.trans (b := Xdf (On k v w K k) k v w) (by kernel_rfl) (by simp only [Xji, Xdf, z1, z2, z3, z4, z5, Sg, Xey])
def Xne (k : Nat) : FD := ⟨154, Xc3, F154_O, Xji k⟩
theorem X0a (k : Nat) : (Xne k).Ok Tryz.prog := ⟨fun x => Ab (Ak .none _ _ _ _) Ai Tryz.func154 rfl rfl (Xu5 k _ _ some), .of (by kernel_rfl)⟩
def X5k : Nat → Hint
 | 0 => ⟨pl 1 3 (pl 6 2 ((8, .own .own Av []) :: (pl 9 1 []))), pl 3000 4 (pl 6000 4 [])⟩
 | 2 => ⟨pl 6 1 (pl 8 1 (pl 10 2 [])), pl 6000 4 (pl 8900 1 (pl 10000 2 ((10002, .own .own (.int .u8) []) :: (pl 10003 1 (pl 66000 1 [])))))⟩
 | _ => ⟨[], []⟩
abbrev N6 (k : Nat) : Env := Bg (Ay [Lm k, Ej k, Rv k, Xne k]) X5k .own [] k
abbrev Xc9 : List PA := [.agg (.pair mI (.pair mI U7)), .one mI, .one (.sl .ro (.int .u8))]
abbrev F118_O : RO := ⟨[.a], [.pair mI (.pair mI N2)]⟩
noncomputable def Xmc {β : Type} (k : Nat) (v : (den A9)) (w : Int) (p : Ad) (K : KT β) : Ex → St → Option β := Cz (N6 k) Tryz.f118 (PsT.put Xc9 (v, w, p, ())) K
def Xts (v : (den A9)) (w : Int) (p : Ad) (x11_2 : Int) (m8900_2 : Aw) (m10000_2 : (den A9)) : St := ⟨dz 6 ((.one (.ptr (.cell 6000) 4 0)) :: (.one .d) :: (.one (.a (.cell 8900) 0 0 none)) :: (.one .d) :: (.one (.ptr (.cell 10000) 4 0)) :: (.one (vI x11_2)) :: dz 95 []), Bc 6000 (Cb (.pair mI (.pair mI N2)) (0, 0, [], [])) ((eM 8900 (.s .own Av m8900_2)) :: Bc 10000 (Cb (.pair mI (.pair mI N2)) m10000_2) [eM 66000 .d])⟩
noncomputable def Pk {β : Type} (k : Nat) (v : (den A9)) (w : Int) (p : Ad) (K : KT β) (n : Nat) (x11_2 : Int) (m8900_2 : Aw) (m10000_2 : (den A9)) : Option β := Bu (N6 k) Tryz.f118 [1, 1, 1, 1, 1, 1, 1, 0, 0] 2 (A1 (N6 k) [1, 1, 1, 1, 1, 1, 1, 0, 0] (Aa Tryz.f118) 0 (Xmc k v w p K)) n (Xts v w p x11_2 m8900_2 m10000_2)
def Fj {β : Type} (k : Nat) (v : (den A9)) (w : Int) (p : Ad) (NX : Int → Aw → (den A9) → Option β) (RET : (den A9) → Option β) (x11_2 : Int) (m8900_2 : Aw) (m10000_2 : (den A9)) : Option β := cond (decide (0 ≤ x11_2) && decide (x11_2 ≤ (m8900_2.length : Int))) (cond (decide (m10000_2.1 > 1000000)) (RET (0, 0, [], [])) (RET (m10000_2.1, m10000_2.2.1, m10000_2.2.2.1, (m8900_2.take (((m8900_2.length : Int)).toNat)).drop x11_2.toNat))) none
def Gv {β : Type} (NX : Int → Aw → (den A9) → Option β) (RET : (den A9) → Option β) (k : Nat) (v : (den A9)) (w : Int) (p : Ad) (x11_2 : Int) (m8900_2 : Aw) (m10000_2 : (den A9)) : Option β := cond (decide (x11_2 < (m8900_2.length : Int))) (Bi x11_2 m8900_2 (cond ((Bd m8900_2 x11_2).1 == m10000_2.1) (Bi x11_2 m8900_2 (Bp (m10000_2.2.2.1.length) ([(Bd m8900_2 x11_2).2].length) 1 (NX (i64.wrap (x11_2 + 1)) m8900_2 (i64.wrap (m10000_2.1 + 1), m10000_2.2.1, m10000_2.2.2.1 ++ [(Bd m8900_2 x11_2).2], m10000_2.2.2.2)))) (Fj k v w p NX RET x11_2 m8900_2 m10000_2))) (Fj k v w p NX RET x11_2 m8900_2 m10000_2)
def Eu (k : Nat) (v : (den A9)) (w : Int) (p : Ad) : Nat → Int → Aw → (den A9) → Option ((den A9))
 | 0, _, _, _ => none
 | n + 1, x11_2, m8900_2, m10000_2 => Gv (Eu k v w p n) some k v w p x11_2 m8900_2 m10000_2
theorem Xft {β : Type} (k : Nat) (v : (den A9)) (w : Int) (p : Ad) (K : KT β) (n : Nat) : ∀ (x11_2 : Int) (m8900_2 : Aw) (m10000_2 : (den A9)), Pk k v w p K n x11_2 m8900_2 m10000_2 =
  (Eu k v w p n x11_2 m8900_2 m10000_2).bind fun r => K (F118_O.put r) := by
 induction n with
 | zero => intros; rfl
 | succ n ih =>
  intro x11_2 m8900_2 m10000_2
  refine Eq.trans (b := Gv (Pk k v w p K n) (fun r => K (F118_O.put r)) k v w p x11_2 m8900_2 m10000_2) (by kernel_rfl) ?_
  rw [Eu]
  simp only [Gv, Fj, z1, z2, z3, z4, z5, Bs, ih]
def Xu3 (v : (den A9)) (w : Int) (p : Ad) (x7_0 x9_0 : Int) (m8900_0 : Aw) : St := ⟨(.one .d) :: (.one (vI w)) :: (.one (.s .ro (.int .u8) p)) :: (.one (.ptr (.cell 3000) 4 0)) :: (.one .d) :: (.one .d) :: (.one (.ptr (.cell 6000) 4 0)) :: (.one (vI x7_0)) :: (.one (.a (.cell 8900) 0 0 none)) :: (.one (vI x9_0)) :: dz 97 [], Bc 3000 (Cb (.pair mI (.pair mI U7)) v) (Bc 6000 (Cb (.pair mI (.pair mI N2)) (0, 0, [], [])) [eM 8900 (.s .own Av m8900_0)])⟩
noncomputable def Nx {β : Type} (k : Nat) (v : (den A9)) (w : Int) (p : Ad) (K : KT β) (n : Nat) (x7_0 x9_0 : Int) (m8900_0 : Aw) : Option β := Bu (N6 k) Tryz.f118 [1, 1, 1, 1, 0, 1, 0] 0 (A1 (N6 k) [1, 1, 1, 1, 0, 1, 0] (Aa Tryz.f118) 0 (Xmc k v w p K)) n (Xu3 v w p x7_0 x9_0 m8900_0)
def Hi {β : Type} (NX : Int → Int → Aw → Option β) (LP2 : Int → Aw → (den A9) → Option β) (k : Nat) (v : (den A9)) (w : Int) (p : Ad) (x7_0 x9_0 : Int) (m8900_0 : Aw) : Option β := Bs v fun v0 v1 v2 _ => cond (decide (x9_0 < (p.length : Int))) (cond (decide ((i64.wrap (w + x9_0)) ≥ v0)) (cond (decide ((i64.wrap (w + x9_0)) < (i64.wrap (v0 + x7_0)))) (Bi x9_0 p ((Xji k m8900_0 (i64.wrap (w + x9_0), Bd p x9_0)).bind fun b4 => NX x7_0 (i64.wrap (x9_0 + 1)) b4)) (NX x7_0 (i64.wrap (x9_0 + 1)) m8900_0)) (NX x7_0 (i64.wrap (x9_0 + 1)) m8900_0)) (Bp (([] : Ad).length) (v2.length) 1 (LP2 0 m8900_0 (v0, v1, [] ++ v2, [])))
def Ge (k : Nat) (v : (den A9)) (w : Int) (p : Ad) : Nat → Int → Int → Aw → Option ((den A9))
 | 0, _, _, _ => none
 | n + 1, x7_0, x9_0, m8900_0 => Hi (Ge k v w p n) (Eu k v w p k) k v w p x7_0 x9_0 m8900_0
theorem Xdd {β : Type} (k : Nat) (v : (den A9)) (w : Int) (p : Ad) (K : KT β) (n : Nat) : ∀ (x7_0 x9_0 : Int) (m8900_0 : Aw), Nx k v w p K n x7_0 x9_0 m8900_0 =
  (Ge k v w p n x7_0 x9_0 m8900_0).bind fun r => K (F118_O.put r) := by
 induction n with
 | zero => intros; rfl
 | succ n ih =>
  intro x7_0 x9_0 m8900_0
  refine Eq.trans (b := Hi (Nx k v w p K n) (Pk k v w p K k) k v w p x7_0 x9_0 m8900_0) (by kernel_rfl) ?_
  rw [Ge]
  simp only [Hi, z1, z2, z3, z4, z5, Bs, Xft, ih]
def O8 {β : Type} (LP0 : Int → Int → Aw → Option β) (RET : (den A9) → Option β) (k : Nat) (v : (den A9)) (w : Int) (p : Ad) : Option β := (Qj k v).bind fun b1 => cond (!b1) (RET (0, 0, [], [])) ((Gf k w 0 1000000).bind fun b2 => cond (!b2) (RET (0, 0, [], [])) ((Jx k v).bind fun b3 => Bp (([] : Aw).length) (v.2.2.2.length) 16 (LP0 b3 0 ([] ++ v.2.2.2))))
def U2 (k : Nat) (v : (den A9)) (w : Int) (p : Ad) : Option ((den A9)) := O8 (Ge k v w p k) some k v w p
theorem Xvq {β : Type} (k : Nat) (v : (den A9)) (w : Int) (p : Ad) (K : KT β) : Ah (N6 k) Tryz.f118 (PsT.put Xc9 (v, w, p, ())) K = (U2 k v w p).bind fun r => K (F118_O.put r) :=
 Eq.trans (b := O8 (Nx k v w p K k) (fun r => K (F118_O.put r)) k v w p) (by kernel_rfl) (by simp only [U2, O8, z1, z2, z3, z4, z5, Bs, Xdd])
def Xqp (k : Nat) : FD := ⟨118, Xc9, F118_O, U2 k⟩
theorem X53 (k : Nat) : (Xqp k).Ok Tryz.prog := ⟨fun x => Ab (Ak (Af (.c (Ns k) (.c (Er k) (.c (Yq k) (.c (X0a k) .n))))) _ _ _ _) Ai Tryz.func118 rfl rfl (Xvq k _ _ _ some), .of (by kernel_rfl)⟩
def Xeh : Hint := Jt [2, 3, 4, 5] [2000, 2001, 2002, 2003, 2004, 2005, 2006, 2007, 2008, 2009, 2010, 2011, 2012, 2013, 2014, 2015, 2016, 2017, 2018, 2019, 2020, 2021, 2022, 2023, 3000, 3001, 3002, 3003, 3004, 3005, 3006, 3007, 3008, 3009, 3010, 4000, 4001, 4002, 4003, 4004, 4005, 4006, 4007, 4008, 4009, 4010, 4011, 4012, 4013, 4014, 4015, 4016, 4017, 4018, 4019, 4020, 4021, 4022, 4023]
def Xdz : Hint := Jt [2, 3, 4, 5, 6] [2000, 2001, 2002, 2003, 2004, 2005, 2006, 2007, 2008, 2009, 2010, 2011, 2012, 2013, 2014, 2015, 2016, 2017, 2018, 2019, 2020, 2021, 2022, 2023, 3000, 3001, 3002, 3003, 3004, 3005, 3006, 3007, 3008, 3009, 3010, 4000, 4001, 4002, 4003, 4004, 4005, 4006, 4007, 4008, 4009, 4010, 4011, 4012, 4013, 4014, 4015, 4016, 4017, 4018, 4019, 4020, 4021, 4022, 4023]
def Xdo : Hint := Jt [2, 4] [2000, 2001, 2002, 2003, 2004, 2005, 2006, 2007, 2008, 2009, 2010, 2011, 2012, 2013, 2014, 2015, 2016, 2017, 2018, 2019, 2020, 2021, 2022, 2023, 4000, 4001, 4002, 4003, 4004, 4005, 4006, 4007, 4008, 4009, 4010, 4011, 4012, 4013, 4014, 4015, 4016, 4017, 4018, 4019, 4020, 4021, 4022, 4023, 43002, 43003]
def Xqg : Nat → Option Hint
 | 4 => some Xeh
 | 7 => some Xdz
 | 14 => some Xdo
 | _ => none
abbrev Di (k : Nat) : Env := { Bg (Ay [Xc1 k, Xqp k, Lm k, Rv k]) Aj .ro [] k with rh := Xqg }
abbrev Xnm : List PA := [.agg (.pair mI (.pair mI Cp)), .agg Cu]
abbrev F54_O : RO := ⟨[.a], [.pair mI (.pair mI Cp)]⟩
noncomputable def Qb {β : Type} (k : Nat) (v : (den fin)) (w : (den seg)) (K : KT β) : Ex → St → Option β := Cz (Di k) Tryz.f54 (PsT.put Xnm (v, w, ())) K
def Xeu (v : (den fin)) (w : (den seg)) (x5_c1 : Int) : St := ⟨(.one .d) :: (.one .d) :: (.one (.ptr (.cell 2000) 24 0)) :: (.one (.ptr (.cell 3000) 11 0)) :: (.one (.ptr (.cell 4000) 24 0)) :: (.one (vI x5_c1)) :: dz 91 [], Bc 2000 (Cb (.pair mI (.pair mI Cp)) v) (Bc 3000 (Cb Cu w) (Bc 4000 (Cb B8 (0, 0, 0, 0, 0, 0, (0, [], 0, 0, []), (0, 0, [], []), false, false, false, 0, 0, 0, 0, 0, 0)) []))⟩
def Xfl (v : (den fin)) (w : (den seg)) (x5_c2 x6_c2 : Int) : St := ⟨(.one .d) :: (.one .d) :: (.one (.ptr (.cell 2000) 24 0)) :: (.one (.ptr (.cell 3000) 11 0)) :: (.one (.ptr (.cell 4000) 24 0)) :: (.one (vI x5_c2)) :: (.one (vI x6_c2)) :: dz 90 [], Bc 2000 (Cb (.pair mI (.pair mI Cp)) v) (Bc 3000 (Cb Cu w) (Bc 4000 (Cb B8 (0, 0, 0, 0, 0, 0, (0, [], 0, 0, []), (0, 0, [], []), false, false, false, 0, 0, 0, 0, 0, 0)) []))⟩
def Xnt (v : (den fin)) (w : (den seg)) (m2000_c3 : (den fin)) : St := ⟨(.one .d) :: (.one .d) :: (.one (.ptr (.cell 2000) 24 0)) :: (.one .d) :: (.one (.ptr (.cell 4000) 24 0)) :: dz 92 [], (iM 2000 m2000_c3.1) :: (iM 2001 m2000_c3.2.1) :: (iM 2002 m2000_c3.2.2.1) :: (iM 2003 m2000_c3.2.2.2.1) :: (iM 2004 m2000_c3.2.2.2.2.1) :: (iM 2005 m2000_c3.2.2.2.2.2.1) :: (iM 2006 m2000_c3.2.2.2.2.2.2.1.1) :: (eM 2007 (.s .ro (.int .u8) m2000_c3.2.2.2.2.2.2.1.2.1)) :: (iM 2008 m2000_c3.2.2.2.2.2.2.1.2.2.1) :: (iM 2009 m2000_c3.2.2.2.2.2.2.1.2.2.2.1) :: (eM 2010 (.s .ro Ap m2000_c3.2.2.2.2.2.2.1.2.2.2.2)) :: (iM 2011 m2000_c3.2.2.2.2.2.2.2.1.1) :: (iM 2012 m2000_c3.2.2.2.2.2.2.2.1.2.1) :: (eM 2013 (.a (.cell 43002) 0 0 none)) :: (eM 2014 (.a (.cell 43003) 0 0 none)) :: (eM 2015 (vB m2000_c3.2.2.2.2.2.2.2.2.1)) :: (eM 2016 (vB m2000_c3.2.2.2.2.2.2.2.2.2.1)) :: (eM 2017 (vB m2000_c3.2.2.2.2.2.2.2.2.2.2.1)) :: (iM 2018 m2000_c3.2.2.2.2.2.2.2.2.2.2.2.1) :: (iM 2019 m2000_c3.2.2.2.2.2.2.2.2.2.2.2.2.1) :: (iM 2020 m2000_c3.2.2.2.2.2.2.2.2.2.2.2.2.2.1) :: (iM 2021 m2000_c3.2.2.2.2.2.2.2.2.2.2.2.2.2.2.1) :: (iM 2022 m2000_c3.2.2.2.2.2.2.2.2.2.2.2.2.2.2.2.1) :: (iM 2023 m2000_c3.2.2.2.2.2.2.2.2.2.2.2.2.2.2.2.2) :: (Bc 4000 (Cb B8 (0, 0, 0, 0, 0, 0, (0, [], 0, 0, []), (0, 0, [], []), false, false, false, 0, 0, 0, 0, 0, 0)) [eM 43002 (.s .own (.int .u8) m2000_c3.2.2.2.2.2.2.2.1.2.2.1), eM 43003 (.s .own Av m2000_c3.2.2.2.2.2.2.2.1.2.2.2)])⟩
def Xhu {β : Type} (RET : (den fin) → Option β) (k : Nat) (v : (den fin)) (w : (den seg)) (m2000_c3 : (den fin)) : Option β := RET m2000_c3
def N8 {β : Type} (k : Nat) (v : (den fin)) (w : (den seg)) (m2000_c3 : (den fin)) (RET : (den fin) → Option β) : Option β := Xhu RET k v w m2000_c3
theorem Xqf {β γ : Type} (k : Nat) (v : (den fin)) (w : (den seg)) (m2000_c3 : (den fin)) (RET : (den fin) → Option β) (g : β → Option γ) : (N8 k v w m2000_c3 RET).bind g = N8 k v w m2000_c3 (fun r => (RET r).bind g) := by
 simp only [N8, Xhu, Ao, A8, z1, z2, z4]
theorem Xlr {β : Type} (k : Nat) (v : (den fin)) (w : (den seg)) (m2000_c3 : (den fin)) (K : KT β) : G5 (Di k) (Ac [1, 1, 1, 1, 1, 1, 1, 1, 1, 1] (Aa Tryz.f54)) (Qb k v w K) (Xnt v w m2000_c3) = N8 k v w m2000_c3 (fun r => K (F54_O.put r)) := by kernel_rfl
def Nb {β : Type} (RET : (den fin) → Option β) (GT : (den fin) → Option β) (k : Nat) (v : (den fin)) (w : (den seg)) (x5_c2 x6_c2 : Int) : Option β := Ao v fun v0 v1 v2 v3 v4 v5 _ _ _ _ _ _ _ _ _ v15 v16 v17 v18 _ _ _ _ _ => (U2 k v.2.2.2.2.2.2.2.1 x5_c2 w.2.2.2.2.2.2.2.2.2.2).bind fun b23 => (Qj k b23).bind fun b24 => cond (!b24) (RET v) (cond w.2.2.2.2.2.2.2.1 (cond (v18 == (-1)) (cond (decide (x6_c2 ≥ b23.1)) ((Jx k b23).bind fun b25 => cond (decide (x6_c2 ≤ (i64.wrap (b23.1 + b25)))) (cond (decide (x6_c2 ≤ 1000000)) (cond ((b23.2.2.2.length : Int) == 0) (GT (v0, v1, v2, v3, v4, v5, v.2.2.2.2.2.2.1, b23, v15, v16, v17, x6_c2, v.2.2.2.2.2.2.2.2.2.2.2.2)) (Bi (i64.wrap ((b23.2.2.2.length : Int) - 1)) b23.2.2.2 (cond (decide ((Bd b23.2.2.2 (i64.wrap ((b23.2.2.2.length : Int) - 1))).1 < x6_c2)) (GT (v0, v1, v2, v3, v4, v5, v.2.2.2.2.2.2.1, b23, v15, v16, v17, x6_c2, v.2.2.2.2.2.2.2.2.2.2.2.2)) (GT (v0, v1, v2, v3, v4, v5, v.2.2.2.2.2.2.1, b23, v.2.2.2.2.2.2.2.2))))) (GT (v0, v1, v2, v3, v4, v5, v.2.2.2.2.2.2.1, b23, v.2.2.2.2.2.2.2.2))) (GT (v0, v1, v2, v3, v4, v5, v.2.2.2.2.2.2.1, b23, v.2.2.2.2.2.2.2.2))) (GT (v0, v1, v2, v3, v4, v5, v.2.2.2.2.2.2.1, b23, v.2.2.2.2.2.2.2.2))) (GT (v0, v1, v2, v3, v4, v5, v.2.2.2.2.2.2.1, b23, v.2.2.2.2.2.2.2.2))) (GT (v0, v1, v2, v3, v4, v5, v.2.2.2.2.2.2.1, b23, v.2.2.2.2.2.2.2.2)))
def Gk {β : Type} (k : Nat) (v : (den fin)) (w : (den seg)) (x5_c2 x6_c2 : Int) (RET : (den fin) → Option β) : Option β := Nb RET (fun y0 => N8 k v w y0 RET) k v w x5_c2 x6_c2
theorem Xsl {β γ : Type} (k : Nat) (v : (den fin)) (w : (den seg)) (x5_c2 x6_c2 : Int) (RET : (den fin) → Option β) (g : β → Option γ) : (Gk k v w x5_c2 x6_c2 RET).bind g = Gk k v w x5_c2 x6_c2 (fun r => (RET r).bind g) := by
 simp only [Gk, Nb, Ao, A8, z1, z2, z4, Xqf]
theorem Xm9 {β : Type} (k : Nat) (v : (den fin)) (w : (den seg)) (x5_c2 x6_c2 : Int) (t : St → Option β) (K : KT β) : Qi (Di k) (Ac [1, 1, 1, 1, 1, 0] (Aa Tryz.f54)) (Xfl v w x5_c2 x6_c2) (Cc (Di k) (Ac [1, 1, 1, 1, 1, 1, 0] (Aa Tryz.f54)) 0 (Cc (Di k) (Ac [1, 1, 1, 1, 1, 1, 1, 0] (Aa Tryz.f54)) 0 (Cc (Di k) (Ac [1, 1, 1, 1, 1, 1, 1, 1, 0] (Aa Tryz.f54)) 0 (Cc (Di k) (Ac [1, 1, 1, 1, 1, 1, 1, 1, 1, 0] (Aa Tryz.f54)) 0 (Is (Di k) Xdo t (Qb k v w K)))))) =
  Nb (fun r => K (F54_O.put r)) (fun y0 => t (Xnt v w y0)) k v w x5_c2 x6_c2 := by kernel_rfl
theorem Xrn : (Ac [1, 1, 1, 1, 1] (Aa Tryz.f54)) = (.seq (Ac [1, 1, 1, 1, 1, 0] (Aa Tryz.f54)) (.seq (Ac [1, 1, 1, 1, 1, 1, 0] (Aa Tryz.f54)) (.seq (Ac [1, 1, 1, 1, 1, 1, 1, 0] (Aa Tryz.f54)) (.seq (Ac [1, 1, 1, 1, 1, 1, 1, 1, 0] (Aa Tryz.f54)) (.seq (Ac [1, 1, 1, 1, 1, 1, 1, 1, 1, 0] (Aa Tryz.f54)) (Ac [1, 1, 1, 1, 1, 1, 1, 1, 1, 1] (Aa Tryz.f54))))))) := by kernel_rfl
theorem Xqu {β : Type} (k : Nat) (v : (den fin)) (w : (den seg)) (x5_c2 x6_c2 : Int) (K : KT β) : G5 (Di k) (Ac [1, 1, 1, 1, 1] (Aa Tryz.f54)) (Qb k v w K) (Xfl v w x5_c2 x6_c2) = Gk k v w x5_c2 x6_c2 (fun r => K (F54_O.put r)) := by
 rw [Xrn, Dj, Bl, Bl, Bl, Bl, B1 (c := (Ac [1, 1, 1, 1, 1, 1, 1, 1, 1, 1] (Aa Tryz.f54))) (i := 14) (h := Xdo) (by kernel_rfl) rfl, Xm9]
 simp only [Xlr, Gk]
def L4 {β : Type} (RET : (den fin) → Option β) (GT : Int → Int → Option β) (k : Nat) (v : (den fin)) (w : (den seg)) (x5_c1 : Int) : Option β := cond (decide (x5_c1 < 0)) (RET v) (cond (decide (v.2.2.2.2.2.2.2.2.2.2.2.1 ≥ 0)) (cond (decide ((i64.wrap (x5_c1 + (w.2.2.2.2.2.2.2.2.2.2.length : Int))) > v.2.2.2.2.2.2.2.2.2.2.2.1)) (RET v) (GT x5_c1 (i64.wrap (x5_c1 + (w.2.2.2.2.2.2.2.2.2.2.length : Int))))) (GT x5_c1 (i64.wrap (x5_c1 + (w.2.2.2.2.2.2.2.2.2.2.length : Int)))))
def Gj {β : Type} (k : Nat) (v : (den fin)) (w : (den seg)) (x5_c1 : Int) (RET : (den fin) → Option β) : Option β := L4 RET (fun y0 y1 => Gk k v w y0 y1 RET) k v w x5_c1
theorem Xob {β γ : Type} (k : Nat) (v : (den fin)) (w : (den seg)) (x5_c1 : Int) (RET : (den fin) → Option β) (g : β → Option γ) : (Gj k v w x5_c1 RET).bind g = Gj k v w x5_c1 (fun r => (RET r).bind g) := by
 simp only [Gj, L4, Ao, A8, z1, z2, z4, Xsl]
theorem Xrv {β : Type} (k : Nat) (v : (den fin)) (w : (den seg)) (x5_c1 : Int) (t : St → Option β) (K : KT β) : Qi (Di k) (Ac [1, 1, 1, 0] (Aa Tryz.f54)) (Xeu v w x5_c1) (Cc (Di k) (Ac [1, 1, 1, 1, 0] (Aa Tryz.f54)) 0 (Is (Di k) Xdz t (Qb k v w K))) =
  L4 (fun r => K (F54_O.put r)) (fun y0 y1 => t (Xfl v w y0 y1)) k v w x5_c1 := by kernel_rfl
theorem Xp0 : (Ac [1, 1, 1] (Aa Tryz.f54)) = (.seq (Ac [1, 1, 1, 0] (Aa Tryz.f54)) (.seq (Ac [1, 1, 1, 1, 0] (Aa Tryz.f54)) (Ac [1, 1, 1, 1, 1] (Aa Tryz.f54)))) := by kernel_rfl
theorem Xon {β : Type} (k : Nat) (v : (den fin)) (w : (den seg)) (x5_c1 : Int) (K : KT β) : G5 (Di k) (Ac [1, 1, 1] (Aa Tryz.f54)) (Qb k v w K) (Xeu v w x5_c1) = Gj k v w x5_c1 (fun r => K (F54_O.put r)) := by
 rw [Xp0, Dj, Bl, B1 (c := (Ac [1, 1, 1, 1, 1] (Aa Tryz.f54))) (i := 7) (h := Xdz) (by kernel_rfl) rfl, Xrv]
 simp only [Xqu, Gj]
def Ss {β : Type} (RET : (den fin) → Option β) (GT : Int → Option β) (k : Nat) (v : (den fin)) (w : (den seg)) : Option β := (Tg k v.2.2.2.2.2.2.2.1.1 w.2.2.1).bind fun b15 => cond w.2.2.2.2.2.1 (GT (i64.wrap (b15 + 1))) (GT b15)
def P2 {β : Type} (k : Nat) (v : (den fin)) (w : (den seg)) (RET : (den fin) → Option β) : Option β := Ss RET (fun y0 => Gj k v w y0 RET) k v w
theorem Xuv {β γ : Type} (k : Nat) (v : (den fin)) (w : (den seg)) (RET : (den fin) → Option β) (g : β → Option γ) : (P2 k v w RET).bind g = P2 k v w (fun r => (RET r).bind g) := by
 simp only [P2, Ss, Ao, A8, z1, z2, z4, Xob]
theorem Xuy {β : Type} (k : Nat) (v : (den fin)) (w : (den seg)) (t : St → Option β) (K : KT β) : Bb (Di k) (Ac [0] (Aa Tryz.f54)) 0 ⟨(.agg (Cb (.pair mI (.pair mI Cp)) v)) :: (.agg (Cb Cu w)) :: uz 95 [], []⟩ (Cc (Di k) (Ac [1, 0] (Aa Tryz.f54)) 0 (Cc (Di k) (Ac [1, 1, 0] (Aa Tryz.f54)) 0 (Is (Di k) Xeh t (Qb k v w K)))) =
  Ss (fun r => K (F54_O.put r)) (fun y0 => t (Xeu v w y0)) k v w := by kernel_rfl
theorem Xuf : (Ac [] (Aa Tryz.f54)) = (.seq (Ac [0] (Aa Tryz.f54)) (.seq (Ac [1, 0] (Aa Tryz.f54)) (.seq (Ac [1, 1, 0] (Aa Tryz.f54)) (Ac [1, 1, 1] (Aa Tryz.f54))))) := by kernel_rfl
theorem Xtz {β : Type} (k : Nat) (v : (den fin)) (w : (den seg)) (K : KT β) : Bb (Di k) (Ac [] (Aa Tryz.f54)) 0 ⟨(.agg (Cb (.pair mI (.pair mI Cp)) v)) :: (.agg (Cb Cu w)) :: uz 95 [], []⟩ (Qb k v w K) = P2 k v w (fun r => K (F54_O.put r)) := by
 rw [Xuf, Oo, Bl, Bl, B1 (c := (Ac [1, 1, 1] (Aa Tryz.f54))) (i := 4) (h := Xeh) (by kernel_rfl) rfl, Xuy]
 simp only [Xon, P2]
def F54 (k : Nat) (v : (den fin)) (w : (den seg)) : Option ((den fin)) := P2 k v w some
theorem X3c {β : Type} (k : Nat) (v : (den fin)) (w : (den seg)) (K : KT β) : Ah (Di k) Tryz.f54 (PsT.put Xnm (v, w, ())) K = (F54 k v w).bind fun r => K (F54_O.put r) := by
 refine Eq.trans (b := Bb (Di k) (Ac [] (Aa Tryz.f54)) 0 ⟨(.agg (Cb (.pair mI (.pair mI Cp)) v)) :: (.agg (Cb Cu w)) :: uz 95 [], []⟩ (Qb k v w K)) (by kernel_rfl) ?_
 rw [Xtz, F54, Xuv]
 simp only [z3]
def Xys (k : Nat) : FD := ⟨54, Xnm, F54_O, F54 k⟩
theorem X87 (k : Nat) : (Xys k).Ok Tryz.prog := ⟨fun x => Ab (Xem Xqg (Af (.c (Xot k) (.c (X53 k) (.c (Ns k) (.c (Yq k) .n))))) _ _ _ _) Ai Tryz.func54 rfl rfl (X3c k _ _ some), .of (by kernel_rfl)⟩
abbrev X7e (k : Nat) : Env := Bg Ca Aj .own [] k
abbrev Xxw : List PA := [.agg Cu]
abbrev F55_O : RO := ⟨[.v], [mI]⟩
def Xb2 {β : Type} (RET : Int → Option β) (k : Nat) (v : (den seg)) : Option β := cond v.2.2.2.2.2.1 (cond v.2.2.2.2.2.2.2.1 (RET (i64.wrap ((i64.wrap ((v.2.2.2.2.2.2.2.2.2.2.length : Int) + 1)) + 1))) (RET (i64.wrap ((v.2.2.2.2.2.2.2.2.2.2.length : Int) + 1)))) (cond v.2.2.2.2.2.2.2.1 (RET (i64.wrap ((v.2.2.2.2.2.2.2.2.2.2.length : Int) + 1))) (RET (v.2.2.2.2.2.2.2.2.2.2.length : Int)))
def F55 := Xb2 (β := Int) some
theorem X3p {β : Type} (k : Nat) (v : (den seg)) (K : KT β) : Ah (X7e k) Tryz.f55 (PsT.put Xxw (v, ())) K = (F55 k v).bind fun r => K (F55_O.put r) :=
 Eq.trans (b := Xb2 (fun r => K (F55_O.put r)) k v) (by kernel_rfl) (by simp only [F55, Xb2, z1, z2, z3, z4, z5, A8])
def Xxz (k : Nat) : FD := ⟨55, Xxw, F55_O, F55 k⟩
theorem X70 (k : Nat) : (Xxz k).Ok Tryz.prog := ⟨fun x => Ab (Ak .none _ _ _ _) Ai Tryz.func55 rfl rfl (X3p k _ some), .of (by kernel_rfl)⟩
abbrev X8w (k : Nat) : Env := Bg (Ay [V9 k]) Aj .own [] k
abbrev Xzd : List PA := [.one mI, .one mI]
abbrev F56_O : RO := ⟨[.v], [mB]⟩
def Xcf {β : Type} (RET : Bool → Option β) (k : Nat) (v w : Int) : Option β := (Up k w).bind fun b1 => (Up k v).bind fun b2 => (Up k (i64.wrap (b1 - b2))).bind fun b3 => cond (decide (b3 ≥ 1)) (RET (decide (b3 < 32768))) (RET false)
def F56 := Xcf (β := Bool) some
theorem X1n {β : Type} (k : Nat) (v w : Int) (K : KT β) : Ah (X8w k) Tryz.f56 (PsT.put Xzd (v, w, ())) K = (F56 k v w).bind fun r => K (F56_O.put r) :=
 Eq.trans (b := Xcf (fun r => K (F56_O.put r)) k v w) (by kernel_rfl) (by simp only [F56, Xcf, z1, z2, z3, z4, z5])
def Xyt (k : Nat) : FD := ⟨56, Xzd, F56_O, F56 k⟩
theorem X72 (k : Nat) : (Xyt k).Ok Tryz.prog := ⟨fun x => Ab (Ak (Af (.c (Xbd k) .n)) _ _ _ _) Ai Tryz.func56 rfl rfl (X1n k _ _ some), .of (by kernel_rfl)⟩
end
end Go.Proofs.YtjkkbmkkljpcjaaGreat.Gn
end

section
set_option linter.unusedVariables false
set_option linter.unusedSimpArgs false
namespace Go.Proofs.YtjkkbmkkljpcjaaGreat.Gn
open Go.Rf IntKind
noncomputable section
def Xp7 : Hint := Jt [1, 3, 4, 6, 8, 10, 11] [4000, 4001, 4002, 4003, 4004, 4005, 4006, 4007, 4008, 4009, 4010, 4011, 4012, 4013, 4014, 4015, 4016, 4017, 4018, 4019, 4020, 4021, 4022, 4023, 6000, 6001, 6002, 6003, 6004, 6005, 6006, 6007, 6008, 6009, 6010, 8000, 8001, 8002, 8003, 8004, 8005, 8006, 8007, 8008, 8009, 8010, 8011, 8012, 8013, 8014, 8015, 8016, 8017, 8018, 8019, 8020, 8021, 8022, 8023, 11000, 11001, 11002, 11003, 11004, 11005, 11006, 11007, 11008, 11009, 11010, 11011, 11012, 11013, 11014, 11015, 11016, 11017, 11018, 11019, 11020, 11021, 11022, 11023, 20000, 42007, 42010, 42013, 42014]
def Xoe : Hint := Jt [3, 4, 6, 8, 11] [4000, 4001, 4002, 4003, 4004, 4005, 4006, 4007, 4008, 4009, 4010, 4011, 4012, 4013, 4014, 4015, 4016, 4017, 4018, 4019, 4020, 4021, 4022, 4023, 6000, 6001, 6002, 6003, 6004, 6005, 6006, 6007, 6008, 6009, 6010, 8000, 8001, 8002, 8003, 8004, 8005, 8006, 8007, 8008, 8009, 8010, 8011, 8012, 8013, 8014, 8015, 8016, 8017, 8018, 8019, 8020, 8021, 8022, 8023, 11000, 11001, 11002, 11003, 11004, 11005, 11006, 11007, 11008, 11009, 11010, 11011, 11012, 11013, 11014, 11015, 11016, 11017, 11018, 11019, 11020, 11021, 11022, 11023, 42007, 42010, 42013, 42014]
def Xr4 : Hint := Jt [3, 6, 8, 11, 15, 16] [6000, 6001, 6002, 6003, 6004, 6005, 6006, 6007, 6008, 6009, 6010, 8000, 8001, 8002, 8003, 8004, 8005, 8006, 8007, 8008, 8009, 8010, 8011, 8012, 8013, 8014, 8015, 8016, 8017, 8018, 8019, 8020, 8021, 8022, 8023, 11000, 11001, 11002, 11003, 11004, 11005, 11006, 11007, 11008, 11009, 11010, 11011, 11012, 11013, 11014, 11015, 11016, 11017, 11018, 11019, 11020, 11021, 11022, 11023]
def Xy6 : Nat → Option Hint
 | 7 => some Xp7
 | 40 => some Xoe
 | 47 => some Xr4
 | _ => none
abbrev Gs (k : Nat) : Env := { Bg (Ay [Mm k, Xyd k, Ej k, P7 k, V9 k, Xf6 k, Xci k, Xhn k, Xy0 k, Xrd k, Rr k, Xy3 k, Xys k, Xxz k, Xyt k]) Aj .ro [] k with rh := Xy6 }
abbrev X0t : List PA := [.agg (.pair mI (.pair mI Cp)), .one mI, .agg Cu, .one mI]
abbrev F9_O : RO := ⟨[.a, .v], [.pair mI (.pair mI Cp), .sl .ro seg]⟩
noncomputable def Xak {β : Type} (k : Nat) (v : (den fin)) (w : Int) (p : (den seg)) (q : Int) (K : KT β) : Ex → St → Option β := Cz (Gs k) Tryz.f9 (PsT.put X0t (v, w, p, q, ())) K
def Xp3 (v : (den fin)) (w : Int) (p : (den seg)) (q : Int) (m11000_c1 : (den fin)) : St := ⟨(.one .d) :: (.one (vI w)) :: (.one .d) :: (.one (vI q)) :: (.one (.ptr (.cell 4000) 24 0)) :: (.one .d) :: (.one (.ptr (.cell 6000) 11 0)) :: (.one .d) :: (.one (.ptr (.cell 8000) 24 0)) :: (.one .d) :: (.one (.a (.cell 20000) 0 0 none)) :: (.one (.ptr (.cell 11000) 24 0)) :: dz 288 [], Bc 4000 (Cb (.pair mI (.pair mI Cp)) v) (Bc 6000 (Cb Cu p) (Bc 8000 (Cb B8 (0, 0, 0, 0, 0, 0, (0, [], 0, 0, []), (0, 0, [], []), false, false, false, 0, 0, 0, 0, 0, 0)) [iM 11000 m11000_c1.1, iM 11001 m11000_c1.2.1, iM 11002 m11000_c1.2.2.1, iM 11003 m11000_c1.2.2.2.1, iM 11004 m11000_c1.2.2.2.2.1, iM 11005 m11000_c1.2.2.2.2.2.1, iM 11006 m11000_c1.2.2.2.2.2.2.1.1, eM 11007 (.a (.cell 42007) 0 0 none), iM 11008 m11000_c1.2.2.2.2.2.2.1.2.2.1, iM 11009 m11000_c1.2.2.2.2.2.2.1.2.2.2.1, eM 11010 (.a (.cell 42010) 0 0 none), iM 11011 m11000_c1.2.2.2.2.2.2.2.1.1, iM 11012 m11000_c1.2.2.2.2.2.2.2.1.2.1, eM 11013 (.a (.cell 42013) 0 0 none), eM 11014 (.a (.cell 42014) 0 0 none), eM 11015 (vB m11000_c1.2.2.2.2.2.2.2.2.1), eM 11016 (vB m11000_c1.2.2.2.2.2.2.2.2.2.1), eM 11017 (vB m11000_c1.2.2.2.2.2.2.2.2.2.2.1), iM 11018 m11000_c1.2.2.2.2.2.2.2.2.2.2.2.1, iM 11019 m11000_c1.2.2.2.2.2.2.2.2.2.2.2.2.1, iM 11020 m11000_c1.2.2.2.2.2.2.2.2.2.2.2.2.2.1, iM 11021 m11000_c1.2.2.2.2.2.2.2.2.2.2.2.2.2.2.1, iM 11022 m11000_c1.2.2.2.2.2.2.2.2.2.2.2.2.2.2.2.1, iM 11023 m11000_c1.2.2.2.2.2.2.2.2.2.2.2.2.2.2.2.2, eM 20000 (.s .own seg []), eM 42007 (.s .own (.int .u8) m11000_c1.2.2.2.2.2.2.1.2.1), eM 42010 (.s .own Ap m11000_c1.2.2.2.2.2.2.1.2.2.2.2), eM 42013 (.s .own (.int .u8) m11000_c1.2.2.2.2.2.2.2.1.2.2.1), eM 42014 (.s .own Av m11000_c1.2.2.2.2.2.2.2.1.2.2.2)]))⟩
def Xln (v : (den fin)) (w : Int) (p : (den seg)) (q : Int) (m11000_c2 : (den fin)) : St := ⟨dz 3 ((.one (vI q)) :: (.one (.ptr (.cell 4000) 24 0)) :: (.one .d) :: (.one (.ptr (.cell 6000) 11 0)) :: (.one .d) :: (.one (.ptr (.cell 8000) 24 0)) :: (.one .d) :: (.one .d) :: (.one (.ptr (.cell 11000) 24 0)) :: dz 288 []), Bc 4000 (Cb (.pair mI (.pair mI Cp)) v) (Bc 6000 (Cb Cu p) (Bc 8000 (Cb B8 (0, 0, 0, 0, 0, 0, (0, [], 0, 0, []), (0, 0, [], []), false, false, false, 0, 0, 0, 0, 0, 0)) [iM 11000 m11000_c2.1, iM 11001 m11000_c2.2.1, iM 11002 m11000_c2.2.2.1, iM 11003 m11000_c2.2.2.2.1, iM 11004 m11000_c2.2.2.2.2.1, iM 11005 m11000_c2.2.2.2.2.2.1, iM 11006 m11000_c2.2.2.2.2.2.2.1.1, eM 11007 (.a (.cell 42007) 0 0 none), iM 11008 m11000_c2.2.2.2.2.2.2.1.2.2.1, iM 11009 m11000_c2.2.2.2.2.2.2.1.2.2.2.1, eM 11010 (.a (.cell 42010) 0 0 none), iM 11011 m11000_c2.2.2.2.2.2.2.2.1.1, iM 11012 m11000_c2.2.2.2.2.2.2.2.1.2.1, eM 11013 (.a (.cell 42013) 0 0 none), eM 11014 (.a (.cell 42014) 0 0 none), eM 11015 (vB m11000_c2.2.2.2.2.2.2.2.2.1), eM 11016 (vB m11000_c2.2.2.2.2.2.2.2.2.2.1), eM 11017 (vB m11000_c2.2.2.2.2.2.2.2.2.2.2.1), iM 11018 m11000_c2.2.2.2.2.2.2.2.2.2.2.2.1, iM 11019 m11000_c2.2.2.2.2.2.2.2.2.2.2.2.2.1, iM 11020 m11000_c2.2.2.2.2.2.2.2.2.2.2.2.2.2.1, iM 11021 m11000_c2.2.2.2.2.2.2.2.2.2.2.2.2.2.2.1, iM 11022 m11000_c2.2.2.2.2.2.2.2.2.2.2.2.2.2.2.2.1, iM 11023 m11000_c2.2.2.2.2.2.2.2.2.2.2.2.2.2.2.2.2, eM 42007 (.s .own (.int .u8) m11000_c2.2.2.2.2.2.2.1.2.1), eM 42010 (.s .own Ap m11000_c2.2.2.2.2.2.2.1.2.2.2.2), eM 42013 (.s .own (.int .u8) m11000_c2.2.2.2.2.2.2.2.1.2.2.1), eM 42014 (.s .own Av m11000_c2.2.2.2.2.2.2.2.1.2.2.2)]))⟩
def Xzg (v : (den fin)) (w : Int) (p : (den seg)) (q : Int) (x15_c3 : Int) (x16_c3 : Bool) (m11000_c3 : (den fin)) : St := ⟨dz 3 ((.one (vI q)) :: (.one .d) :: (.one .d) :: (.one (.ptr (.cell 6000) 11 0)) :: (.one .d) :: (.one (.ptr (.cell 8000) 24 0)) :: (.one .d) :: (.one .d) :: (.one (.ptr (.cell 11000) 24 0)) :: dz 3 ((.one (vI x15_c3)) :: (.one (vB x16_c3)) :: dz 283 [])), Bc 6000 (Cb Cu p) (Bc 8000 (Cb B8 (0, 0, 0, 0, 0, 0, (0, [], 0, 0, []), (0, 0, [], []), false, false, false, 0, 0, 0, 0, 0, 0)) (Bc 11000 (Cb (.pair mI (.pair mI Cp)) m11000_c3) []))⟩
def Gu {β : Type} (k : Nat) (v : (den fin)) (w : Int) (p : (den seg)) (q : Int) (RET : (den fin) × Al → Option β) (b598 : (den fin) × Al) (x16_c3 : Bool) : Option β := (F52 k b598.1).bind fun b600 => (Wd k b598.1 (i64.wrap ((i64.wrap (b598.1.2.2.2.2.2.2.1.1 + b598.1.2.2.2.2.2.2.1.2.2.1)) + b600))).bind fun b601 => Bp (b598.2.length) ([b601].length) 96 ((Jz k b598.1 q x16_c3).bind fun b602 => RET (b602, b598.2 ++ [b601]))
def X3 {β : Type} (RET : (den fin) × Al → Option β) (k : Nat) (v : (den fin)) (w : Int) (p : (den seg)) (q : Int) (x15_c3 : Int) (x16_c3 : Bool) (m11000_c3 : (den fin)) : Option β := (F50 k m11000_c3).bind fun b598 => cond ((b598.2.length : Int) == 0) ((F55 k p).bind fun b599 => cond (decide (b599 > 0)) (Gu k v w p q RET b598 x16_c3) ((F56 k p.2.2.1 x15_c3).bind fun b603 => cond b603 (Gu k v w p q RET b598 x16_c3) ((Jz k b598.1 q x16_c3).bind fun b607 => RET (b607, b598.2)))) ((Jz k b598.1 q x16_c3).bind fun b608 => RET (b608, b598.2))
def Mx {β : Type} (k : Nat) (v : (den fin)) (w : Int) (p : (den seg)) (q : Int) (x15_c3 : Int) (x16_c3 : Bool) (m11000_c3 : (den fin)) (RET : (den fin) × Al → Option β) : Option β := X3 RET k v w p q x15_c3 x16_c3 m11000_c3
theorem Xuk {β γ : Type} (k : Nat) (v : (den fin)) (w : Int) (p : (den seg)) (q : Int) (x15_c3 : Int) (x16_c3 : Bool) (m11000_c3 : (den fin)) (RET : (den fin) × Al → Option β) (g : β → Option γ) : (Mx k v w p q x15_c3 x16_c3 m11000_c3 RET).bind g = Mx k v w p q x15_c3 x16_c3 m11000_c3 (fun r => (RET r).bind g) := by
 simp only [Mx, X3, Gu, Ao, A8, z1, z2, z4]
theorem Xtt {β : Type} (k : Nat) (v : (den fin)) (w : Int) (p : (den seg)) (q : Int) (x15_c3 : Int) (x16_c3 : Bool) (m11000_c3 : (den fin)) (K : KT β) : G5 (Gs k) (Ac [1, 1, 1, 1, 1, 1, 1, 1, 1, 1, 1] (Aa Tryz.f9)) (Xak k v w p q K) (Xzg v w p q x15_c3 x16_c3 m11000_c3) = Mx k v w p q x15_c3 x16_c3 m11000_c3 (fun r => K (F9_O.put r)) := by kernel_rfl
def Th {β : Type} (RET : (den fin) × Al → Option β) (GT : Int → Bool → (den fin) → Option β) (k : Nat) (v : (den fin)) (w : Int) (p : (den seg)) (q : Int) (m11000_c2 : (den fin)) : Option β := (Sf k m11000_c2).bind fun b585 => cond p.2.2.2.2.2.2.1 ((F53 k m11000_c2 p).bind fun b586 => cond (v.1 != 4) ((F54 k b586.1 p).bind fun b587 => GT b585 true b587) ((F54 k b586.1 p).bind fun b588 => GT b585 b586.2 b588)) ((F54 k m11000_c2 p).bind fun b589 => GT b585 (v.1 != 4) b589)
def Ir {β : Type} (k : Nat) (v : (den fin)) (w : Int) (p : (den seg)) (q : Int) (m11000_c2 : (den fin)) (RET : (den fin) × Al → Option β) : Option β := Th RET (fun y0 y1 y2 => Mx k v w p q y0 y1 y2 RET) k v w p q m11000_c2
theorem Xvz {β γ : Type} (k : Nat) (v : (den fin)) (w : Int) (p : (den seg)) (q : Int) (m11000_c2 : (den fin)) (RET : (den fin) × Al → Option β) (g : β → Option γ) : (Ir k v w p q m11000_c2 RET).bind g = Ir k v w p q m11000_c2 (fun r => (RET r).bind g) := by
 simp only [Ir, Th, Ao, A8, z1, z2, z4, Xuk]
theorem Xv8 {β : Type} (k : Nat) (v : (den fin)) (w : Int) (p : (den seg)) (q : Int) (m11000_c2 : (den fin)) (t : St → Option β) (K : KT β) : Qi (Gs k) (Ac [1, 1, 1, 1, 1, 1, 1, 0] (Aa Tryz.f9)) (Xln v w p q m11000_c2) (Cc (Gs k) (Ac [1, 1, 1, 1, 1, 1, 1, 1, 0] (Aa Tryz.f9)) 0 (Cc (Gs k) (Ac [1, 1, 1, 1, 1, 1, 1, 1, 1, 0] (Aa Tryz.f9)) 0 (Cc (Gs k) (Ac [1, 1, 1, 1, 1, 1, 1, 1, 1, 1, 0] (Aa Tryz.f9)) 0 (Is (Gs k) Xr4 t (Xak k v w p q K))))) =
  Th (fun r => K (F9_O.put r)) (fun y0 y1 y2 => t (Xzg v w p q y0 y1 y2)) k v w p q m11000_c2 := by kernel_rfl
theorem Xtn : (Ac [1, 1, 1, 1, 1, 1, 1] (Aa Tryz.f9)) = (.seq (Ac [1, 1, 1, 1, 1, 1, 1, 0] (Aa Tryz.f9)) (.seq (Ac [1, 1, 1, 1, 1, 1, 1, 1, 0] (Aa Tryz.f9)) (.seq (Ac [1, 1, 1, 1, 1, 1, 1, 1, 1, 0] (Aa Tryz.f9)) (.seq (Ac [1, 1, 1, 1, 1, 1, 1, 1, 1, 1, 0] (Aa Tryz.f9)) (Ac [1, 1, 1, 1, 1, 1, 1, 1, 1, 1, 1] (Aa Tryz.f9)))))) := by kernel_rfl
theorem Xuu {β : Type} (k : Nat) (v : (den fin)) (w : Int) (p : (den seg)) (q : Int) (m11000_c2 : (den fin)) (K : KT β) : G5 (Gs k) (Ac [1, 1, 1, 1, 1, 1, 1] (Aa Tryz.f9)) (Xak k v w p q K) (Xln v w p q m11000_c2) = Ir k v w p q m11000_c2 (fun r => K (F9_O.put r)) := by
 rw [Xtn, Dj, Bl, Bl, Bl, B1 (c := (Ac [1, 1, 1, 1, 1, 1, 1, 1, 1, 1, 1] (Aa Tryz.f9))) (i := 47) (h := Xr4) (by kernel_rfl) rfl, Xv8]
 simp only [Xtt, Ir]
def Db {β : Type} (k : Nat) (v : (den fin)) (w : Int) (p : (den seg)) (q : Int) (RET : (den fin) × Al → Option β) (GT : (den fin) → Option β) (m11000_c1 : (den fin)) : Option β := cond (decide (v.1 ≥ 3)) ((Sf k v).bind fun b547 => (Up k b547).bind fun b548 => cond (p.2.2.1 == b548) (RET ((5, m11000_c1.2.1, m11000_c1.2.2.1, m11000_c1.2.2.2.1, m11000_c1.2.2.2.2.1, m11000_c1.2.2.2.2.2.1, m11000_c1.2.2.2.2.2.2.1, m11000_c1.2.2.2.2.2.2.2.1, m11000_c1.2.2.2.2.2.2.2.2.1, m11000_c1.2.2.2.2.2.2.2.2.2.1, m11000_c1.2.2.2.2.2.2.2.2.2.2.1, m11000_c1.2.2.2.2.2.2.2.2.2.2.2.1, 0, m11000_c1.2.2.2.2.2.2.2.2.2.2.2.2.2), [])) (RET (m11000_c1, []))) (RET (m11000_c1, []))
def Eg {β : Type} (k : Nat) (v : (den fin)) (w : Int) (p : (den seg)) (q : Int) (RET : (den fin) × Al → Option β) (GT : (den fin) → Option β) (m11000_c1 : (den fin)) : Option β := cond (!p.2.2.2.2.2.1) (RET (m11000_c1, [])) (cond p.2.2.2.2.2.2.1 (RET (m11000_c1, [])) ((Jz k (3, m11000_c1.2.1, m11000_c1.2.2.1, w, p.1, m11000_c1.2.2.2.2.2.1, m11000_c1.2.2.2.2.2.2.1, (i64.wrap (p.2.2.1 + 1), m11000_c1.2.2.2.2.2.2.2.1.2.1, m11000_c1.2.2.2.2.2.2.2.1.2.2.1, []), m11000_c1.2.2.2.2.2.2.2.2) q true).bind fun b551 => (F49 k (3, m11000_c1.2.1, m11000_c1.2.2.1, w, p.1, m11000_c1.2.2.2.2.2.1, m11000_c1.2.2.2.2.2.2.1, (i64.wrap (p.2.2.1 + 1), m11000_c1.2.2.2.2.2.2.2.1.2.1, m11000_c1.2.2.2.2.2.2.2.1.2.2.1, []), m11000_c1.2.2.2.2.2.2.2.2)).bind fun b552 => RET (b551, [b552])))
def Hh {β : Type} (k : Nat) (v : (den fin)) (w : Int) (p : (den seg)) (q : Int) (RET : (den fin) × Al → Option β) (GT : (den fin) → Option β) (m11000_c1 : (den fin)) : Option β := cond p.2.2.2.2.2.1 ((Up k (i64.wrap (v.2.2.2.2.2.2.2.1.1 - 1))).bind fun b560 => cond (p.2.2.1 == b560) ((F49 k m11000_c1).bind fun b561 => RET (m11000_c1, [b561])) (RET (m11000_c1, []))) (RET (m11000_c1, []))
def Fd {β : Type} (k : Nat) (v : (den fin)) (w : Int) (p : (den seg)) (q : Int) (RET : (den fin) × Al → Option β) (GT : (den fin) → Option β) (m11000_c1 : (den fin)) (b546 : Int) : Option β := cond (v.1 == 2) (cond (!p.2.2.2.2.2.1) (RET (m11000_c1, [])) (cond (!(p.2.2.2.1 == b546)) (RET (m11000_c1, [])) ((F50 k (4, m11000_c1.2.1, m11000_c1.2.2.1, m11000_c1.2.2.2.1, m11000_c1.2.2.2.2.1, m11000_c1.2.2.2.2.2.1, (m11000_c1.2.2.2.2.2.2.1.1, m11000_c1.2.2.2.2.2.2.1.2.1, m11000_c1.2.2.2.2.2.2.1.2.2.1, p.2.2.2.2.1, m11000_c1.2.2.2.2.2.2.1.2.2.2.2), (i64.wrap (p.2.2.1 + 1), m11000_c1.2.2.2.2.2.2.2.1.2.1, m11000_c1.2.2.2.2.2.2.2.1.2.2.1, []), m11000_c1.2.2.2.2.2.2.2.2)).bind fun b555 => cond ((b555.2.length : Int) == 0) ((F52 k b555.1).bind fun b556 => (Wd k b555.1 (i64.wrap ((i64.wrap (b555.1.2.2.2.2.2.2.1.1 + b555.1.2.2.2.2.2.2.1.2.2.1)) + b556))).bind fun b557 => Bp (b555.2.length) ([b557].length) 96 ((Jz k b555.1 q true).bind fun b558 => RET (b558, b555.2 ++ [b557]))) ((Jz k b555.1 q true).bind fun b559 => RET (b559, b555.2))))) (cond (v.1 == 3) (cond (!(p.2.2.2.1 == b546)) (Hh k v w p q RET GT m11000_c1) (GT (4, m11000_c1.2.1, m11000_c1.2.2.1, m11000_c1.2.2.2.1, m11000_c1.2.2.2.2.1, m11000_c1.2.2.2.2.2.1, (m11000_c1.2.2.2.2.2.2.1.1, m11000_c1.2.2.2.2.2.2.1.2.1, m11000_c1.2.2.2.2.2.2.1.2.2.1, p.2.2.2.2.1, m11000_c1.2.2.2.2.2.2.1.2.2.2.2), m11000_c1.2.2.2.2.2.2.2))) (GT m11000_c1))
def G9 {β : Type} (k : Nat) (v : (den fin)) (w : Int) (p : (den seg)) (q : Int) (RET : (den fin) × Al → Option β) (GT : (den fin) → Option β) (m11000_c1 : (den fin)) : Option β := cond (v.1 == 2) (cond (!p.2.2.2.2.2.1) (RET (m11000_c1, [])) (RET (m11000_c1, []))) (cond (v.1 == 3) (Hh k v w p q RET GT m11000_c1) (GT m11000_c1))
def Iz {β : Type} (RET : (den fin) × Al → Option β) (GT : (den fin) → Option β) (k : Nat) (v : (den fin)) (w : Int) (p : (den seg)) (q : Int) (m11000_c1 : (den fin)) : Option β := cond p.2.2.2.2.2.2.1 ((Up k (i64.wrap (v.2.2.2.2.2.1 + 1))).bind fun b546 => cond p.2.2.2.2.2.2.2.2.1 (cond (v.1 == 2) (cond (p.2.2.2.1 == b546) (RET ((5, m11000_c1.2.1, m11000_c1.2.2.1, m11000_c1.2.2.2.1, m11000_c1.2.2.2.2.1, m11000_c1.2.2.2.2.2.1, m11000_c1.2.2.2.2.2.2.1, m11000_c1.2.2.2.2.2.2.2.1, m11000_c1.2.2.2.2.2.2.2.2.1, m11000_c1.2.2.2.2.2.2.2.2.2.1, m11000_c1.2.2.2.2.2.2.2.2.2.2.1, m11000_c1.2.2.2.2.2.2.2.2.2.2.2.1, 0, m11000_c1.2.2.2.2.2.2.2.2.2.2.2.2.2), [])) (Db k v w p q RET GT m11000_c1)) (Db k v w p q RET GT m11000_c1)) (cond (v.1 == 1) (Eg k v w p q RET GT m11000_c1) (cond (v.1 == 2) (cond (!p.2.2.2.2.2.2.1) (Eg k v w p q RET GT m11000_c1) (Fd k v w p q RET GT m11000_c1 b546)) (Fd k v w p q RET GT m11000_c1 b546)))) (cond p.2.2.2.2.2.2.2.2.1 (cond (v.1 == 2) (Db k v w p q RET GT m11000_c1) (Db k v w p q RET GT m11000_c1)) (cond (v.1 == 1) (Eg k v w p q RET GT m11000_c1) (cond (v.1 == 2) (cond (!p.2.2.2.2.2.2.1) (Eg k v w p q RET GT m11000_c1) (G9 k v w p q RET GT m11000_c1)) (G9 k v w p q RET GT m11000_c1))))
def Ef {β : Type} (k : Nat) (v : (den fin)) (w : Int) (p : (den seg)) (q : Int) (m11000_c1 : (den fin)) (RET : (den fin) × Al → Option β) : Option β := Iz RET (fun y0 => Ir k v w p q y0 RET) k v w p q m11000_c1
theorem Xve {β γ : Type} (k : Nat) (v : (den fin)) (w : Int) (p : (den seg)) (q : Int) (m11000_c1 : (den fin)) (RET : (den fin) × Al → Option β) (g : β → Option γ) : (Ef k v w p q m11000_c1 RET).bind g = Ef k v w p q m11000_c1 (fun r => (RET r).bind g) := by
 simp only [Ef, Iz, Db, Eg, Hh, Fd, G9, Ao, A8, z1, z2, z4, Xvz]
theorem Xt4 {β : Type} (k : Nat) (v : (den fin)) (w : Int) (p : (den seg)) (q : Int) (m11000_c1 : (den fin)) (t : St → Option β) (K : KT β) : Qi (Gs k) (Ac [1, 1, 1, 1, 1, 0] (Aa Tryz.f9)) (Xp3 v w p q m11000_c1) (Cc (Gs k) (Ac [1, 1, 1, 1, 1, 1, 0] (Aa Tryz.f9)) 0 (Is (Gs k) Xoe t (Xak k v w p q K))) =
  Iz (fun r => K (F9_O.put r)) (fun y0 => t (Xln v w p q y0)) k v w p q m11000_c1 := by kernel_rfl
theorem Xwd : (Ac [1, 1, 1, 1, 1] (Aa Tryz.f9)) = (.seq (Ac [1, 1, 1, 1, 1, 0] (Aa Tryz.f9)) (.seq (Ac [1, 1, 1, 1, 1, 1, 0] (Aa Tryz.f9)) (Ac [1, 1, 1, 1, 1, 1, 1] (Aa Tryz.f9)))) := by kernel_rfl
theorem Xvs {β : Type} (k : Nat) (v : (den fin)) (w : Int) (p : (den seg)) (q : Int) (m11000_c1 : (den fin)) (K : KT β) : G5 (Gs k) (Ac [1, 1, 1, 1, 1] (Aa Tryz.f9)) (Xak k v w p q K) (Xp3 v w p q m11000_c1) = Ef k v w p q m11000_c1 (fun r => K (F9_O.put r)) := by
 rw [Xwd, Dj, Bl, B1 (c := (Ac [1, 1, 1, 1, 1, 1, 1] (Aa Tryz.f9))) (i := 40) (h := Xoe) (by kernel_rfl) rfl, Xt4]
 simp only [Xuu, Ef]
def Xaj {β : Type} (RET : (den fin) × Al → Option β) (GT : (den fin) → Option β) (k : Nat) (v : (den fin)) (w : Int) (p : (den seg)) (q : Int) : Option β := (F42 k v).bind fun b541 => cond (!b541) (RET ((0, 0, 0, 0, 0, 0, (0, [], 0, 0, []), (0, 0, [], []), false, false, false, 0, 0, 0, 0, 0, 0), [])) ((F43 k p).bind fun b542 => cond (!b542) (RET ((0, 0, 0, 0, 0, 0, (0, [], 0, 0, []), (0, 0, [], []), false, false, false, 0, 0, 0, 0, 0, 0), [])) ((Gf k w 0 65535).bind fun b543 => cond (!b543) (RET ((0, 0, 0, 0, 0, 0, (0, [], 0, 0, []), (0, 0, [], []), false, false, false, 0, 0, 0, 0, 0, 0), [])) ((Gf k q 0 900000).bind fun b544 => cond (!b544) (RET ((0, 0, 0, 0, 0, 0, (0, [], 0, 0, []), (0, 0, [], []), false, false, false, 0, 0, 0, 0, 0, 0), [])) ((F45 k v).bind fun b545 => cond (p.2.1 != v.2.2.1) (RET (b545, [])) (cond (v.1 == 0) (RET (b545, [])) (cond (v.1 == 5) (RET (b545, [])) (cond (v.1 != 1) (cond (w != v.2.2.2.1) (RET (b545, [])) (cond (p.1 != v.2.2.2.2.1) (RET (b545, [])) (GT b545))) (GT b545))))))))
def Xaq {β : Type} (k : Nat) (v : (den fin)) (w : Int) (p : (den seg)) (q : Int) (RET : (den fin) × Al → Option β) : Option β := Xaj RET (fun y0 => Ef k v w p q y0 RET) k v w p q
theorem X4p {β γ : Type} (k : Nat) (v : (den fin)) (w : Int) (p : (den seg)) (q : Int) (RET : (den fin) × Al → Option β) (g : β → Option γ) : (Xaq k v w p q RET).bind g = Xaq k v w p q (fun r => (RET r).bind g) := by
 simp only [Xaq, Xaj, Ao, A8, z1, z2, z4, Xve]
theorem X2h {β : Type} (k : Nat) (v : (den fin)) (w : Int) (p : (den seg)) (q : Int) (t : St → Option β) (K : KT β) : Bb (Gs k) (Ac [0] (Aa Tryz.f9)) 0 ⟨(.agg (Cb (.pair mI (.pair mI Cp)) v)) :: (.one (vI w)) :: (.agg (Cb Cu p)) :: (.one (vI q)) :: uz 296 [], []⟩ (Cc (Gs k) (Ac [1, 0] (Aa Tryz.f9)) 0 (Cc (Gs k) (Ac [1, 1, 0] (Aa Tryz.f9)) 0 (Cc (Gs k) (Ac [1, 1, 1, 0] (Aa Tryz.f9)) 0 (Cc (Gs k) (Ac [1, 1, 1, 1, 0] (Aa Tryz.f9)) 0 (Is (Gs k) Xp7 t (Xak k v w p q K)))))) =
  Xaj (fun r => K (F9_O.put r)) (fun y0 => t (Xp3 v w p q y0)) k v w p q := by kernel_rfl
theorem X2r : (Ac [] (Aa Tryz.f9)) = (.seq (Ac [0] (Aa Tryz.f9)) (.seq (Ac [1, 0] (Aa Tryz.f9)) (.seq (Ac [1, 1, 0] (Aa Tryz.f9)) (.seq (Ac [1, 1, 1, 0] (Aa Tryz.f9)) (.seq (Ac [1, 1, 1, 1, 0] (Aa Tryz.f9)) (Ac [1, 1, 1, 1, 1] (Aa Tryz.f9))))))) := by kernel_rfl
theorem X1c {β : Type} (k : Nat) (v : (den fin)) (w : Int) (p : (den seg)) (q : Int) (K : KT β) : Bb (Gs k) (Ac [] (Aa Tryz.f9)) 0 ⟨(.agg (Cb (.pair mI (.pair mI Cp)) v)) :: (.one (vI w)) :: (.agg (Cb Cu p)) :: (.one (vI q)) :: uz 296 [], []⟩ (Xak k v w p q K) = Xaq k v w p q (fun r => K (F9_O.put r)) := by
 rw [X2r, Oo, Bl, Bl, Bl, Bl, B1 (c := (Ac [1, 1, 1, 1, 1] (Aa Tryz.f9))) (i := 7) (h := Xp7) (by kernel_rfl) rfl, X2h]
 simp only [Xvs, Xaq]
def F9 (k : Nat) (v : (den fin)) (w : Int) (p : (den seg)) (q : Int) : Option ((den fin) × Al) := Xaq k v w p q some
theorem X6o {β : Type} (k : Nat) (v : (den fin)) (w : Int) (p : (den seg)) (q : Int) (K : KT β) : Ah (Gs k) Tryz.f9 (PsT.put X0t (v, w, p, q, ())) K = (F9 k v w p q).bind fun r => K (F9_O.put r) := by
 refine Eq.trans (b := Bb (Gs k) (Ac [] (Aa Tryz.f9)) 0 ⟨(.agg (Cb (.pair mI (.pair mI Cp)) v)) :: (.one (vI w)) :: (.agg (Cb Cu p)) :: (.one (vI q)) :: uz 296 [], []⟩ (Xak k v w p q K)) (by kernel_rfl) ?_
 rw [X1c, F9, X4p]
 simp only [z3]
def X5y (k : Nat) : FD := ⟨9, X0t, F9_O, F9 k⟩
theorem F9_q (k : Nat) : (X5y k).Ok Tryz.prog := ⟨fun x => Ab (Xem Xy6 (Af (.c (Pq k) (.c (X6h k) (.c (Er k) (.c (Su k) (.c (Xbd k) (.c (Xm6 k) (.c (Xhd k) (.c (Xri k) (.c (X6g k) (.c (Xw2 k) (.c (Wm k) (.c (X8o k) (.c (X87 k) (.c (X70 k) (.c (X72 k) .n)))))))))))))))) _ _ _ _) Ai Tryz.func9 rfl rfl (X6o k _ _ _ _ some), .of (by kernel_rfl)⟩
def X6r : Nat → Hint
 | 0 => ⟨pl 0 1 (pl 2 2 (pl 6 2 ((8, .own .sown seg []) :: (9, .own .sown seg []) :: (pl 11 1 [])))), pl 0 2 (pl 2000 24 (pl 3000 24 (pl 6000 7 ((6007, .ro (.int .u8)) :: (pl 6008 2 ((6010, .ro Ap) :: (pl 6011 2 ((6013, .ro (.int .u8)) :: (6014, .ro Av) :: (pl 6015 9 (pl 7000 7 ((7007, .ro (.int .u8)) :: (pl 7008 2 ((7010, .ro Ap) :: (pl 7011 2 ((7013, .ro (.int .u8)) :: (7014, .ro Av) :: (pl 7015 9 (pl 33007 1 (pl 33010 1 (pl 33013 2 [])))))))))))))))))))⟩
 | _ => ⟨[], []⟩
abbrev Xhm (k : Nat) : Env := { Bg (Ay [Rk k, Xng k, Xnz k, Xpi k, Xk3 k, Xr5 k, Xqm k, Xqb k, Xno k, X5y k]) X6r .own [(false, 0), (false, 1)] k with frz := [169, 69] }
abbrev Uc : Type := (den fin) × (den fin) × Al × Al × (Ad × Int)
abbrev Xnw : List PA := [.p m_1]
abbrev F81_O : RO := ⟨[.a, .a, .v, .v], [.pair mI (.pair mI Cp), .pair mI (.pair mI Cp), .sl .sown seg, .sl .sown seg, m_1]⟩
noncomputable def X8j {β : Type} (k : Nat) (v : (Ad × Int)) (K : KT β) : Ex → St → Option β := Cz (Xhm k) Tryz.f81 (PsT.put Xnw (v, ())) K
def X0b (v : (Ad × Int)) (x11_0 : Int) (m0_0 : (Ad × Int)) (m6000_0 m7000_0 : (den fin)) (m8900_0 m9900_0 : Al) : St := ⟨(.one (.ptr (.cell 0) 2 0)) :: (.one .d) :: (.one (.ptr (.cell 2000) 24 0)) :: (.one (.ptr (.cell 3000) 24 0)) :: (.one .d) :: (.one .d) :: (.one (.ptr (.cell 6000) 24 0)) :: (.one (.ptr (.cell 7000) 24 0)) :: (.one (.a (.cell 8900) 0 0 none)) :: (.one (.a (.cell 9900) 0 0 none)) :: (.one .d) :: (.one (vI x11_0)) :: dz 171 [], Bc 0 (Cb m_1 m0_0) (Bc 2000 (Cb B8 (0, 0, 0, 0, 0, 0, (0, [], 0, 0, []), (0, 0, [], []), false, false, false, 0, 0, 0, 0, 0, 0)) (Bc 3000 (Cb B8 (0, 0, 0, 0, 0, 0, (0, [], 0, 0, []), (0, 0, [], []), false, false, false, 0, 0, 0, 0, 0, 0)) (Bc 6000 (Cb (.pair mI (.pair mI Cp)) m6000_0) (Bc 7000 (Cb (.pair mI (.pair mI Cp)) m7000_0) [eM 33007 .d, eM 33010 .d, eM 33013 .d, eM 33014 .d, eM 8900 (.s .sown seg m8900_0), eM 9900 (.s .sown seg m9900_0)]))))⟩
noncomputable def Re {β : Type} (k : Nat) (v : (Ad × Int)) (K : KT β) (n : Nat) (x11_0 : Int) (m0_0 : (Ad × Int)) (m6000_0 m7000_0 : (den fin)) (m8900_0 m9900_0 : Al) : Option β := Bu (Xhm k) Tryz.f81 [1, 1, 1, 1, 1, 1, 1, 1, 1, 0, 1, 0] 0 (A1 (Xhm k) [1, 1, 1, 1, 1, 1, 1, 1, 1, 0, 1, 0] (Aa Tryz.f81) 0 (X8j k v K)) n (X0b v x11_0 m0_0 m6000_0 m7000_0 m8900_0 m9900_0)
def He {β : Type} (k : Nat) (v : (Ad × Int)) (NX : Int → (Ad × Int) → (den fin) → (den fin) → Al → Al → Option β) (RET : Uc → Option β) (m8900_0 : Al) (m6000_0 : (den fin)) (x11_0 : Int) (b10 : Int × (Ad × Int)) (m9900_0 : Al) (b11 : Int × (Ad × Int)) (m7000_0 : (den fin)) : Option β := cond (decide ((m8900_0.length : Int) > 0)) (cond (decide (0 < (m8900_0.length : Int))) ((F9 k m6000_0 2 (Bd m8900_0 0) (i64.wrap ((i64.wrap (30 * (i64.wrap (30 - x11_0)))) + b10.1))).bind fun b24 => Bp (m9900_0.length) (b24.2.length) 96 (cond (decide (0 ≤ 1) && decide (1 ≤ (m8900_0.length : Int))) (NX (i64.wrap (x11_0 - 1)) b11.2 b24.1 m7000_0 ((m8900_0.take (((m8900_0.length : Int)).toNat)).drop 1) (m9900_0 ++ b24.2)) none)) none) (NX (i64.wrap (x11_0 - 1)) b11.2 m6000_0 m7000_0 m8900_0 m9900_0)
def L5 {β : Type} (NX : Int → (Ad × Int) → (den fin) → (den fin) → Al → Al → Option β) (RET : Uc → Option β) (k : Nat) (v : (Ad × Int)) (x11_0 : Int) (m0_0 : (Ad × Int)) (m6000_0 m7000_0 : (den fin)) (m8900_0 m9900_0 : Al) : Option β := cond (decide (x11_0 > 0)) ((C6 k m0_0 9).bind fun b10 => (C6 k b10.2 9).bind fun b11 => cond (b11.1 == 0) ((C6 k b11.2 9).bind fun b12 => (F95 k b12.2 b12.1).bind fun b13 => (Tw k m6000_0 b13.1 (i64.wrap ((i64.wrap (30 * (i64.wrap (30 - x11_0)))) + b10.1))).bind fun b14 => Bp (m9900_0.length) (b14.2.2.length) 96 (NX (i64.wrap (x11_0 - 1)) b13.2 b14.1 m7000_0 m8900_0 (m9900_0 ++ b14.2.2))) (cond (b11.1 == 1) ((C6 k b11.2 9).bind fun b15 => (F95 k b15.2 b15.1).bind fun b16 => (Tw k m7000_0 b16.1 (i64.wrap ((i64.wrap (30 * (i64.wrap (30 - x11_0)))) + b10.1))).bind fun b17 => Bp (m8900_0.length) (b17.2.2.length) 96 (NX (i64.wrap (x11_0 - 1)) b16.2 m6000_0 b17.1 (m8900_0 ++ b17.2.2) m9900_0)) (cond (b11.1 == 2) ((C6 k b11.2 9).bind fun b18 => (Zy k m7000_0 b18.1 (i64.wrap ((i64.wrap (30 * (i64.wrap (30 - x11_0)))) + b10.1))).bind fun b19 => Bp (m8900_0.length) (b19.2.2.length) 96 (NX (i64.wrap (x11_0 - 1)) b18.2 m6000_0 b19.1 (m8900_0 ++ b19.2.2) m9900_0)) (cond (b11.1 == 3) ((Zs k m6000_0 (i64.wrap ((i64.wrap (30 * (i64.wrap (30 - x11_0)))) + b10.1))).bind fun b20 => Bp (m9900_0.length) (b20.2.length) 96 ((Zs k m7000_0 (i64.wrap ((i64.wrap (30 * (i64.wrap (30 - x11_0)))) + b10.1))).bind fun b21 => Bp (m8900_0.length) (b21.2.length) 96 (NX (i64.wrap (x11_0 - 1)) b11.2 b20.1 b21.1 (m8900_0 ++ b21.2) (m9900_0 ++ b20.2)))) (cond (b11.1 == 4) ((C6 k b11.2 3).bind fun b22 => cond (b22.1 == 0) ((Xbu k m6000_0 (i64.wrap ((i64.wrap (30 * (i64.wrap (30 - x11_0)))) + b10.1))).bind fun b23 => Bp (m9900_0.length) (b23.2.length) 96 (NX (i64.wrap (x11_0 - 1)) b22.2 b23.1 m7000_0 m8900_0 (m9900_0 ++ b23.2))) (NX (i64.wrap (x11_0 - 1)) b22.2 m6000_0 m7000_0 m8900_0 m9900_0)) (cond (b11.1 == 5) (He k v NX RET m8900_0 m6000_0 x11_0 b10 m9900_0 b11 m7000_0) (cond (b11.1 == 6) (He k v NX RET m8900_0 m6000_0 x11_0 b10 m9900_0 b11 m7000_0) (cond (decide ((m9900_0.length : Int) > 0)) (cond (decide (0 < (m9900_0.length : Int))) ((F9 k m7000_0 1 (Bd m9900_0 0) (i64.wrap ((i64.wrap (30 * (i64.wrap (30 - x11_0)))) + b10.1))).bind fun b26 => Bp (m8900_0.length) (b26.2.length) 96 (cond (decide (0 ≤ 1) && decide (1 ≤ (m9900_0.length : Int))) (NX (i64.wrap (x11_0 - 1)) b11.2 m6000_0 b26.1 (m8900_0 ++ b26.2) ((m9900_0.take (((m9900_0.length : Int)).toNat)).drop 1)) none)) none) (NX (i64.wrap (x11_0 - 1)) b11.2 m6000_0 m7000_0 m8900_0 m9900_0))))))))) (RET (m6000_0, m7000_0, m8900_0, m9900_0, m0_0))
def I9 (k : Nat) (v : (Ad × Int)) : Nat → Int → (Ad × Int) → (den fin) → (den fin) → Al → Al → Option (Uc)
 | 0, _, _, _, _, _, _ => none
 | n + 1, x11_0, m0_0, m6000_0, m7000_0, m8900_0, m9900_0 => L5 (I9 k v n) some k v x11_0 m0_0 m6000_0 m7000_0 m8900_0 m9900_0
theorem Xi0 {β : Type} (k : Nat) (v : (Ad × Int)) (K : KT β) (n : Nat) : ∀ (x11_0 : Int) (m0_0 : (Ad × Int)) (m6000_0 m7000_0 : (den fin)) (m8900_0 m9900_0 : Al), Re k v K n x11_0 m0_0 m6000_0 m7000_0 m8900_0 m9900_0 =
  (I9 k v n x11_0 m0_0 m6000_0 m7000_0 m8900_0 m9900_0).bind fun r => K (F81_O.put r) := by
 induction n with
 | zero => intros; rfl
 | succ n ih =>
  intro x11_0 m0_0 m6000_0 m7000_0 m8900_0 m9900_0
  refine Eq.trans (b := L5 (Re k v K n) (fun r => K (F81_O.put r)) k v x11_0 m0_0 m6000_0 m7000_0 m8900_0 m9900_0) (by kernel_rfl) ?_
  rw [I9]
  simp only [L5, He, z1, z2, z3, z4, z5, u_0, ih]
def Xie {β : Type} (LP0 : Int → (Ad × Int) → (den fin) → (den fin) → Al → Al → Option β) (k : Nat) (v : (Ad × Int)) : Option β := (C6 k v 3).bind fun b1 => Bi b1.1 [5, 65530, 32760] ((C6 k b1.2 16).bind fun b2 => (U0 k 1 7 (Bd (t := (.int .i64)) [5, 65530, 32760] b1.1) (i64.wrap (4 + b2.1))).bind fun b3 => (C6 k b2.2 3).bind fun b4 => Bi b4.1 [100, 65534, 0] ((C6 k b4.2 16).bind fun b5 => (U0 k 2 9 (Bd (t := (.int .i64)) [100, 65534, 0] b4.1) (i64.wrap (4 + b5.1))).bind fun b6 => (Xg k b6).bind fun b7 => (Xai k b3 2 9 0).bind fun b8 => Bp (([] : Al).length) (b8.2.length) 96 ((C6 k b5.2 26).bind fun b9 => LP0 (i64.wrap (3 + b9.1)) b9.2 b8.1 b7.1 [] ([] ++ b8.2))))
def F81 (k : Nat) (v : (Ad × Int)) : Option (Uc) := Xie (I9 k v k) k v
theorem X1x {β : Type} (k : Nat) (v : (Ad × Int)) (K : KT β) : Ah (Xhm k) Tryz.f81 (PsT.put Xnw (v, ())) K = (F81 k v).bind fun r => K (F81_O.put r) :=
 Eq.trans (b := Xie (Re k v K k) k v) (by kernel_rfl) (by simp only [F81, Xie, z1, z2, z3, z4, z5, u_0, Xi0])
def Xxl (k : Nat) : FD := ⟨81, Xnw, F81_O, F81 k⟩
theorem X7n (k : Nat) : (Xxl k).Ok Tryz.prog := ⟨fun x => Ab (X5n [169, 69] (Af (.c (Wl k) (.c (X2d k) (.c (X0k k) (.c (X54 k) (.c (Xxg k) (.c (X26 k) (.c (X4e k) (.c (X5i k) (.c (X5m k) (.c (F9_q k) .n))))))))))) _ _ _ _) Ai Tryz.func81 rfl rfl (X1x k _ some), .of (by kernel_rfl)⟩
abbrev X5t (k : Nat) : Env := Bg (Ay [Rk k]) Aj .own [(false, 0), (false, 1)] k
abbrev Xqn : List PA := [.p m_1]
abbrev F141_O : RO := ⟨[.v], [mI, m_1]⟩
def Yd {β : Type} (RET : (Int × (Ad × Int)) → Option β) (k : Nat) (v : (Ad × Int)) : Option β := (C6 k v 9).bind fun b1 => (C6 k b1.2 9).bind fun b2 => (C6 k b2.2 5).bind fun b3 => (C6 k b3.2 256).bind fun b4 => (C6 k b4.2 256).bind fun b5 => (C6 k b5.2 4).bind fun b6 => Bi b6.1 [b1.1, i64.wrap (65535 - b2.1), i64.wrap ((i64.wrap (32768 + b3.1)) - 2), i64.wrap ((i64.wrap (b4.1 * 256)) + b5.1)] (RET (Bd (t := (.int .i64)) [b1.1, i64.wrap (65535 - b2.1), i64.wrap ((i64.wrap (32768 + b3.1)) - 2), i64.wrap ((i64.wrap (b4.1 * 256)) + b5.1)] b6.1, b6.2))
def Yp := Yd (β := Int × (Ad × Int)) some
theorem Xvd {β : Type} (k : Nat) (v : (Ad × Int)) (K : KT β) : Ah (X5t k) Tryz.f141 (PsT.put Xqn (v, ())) K = (Yp k v).bind fun r => K (F141_O.put r) :=
 Eq.trans (b := Yd (fun r => K (F141_O.put r)) k v) (by kernel_rfl) (by simp only [Yp, Yd, z1, z2, z3, z4, z5, u_0])
def Xr0 (k : Nat) : FD := ⟨141, Xqn, F141_O, Yp k⟩
theorem X4u (k : Nat) : (Xr0 k).Ok Tryz.prog := ⟨fun x => Ab (Ak (Af (.c (Wl k) .n)) _ _ _ _) Ai Tryz.func141 rfl rfl (Xvd k _ some), .of (by kernel_rfl)⟩
abbrev Xz3 (k : Nat) : Env := Bg (Ay [Rk k]) Aj .own [(false, 0), (false, 1)] k
abbrev Xmh : List PA := [.p m_1, .one mI]
abbrev F142_O : RO := ⟨[.v], [mB, m_1]⟩
def Wx {β : Type} (RET : (Bool × (Ad × Int)) → Option β) (k : Nat) (v : (Ad × Int)) (w : Int) : Option β := cond (decide (w > 0)) ((C6 k v w).bind fun b1 => RET ((b1.1 == (i64.wrap (w - 1))), b1.2)) (RET (false, v))
def Zo := Wx (β := Bool × (Ad × Int)) some
theorem Xwe {β : Type} (k : Nat) (v : (Ad × Int)) (w : Int) (K : KT β) : Ah (Xz3 k) Tryz.f142 (PsT.put Xmh (v, w, ())) K = (Zo k v w).bind fun r => K (F142_O.put r) :=
 Eq.trans (b := Wx (fun r => K (F142_O.put r)) k v w) (by kernel_rfl) (by simp only [Zo, Wx, z1, z2, z3, z4, z5, u_0])
def Xqe (k : Nat) : FD := ⟨142, Xmh, F142_O, Zo k⟩
theorem X2j (k : Nat) : (Xqe k).Ok Tryz.prog := ⟨fun x => Ab (Ak (Af (.c (Wl k) .n)) _ _ _ _) Ai Tryz.func142 rfl rfl (Xwe k _ _ some), .of (by kernel_rfl)⟩
end
end Go.Proofs.YtjkkbmkkljpcjaaGreat.Gn
end

section
set_option linter.unusedVariables false
set_option linter.unusedSimpArgs false
namespace Go.Proofs.YtjkkbmkkljpcjaaGreat.Gn
open Go.Rf IntKind
noncomputable section
def X6y : Nat → Hint
 | 0 => ⟨pl 0 2 (pl 4 3 []), pl 0 2 (pl 4000 11 (pl 5000 9 ((5009, .own .own Ap []) :: (5010, .own .own (.int .u8) []) :: (pl 18000 1 []))))⟩
 | _ => ⟨[], []⟩
abbrev Xgq (k : Nat) : Env := Bg (Ay [Rk k, Xr0 k, Xk3 k, Xqe k]) X6y .own [(false, 0), (false, 1)] k
abbrev Xmm : List PA := [.p m_1, .one mI]
abbrev F83_O : RO := ⟨[.a], [Ji, m_1]⟩
noncomputable def X69 {β : Type} (k : Nat) (v : (Ad × Int)) (w : Int) (K : KT β) : Ex → St → Option β := Cz (Xgq k) Tryz.f83 (PsT.put Xmm (v, w, ())) K
def X31 (v : (Ad × Int)) (w : Int) (x6_0 : Int) (m0_0 : (Ad × Int)) (m5000_0 : (den seg)) : St := ⟨(.one (.ptr (.cell 0) 2 0)) :: (.one (vI w)) :: (.one .d) :: (.one .d) :: (.one (.ptr (.cell 4000) 11 0)) :: (.one (.ptr (.cell 5000) 11 0)) :: (.one (vI x6_0)) :: dz 83 [], Bc 0 (Cb m_1 m0_0) (Bc 4000 (Cb Ji (0, 0, 0, 0, 0, false, false, false, false, [], [])) (Bc 5000 (Cb Ji m5000_0) [eM 18000 .d]))⟩
noncomputable def R0 {β : Type} (k : Nat) (v : (Ad × Int)) (w : Int) (K : KT β) (n : Nat) (x6_0 : Int) (m0_0 : (Ad × Int)) (m5000_0 : (den seg)) : Option β := Bu (Xgq k) Tryz.f83 [1, 1, 0, 1, 0, 1, 1, 1, 1, 0] 0 (A1 (Xgq k) [1, 1, 0, 1, 0, 1, 1, 1, 1, 0] (Aa Tryz.f83) 0 (X69 k v w K)) n (X31 v w x6_0 m0_0 m5000_0)
def I0 {β : Type} (NX : Int → (Ad × Int) → (den seg) → Option β) (RET : (den seg) × (Ad × Int) → Option β) (k : Nat) (v : (Ad × Int)) (w : Int) (x6_0 : Int) (m0_0 : (Ad × Int)) (m5000_0 : (den seg)) : Option β := cond (decide (x6_0 > 0)) ((Yp k m0_0).bind fun b12 => (Yp k b12.2).bind fun b13 => Bp (m5000_0.2.2.2.2.2.2.2.2.2.1.length) ([(b12.1, b13.1)].length) 16 (NX (i64.wrap (x6_0 - 1)) b13.2 (m5000_0.1, m5000_0.2.1, m5000_0.2.2.1, m5000_0.2.2.2.1, m5000_0.2.2.2.2.1, m5000_0.2.2.2.2.2.1, m5000_0.2.2.2.2.2.2.1, m5000_0.2.2.2.2.2.2.2.1, m5000_0.2.2.2.2.2.2.2.2.1, m5000_0.2.2.2.2.2.2.2.2.2.1 ++ [(b12.1, b13.1)], m5000_0.2.2.2.2.2.2.2.2.2.2))) ((C6 k m0_0 8).bind fun b14 => cond (b14.1 == 0) ((Zo k b14.2 w).bind fun b15 => cond b15.1 ((C6 k b15.2 4).bind fun b16 => cond (b16.1 == 0) ((C6 k b16.2 2).bind fun b17 => RET ((i64.wrap (b17.1 * 256), m5000_0.2.1, m5000_0.2.2.1, m5000_0.2.2.2.1, m5000_0.2.2.2.2.1, false, m5000_0.2.2.2.2.2.2.1, false, true, m5000_0.2.2.2.2.2.2.2.2.2.1, []), b17.2)) (cond (b16.1 == 1) ((C6 k b16.2 2).bind fun b18 => RET ((m5000_0.1, m5000_0.2.1, i64.wrap (65536 - (i64.wrap (b18.1 * 65540))), m5000_0.2.2.2.1, m5000_0.2.2.2.2.1, false, m5000_0.2.2.2.2.2.2.1, false, true, m5000_0.2.2.2.2.2.2.2.2.2.1, []), b18.2)) (cond (b16.1 == 2) (RET ((m5000_0.1, m5000_0.2.1, m5000_0.2.2.1, 4, m5000_0.2.2.2.2.1, false, (!m5000_0.2.2.2.2.2.2.1), false, true, m5000_0.2.2.2.2.2.2.2.2.2.1, []), b16.2)) ((C6 k b16.2 14).bind fun b19 => cond (decide (0 ≤ b19.1) && decide (b19.1 = b19.1) && decide (b19.1 * (1 : Nat) ≤ 140737488355328)) (RET ((m5000_0.1, m5000_0.2.1, m5000_0.2.2.1, m5000_0.2.2.2.1, m5000_0.2.2.2.2.1, false, m5000_0.2.2.2.2.2.2.1, false, true, m5000_0.2.2.2.2.2.2.2.2.2.1, List.replicate b19.1.toNat (Bz (.int .u8))), b19.2)) none)))) (RET ((m5000_0.1, m5000_0.2.1, m5000_0.2.2.1, m5000_0.2.2.2.1, m5000_0.2.2.2.2.1, false, m5000_0.2.2.2.2.2.2.1, false, true, m5000_0.2.2.2.2.2.2.2.2.2.1, []), b15.2))) ((Zo k b14.2 w).bind fun b20 => cond b20.1 ((C6 k b20.2 4).bind fun b21 => cond (b21.1 == 0) ((C6 k b21.2 2).bind fun b22 => RET ((i64.wrap (b22.1 * 256), m5000_0.2), b22.2)) (cond (b21.1 == 1) ((C6 k b21.2 2).bind fun b23 => RET ((m5000_0.1, m5000_0.2.1, i64.wrap (65536 - (i64.wrap (b23.1 * 65540))), m5000_0.2.2.2), b23.2)) (cond (b21.1 == 2) (RET ((m5000_0.1, m5000_0.2.1, m5000_0.2.2.1, 4, m5000_0.2.2.2.2.1, m5000_0.2.2.2.2.2.1, (!m5000_0.2.2.2.2.2.2.1), m5000_0.2.2.2.2.2.2.2), b21.2)) ((C6 k b21.2 14).bind fun b24 => cond (decide (0 ≤ b24.1) && decide (b24.1 = b24.1) && decide (b24.1 * (1 : Nat) ≤ 140737488355328)) (RET ((m5000_0.1, m5000_0.2.1, m5000_0.2.2.1, m5000_0.2.2.2.1, m5000_0.2.2.2.2.1, m5000_0.2.2.2.2.2.1, m5000_0.2.2.2.2.2.2.1, m5000_0.2.2.2.2.2.2.2.1, true, m5000_0.2.2.2.2.2.2.2.2.2.1, List.replicate b24.1.toNat (Bz (.int .u8))), b24.2)) none)))) (RET (m5000_0, b20.2))))
def Li (k : Nat) (v : (Ad × Int)) (w : Int) : Nat → Int → (Ad × Int) → (den seg) → Option ((den seg) × (Ad × Int))
 | 0, _, _, _ => none
 | n + 1, x6_0, m0_0, m5000_0 => I0 (Li k v w n) some k v w x6_0 m0_0 m5000_0
theorem Xjh {β : Type} (k : Nat) (v : (Ad × Int)) (w : Int) (K : KT β) (n : Nat) : ∀ (x6_0 : Int) (m0_0 : (Ad × Int)) (m5000_0 : (den seg)), R0 k v w K n x6_0 m0_0 m5000_0 =
  (Li k v w n x6_0 m0_0 m5000_0).bind fun r => K (F83_O.put r) := by
 induction n with
 | zero => intros; rfl
 | succ n ih =>
  intro x6_0 m0_0 m5000_0
  refine Eq.trans (b := I0 (R0 k v w K n) (fun r => K (F83_O.put r)) k v w x6_0 m0_0 m5000_0) (by kernel_rfl) ?_
  rw [Li]
  simp only [I0, z1, z2, z3, z4, z5, u_0, ih]
def Xhb {β : Type} (LP0 : Int → (Ad × Int) → (den seg) → Option β) (RET : (den seg) × (Ad × Int) → Option β) (k : Nat) (v : (Ad × Int)) (w : Int) : Option β := (C6 k v 3).bind fun b1 => (C6 k b1.2 3).bind fun b2 => (Yp k b2.2).bind fun b3 => (C6 k b3.2 5).bind fun b4 => (F95 k b4.2 b4.1).bind fun b5 => (C6 k b5.2 4).bind fun b6 => (C6 k b6.2 4).bind fun b7 => (C6 k b7.2 4).bind fun b8 => cond (decide (b8.1 > 0)) ((Yp k b8.2).bind fun b9 => (C6 k b9.2 40).bind fun b10 => (C6 k b10.2 3).bind fun b11 => LP0 b11.1 b11.2 (i64.wrap (1 + b1.1), i64.wrap (1 + b2.1), b3.1, b9.1, b10.1, (b6.1 == 0), true, (b7.1 == 0), false, [], b5.1)) ((C6 k b8.2 8).bind fun b25 => cond (b25.1 == 0) ((Zo k b25.2 w).bind fun b26 => cond b26.1 ((C6 k b26.2 4).bind fun b27 => cond (b27.1 == 0) ((C6 k b27.2 2).bind fun b28 => RET ((i64.wrap (b28.1 * 256), i64.wrap (1 + b2.1), b3.1, 0, 0, false, false, false, true, [], []), b28.2)) (cond (b27.1 == 1) ((C6 k b27.2 2).bind fun b29 => RET ((i64.wrap (1 + b1.1), i64.wrap (1 + b2.1), i64.wrap (65536 - (i64.wrap (b29.1 * 65540))), 0, 0, false, false, false, true, [], []), b29.2)) (cond (b27.1 == 2) (RET ((i64.wrap (1 + b1.1), i64.wrap (1 + b2.1), b3.1, 4, 0, false, true, false, true, [], []), b27.2)) ((C6 k b27.2 14).bind fun b30 => cond (decide (0 ≤ b30.1) && decide (b30.1 = b30.1) && decide (b30.1 * (1 : Nat) ≤ 140737488355328)) (RET ((i64.wrap (1 + b1.1), i64.wrap (1 + b2.1), b3.1, 0, 0, false, false, false, true, [], List.replicate b30.1.toNat (Bz (.int .u8))), b30.2)) none)))) (RET ((i64.wrap (1 + b1.1), i64.wrap (1 + b2.1), b3.1, 0, 0, false, false, false, true, [], []), b26.2))) ((Zo k b25.2 w).bind fun b31 => cond b31.1 ((C6 k b31.2 4).bind fun b32 => cond (b32.1 == 0) ((C6 k b32.2 2).bind fun b33 => RET ((i64.wrap (b33.1 * 256), i64.wrap (1 + b2.1), b3.1, 0, 0, (b6.1 == 0), false, (b7.1 == 0), false, [], b5.1), b33.2)) (cond (b32.1 == 1) ((C6 k b32.2 2).bind fun b34 => RET ((i64.wrap (1 + b1.1), i64.wrap (1 + b2.1), i64.wrap (65536 - (i64.wrap (b34.1 * 65540))), 0, 0, (b6.1 == 0), false, (b7.1 == 0), false, [], b5.1), b34.2)) (cond (b32.1 == 2) (RET ((i64.wrap (1 + b1.1), i64.wrap (1 + b2.1), b3.1, 4, 0, (b6.1 == 0), true, (b7.1 == 0), false, [], b5.1), b32.2)) ((C6 k b32.2 14).bind fun b35 => cond (decide (0 ≤ b35.1) && decide (b35.1 = b35.1) && decide (b35.1 * (1 : Nat) ≤ 140737488355328)) (RET ((i64.wrap (1 + b1.1), i64.wrap (1 + b2.1), b3.1, 0, 0, (b6.1 == 0), false, (b7.1 == 0), true, [], List.replicate b35.1.toNat (Bz (.int .u8))), b35.2)) none)))) (RET ((i64.wrap (1 + b1.1), i64.wrap (1 + b2.1), b3.1, 0, 0, (b6.1 == 0), false, (b7.1 == 0), false, [], b5.1), b31.2))))
def F83 (k : Nat) (v : (Ad × Int)) (w : Int) : Option ((den seg) × (Ad × Int)) := Xhb (Li k v w k) some k v w
theorem X4y {β : Type} (k : Nat) (v : (Ad × Int)) (w : Int) (K : KT β) : Ah (Xgq k) Tryz.f83 (PsT.put Xmm (v, w, ())) K = (F83 k v w).bind fun r => K (F83_O.put r) :=
 Eq.trans (b := Xhb (R0 k v w K k) (fun r => K (F83_O.put r)) k v w) (by kernel_rfl) (by simp only [F83, Xhb, z1, z2, z3, z4, z5, u_0, Xjh])
def Xzk (k : Nat) : FD := ⟨83, Xmm, F83_O, F83 k⟩
theorem X63 (k : Nat) : (Xzk k).Ok Tryz.prog := ⟨fun x => Ab (Ak (Af (.c (Wl k) (.c (X4u k) (.c (Xxg k) (.c (X2j k) .n))))) _ _ _ _) Ai Tryz.func83 rfl rfl (X4y k _ _ some), .of (by kernel_rfl)⟩
abbrev X8p (k : Nat) : Env := Bg (Ay [Xzi k, Xxl k, Rk k, Xzk k, V9 k, Xf6 k]) Aj .ro [] k
abbrev Xbb : Type := (den fin) × Int × (den seg) × Int
abbrev Xxx : List PA := [.one (.sl .ro (.int .u8))]
abbrev F21_O : RO := ⟨[.a, .v, .a, .v], [.pair mI (.pair mI Cp), mI, Cu, mI]⟩
def Rw {β : Type} (k : Nat) (v : Ad) (RET : Xbb → Option β) (b9 : Int × (Ad × Int)) (b2 : Uc) (b4 : (den seg) × (Ad × Int)) (b3 : Int × (Ad × Int)) : Option β := (C6 k b9.2 2).bind fun b18 => cond (b18.1 == 0) ((Sf k b2.2.1).bind fun b19 => (C6 k b18.2 5).bind fun b20 => (Up k (i64.wrap ((i64.wrap (b19 + b20.1)) - 1))).bind fun b21 => (C6 k b20.2 9).bind fun b22 => RET (b2.2.1, i64.wrap (1 + (i64.wrap (b22.1.tdiv 8))), (7, 9, b21, b4.1.2.2.2), i64.wrap (900 + b3.1))) ((C6 k b18.2 9).bind fun b23 => RET (b2.2.1, i64.wrap (1 + (i64.wrap (b23.1.tdiv 8))), (7, 9, b4.1.2.2), i64.wrap (900 + b3.1)))
def Ui {β : Type} (k : Nat) (v : Ad) (RET : Xbb → Option β) (b4 : (den seg) × (Ad × Int)) (b7 : Int × (Ad × Int)) (b2 : Uc) (b3 : Int × (Ad × Int)) : Option β := cond b4.1.2.2.2.2.2.2.1 ((C6 k b7.2 2).bind fun b9 => cond (b9.1 == 0) ((C6 k b9.2 4).bind fun b10 => (Up k (i64.wrap (b2.2.1.2.2.2.2.2.2.1.1 + b10.1))).bind fun b11 => (C6 k b10.2 2).bind fun b12 => cond (b12.1 == 0) ((Sf k b2.2.1).bind fun b13 => (C6 k b12.2 5).bind fun b14 => (Up k (i64.wrap ((i64.wrap (b13 + b14.1)) - 1))).bind fun b15 => (C6 k b14.2 9).bind fun b16 => RET (b2.2.1, i64.wrap (1 + (i64.wrap (b16.1.tdiv 8))), (7, 9, b15, b11, b4.1.2.2.2.2), i64.wrap (900 + b3.1))) ((C6 k b12.2 9).bind fun b17 => RET (b2.2.1, i64.wrap (1 + (i64.wrap (b17.1.tdiv 8))), (7, 9, b4.1.2.2.1, b11, b4.1.2.2.2.2), i64.wrap (900 + b3.1)))) (Rw k v RET b9 b2 b4 b3)) (Rw k v RET b7 b2 b4 b3)
def S4 {β : Type} (k : Nat) (v : Ad) (RET : Xbb → Option β) (b5 : Int × (Ad × Int)) (b2 : Uc) (b3 : Int × (Ad × Int)) (b4 : (den seg) × (Ad × Int)) : Option β := (C6 k b5.2 3).bind fun b7 => cond (decide (b7.1 > 0)) (cond (decide ((b2.2.2.2.1.length : Int) > 0)) ((C6 k b7.2 (b2.2.2.2.1.length : Int)).bind fun b8 => Bi b8.1 b2.2.2.2.1 (RET (b2.2.1, 1, (Bd b2.2.2.2.1 b8.1), i64.wrap (900 + b3.1)))) (Ui k v RET b4 b7 b2 b3)) (Ui k v RET b4 b7 b2 b3)
def Xir {β : Type} (RET : Xbb → Option β) (k : Nat) (v : Ad) : Option β := (F80 k v).bind fun b1 => (F81 k b1).bind fun b2 => (C6 k b2.2.2.2.2 9).bind fun b3 => (F83 k b3.2 12).bind fun b4 => (C6 k b4.2 2).bind fun b5 => cond (b5.1 == 0) (cond (decide ((b2.2.2.1.length : Int) > 0)) ((C6 k b5.2 (b2.2.2.1.length : Int)).bind fun b6 => Bi b6.1 b2.2.2.1 (RET (b2.1, 2, (Bd b2.2.2.1 b6.1), i64.wrap (900 + b3.1)))) (S4 k v RET b5 b2 b3 b4)) (S4 k v RET b5 b2 b3 b4)
def F21 := Xir (β := Xbb) some
theorem X1p {β : Type} (k : Nat) (v : Ad) (K : KT β) : Ah (X8p k) Tryz.f21 (PsT.put Xxx (v, ())) K = (F21 k v).bind fun r => K (F21_O.put r) :=
 Eq.trans (b := Xir (fun r => K (F21_O.put r)) k v) (by kernel_rfl) (by simp only [F21, Xir, Rw, Ui, S4, z1, z2, z3, z4, z5])
def Xx0 (k : Nat) : FD := ⟨21, Xxx, F21_O, F21 k⟩
theorem X6j (k : Nat) : (Xx0 k).Ok Tryz.prog := ⟨fun x => Ab (Ak (Af (.c (X6z k) (.c (X7n k) (.c (Wl k) (.c (X63 k) (.c (Xbd k) (.c (Xm6 k) .n))))))) _ _ _ _) Ai Tryz.func21 rfl rfl (X1p k _ some), .of (by kernel_rfl)⟩
end
end Go.Proofs.YtjkkbmkkljpcjaaGreat.Gn
end

section
set_option linter.unusedVariables false
set_option linter.unusedSimpArgs false
namespace Go.Proofs.YtjkkbmkkljpcjaaGreat.Gn
open Go.Rf IntKind
noncomputable section
abbrev X7p (k : Nat) : Env := Bg Ca Aj .own [] k
abbrev Xxq : List PA := [.one mI, .one mI, .one mI]
abbrev F85_O : RO := ⟨[.v], [mB]⟩
def Iy (k : Nat) (v w p : Int) : Option (Bool) := cond (decide (v ≥ w)) (some (decide (v ≤ p))) (some false)
theorem X58 {β : Type} (k : Nat) (v w p : Int) (K : KT β) : Ah (X7p k) Tryz.f85 (PsT.put Xxq (v, w, p, ())) K = (Iy k v w p).bind fun r => K (F85_O.put r) :=
 Eq.trans (b := cond (decide (v ≥ w)) (K (F85_O.put (decide (v ≤ p)))) (K (F85_O.put false))) (by kernel_rfl) (by simp only [Iy, z1, z2, z3, z4, z5])
def Fk (k : Nat) : FD := ⟨85, Xxq, F85_O, Iy k⟩
theorem Gc (k : Nat) : (Fk k).Ok Tryz.prog := ⟨fun x => Ab (Ak .none _ _ _ _) Ai Tryz.func85 rfl rfl (X58 k _ _ _ some), .of (by kernel_rfl)⟩
abbrev X71 (k : Nat) : Env := Bg (Ay [Fk k]) Aj .own [] k
abbrev Xym : List PA := [.one mI]
abbrev F63_O : RO := ⟨[.v], [mB]⟩
def F63 (k : Nat) (v : Int) : Option (Bool) := (Iy k v 0 65535).bind fun b1 => some b1
theorem X51 {β : Type} (k : Nat) (v : Int) (K : KT β) : Ah (X71 k) Tryz.f63 (PsT.put Xym (v, ())) K = (F63 k v).bind fun r => K (F63_O.put r) :=
 Eq.trans (b := (Iy k v 0 65535).bind fun b1 => K (F63_O.put b1)) (by kernel_rfl) (by simp only [F63, z1, z2, z3, z4, z5])
def Xa9 (k : Nat) : FD := ⟨63, Xym, F63_O, F63 k⟩
theorem Xig (k : Nat) : (Xa9 k).Ok Tryz.prog := ⟨fun x => Ab (Ak (Af (.c (Gc k) .n)) _ _ _ _) Ai Tryz.func63 rfl rfl (X51 k _ some), .of (by kernel_rfl)⟩
abbrev X7u (k : Nat) : Env := Bg (Ay [Fk k]) Aj .own [] k
abbrev Xze : List PA := [.one mI]
abbrev F86_O : RO := ⟨[.v], [mB]⟩
def F86 (k : Nat) (v : Int) : Option (Bool) := (Iy k v 1 255).bind fun b1 => some b1
theorem X0p {β : Type} (k : Nat) (v : Int) (K : KT β) : Ah (X7u k) Tryz.f86 (PsT.put Xze (v, ())) K = (F86 k v).bind fun r => K (F86_O.put r) :=
 Eq.trans (b := (Iy k v 1 255).bind fun b1 => K (F86_O.put b1)) (by kernel_rfl) (by simp only [F86, z1, z2, z3, z4, z5])
def Xpg (k : Nat) : FD := ⟨86, Xze, F86_O, F86 k⟩
theorem Xye (k : Nat) : (Xpg k).Ok Tryz.prog := ⟨fun x => Ab (Ak (Af (.c (Gc k) .n)) _ _ _ _) Ai Tryz.func86 rfl rfl (X0p k _ some), .of (by kernel_rfl)⟩
abbrev X2c (k : Nat) : Env := Bg Ca Aj .own [] k
abbrev Xly : List PA := [.one (.sl .own Ap)]
abbrev F170_O : RO := ⟨[.v], [.sl .own Ap]⟩
def Zf {β : Type} (RET : Ae → Option β) (k : Nat) (v : Ae) : Option β := cond (decide (0 ≤ (v.length : Int)) && decide ((v.length : Int) ≤ (v.length : Int))) (cond (decide ((v.length : Int) = (v.length : Int))) (RET ((v.take ((v.length : Int).toNat)).drop 0)) none) none
def Xjg := Zf (β := Ae) some
theorem Xuq {β : Type} (k : Nat) (v : Ae) (K : KT β) : Ah (X2c k) Tryz.f170 (PsT.put Xly (v, ())) K = (Xjg k v).bind fun r => K (F170_O.put r) :=
 Eq.trans (b := Zf (fun r => K (F170_O.put r)) k v) (by kernel_rfl) (by simp only [Xjg, Zf, z1, z2, z3, z4, z5])
def Xnp (k : Nat) : FD := ⟨170, Xly, F170_O, Xjg k⟩
theorem X5p (k : Nat) : (Xnp k).Ok Tryz.prog := ⟨fun x => Ab (Ak .none _ _ _ _) Ai Tryz.func170 rfl rfl (Xuq k _ some), .of (by kernel_rfl)⟩
abbrev Xzt (k : Nat) : Env := Bg (Ay [Xnp k]) Aj .own [] k
abbrev Xmu : List PA := [.one (.sl .ro Ap)]
abbrev F147_O : RO := ⟨[.v], [.sl .own Ap]⟩
def X9 {β : Type} (RET : Ae → Option β) (k : Nat) (v : Ae) : Option β := cond ((v.length : Int) == 0) (RET []) (Bp (([] : Ae).length) (v.length) 16 ((Xjg k ([] ++ v)).bind fun b1 => RET b1))
def Sv := X9 (β := Ae) some
theorem Xs4 {β : Type} (k : Nat) (v : Ae) (K : KT β) : Ah (Xzt k) Tryz.f147 (PsT.put Xmu (v, ())) K = (Sv k v).bind fun r => K (F147_O.put r) :=
 Eq.trans (b := X9 (fun r => K (F147_O.put r)) k v) (by kernel_rfl) (by simp only [Sv, X9, z1, z2, z3, z4, z5])
def Oc (k : Nat) : FD := ⟨147, Xmu, F147_O, Sv k⟩
theorem Ud (k : Nat) : (Oc k).Ok Tryz.prog := ⟨fun x => Ab (Ak (Af (.c (X5p k) .n)) _ _ _ _) Ai Tryz.func147 rfl rfl (Xs4 k _ some), .of (by kernel_rfl)⟩
def X5c : Nat → Hint
 | 0 => ⟨pl 2 1 ((7, .own .own Ap []) :: (pl 8 1 (pl 12 3 []))), []⟩
 | _ => ⟨[], []⟩
abbrev Y9 (k : Nat) : Env := Bg (Ay [Oc k]) X5c .own [] k
abbrev Xdt : List PA := [.one (.sl .ro Ap), .one mI, .one mI]
abbrev F144_O : RO := ⟨[.v], [.sl .own Ap]⟩
noncomputable def X2t {β : Type} (k : Nat) (v : Ae) (w p : Int) (K : KT β) : Ex → St → Option β := Cz (Y9 k) Tryz.f144 (PsT.put Xdt (v, w, p, ())) K
def Xt0 (v : Ae) (w p : Int) (x8_0 x14_0 : Int) (m7900_0 : Ae) : St := ⟨(.one .d) :: (.one .d) :: (.one (vI p)) :: dz 4 ((.one (.a (.cell 7900) 0 0 none)) :: (.one (vI x8_0)) :: dz 3 ((.one (.s .ro Ap v)) :: (.one (vI (v.length : Int))) :: (.one (vI x14_0)) :: dz 34 [])), [eM 7900 (.s .own Ap m7900_0)]⟩
noncomputable def O7 {β : Type} (k : Nat) (v : Ae) (w p : Int) (K : KT β) (n : Nat) (x8_0 x14_0 : Int) (m7900_0 : Ae) : Option β := Bu (Y9 k) Tryz.f144 [1, 1, 1, 0, 1, 0] 0 (A1 (Y9 k) [1, 1, 1, 0, 1, 0] (Aa Tryz.f144) 0 (X2t k v w p K)) n (Xt0 v w p x8_0 x14_0 m7900_0)
def E6 {β : Type} (NX : Int → Int → Ae → Option β) (RET : Ae → Option β) (k : Nat) (v : Ae) (w p : Int) (x8_0 x14_0 : Int) (m7900_0 : Ae) : Option β := cond (decide (x14_0 < (v.length : Int))) (Bi x14_0 v (cond (decide ((Bd v x14_0).1 > x8_0)) (cond (decide ((Bd v x14_0).2 > (Bd v x14_0).1)) (cond (decide ((Bd v x14_0).2 ≤ p)) (cond (decide ((m7900_0.length : Int) < 2)) (Bp (m7900_0.length) ([(Bd v x14_0)].length) 16 (NX (Bd v x14_0).2 (i64.wrap (x14_0 + 1)) (m7900_0 ++ [(Bd v x14_0)]))) (NX x8_0 (i64.wrap (x14_0 + 1)) m7900_0)) (NX x8_0 (i64.wrap (x14_0 + 1)) m7900_0)) (NX x8_0 (i64.wrap (x14_0 + 1)) m7900_0)) (NX x8_0 (i64.wrap (x14_0 + 1)) m7900_0))) ((Sv k m7900_0).bind fun b1 => RET b1)
def Ey (k : Nat) (v : Ae) (w p : Int) : Nat → Int → Int → Ae → Option (Ae)
 | 0, _, _, _ => none
 | n + 1, x8_0, x14_0, m7900_0 => E6 (Ey k v w p n) some k v w p x8_0 x14_0 m7900_0
theorem Xef {β : Type} (k : Nat) (v : Ae) (w p : Int) (K : KT β) (n : Nat) : ∀ (x8_0 x14_0 : Int) (m7900_0 : Ae), O7 k v w p K n x8_0 x14_0 m7900_0 =
  (Ey k v w p n x8_0 x14_0 m7900_0).bind fun r => K (F144_O.put r) := by
 induction n with
 | zero => intros; rfl
 | succ n ih =>
  intro x8_0 x14_0 m7900_0
  refine Eq.trans (b := E6 (O7 k v w p K n) (fun r => K (F144_O.put r)) k v w p x8_0 x14_0 m7900_0) (by kernel_rfl) ?_
  rw [Ey]
  simp only [E6, z1, z2, z3, z4, z5, ih]
def W6 {β : Type} (LP0 : Int → Int → Ae → Option β) (k : Nat) (v : Ae) (w p : Int) : Option β := LP0 w 0 []
def Xet (k : Nat) (v : Ae) (w p : Int) : Option (Ae) := W6 (Ey k v w p k) k v w p
theorem Xub {β : Type} (k : Nat) (v : Ae) (w p : Int) (K : KT β) : Ah (Y9 k) Tryz.f144 (PsT.put Xdt (v, w, p, ())) K = (Xet k v w p).bind fun r => K (F144_O.put r) :=
 Eq.trans (b := W6 (O7 k v w p K k) k v w p) (by kernel_rfl) (by simp only [Xet, W6, z1, z2, z3, z4, z5, Xef])
def Xda (k : Nat) : FD := ⟨144, Xdt, F144_O, Xet k⟩
theorem Xpl (k : Nat) : (Xda k).Ok Tryz.prog := ⟨fun x => Ab (Ak (Af (.c (Ud k) .n)) _ _ _ _) Ai Tryz.func144 rfl rfl (Xub k _ _ _ some), .of (by kernel_rfl)⟩
def X4k : Nat → Hint
 | 0 => ⟨pl 0 2 (pl 12 2 []), []⟩
 | _ => ⟨[], []⟩
abbrev Yy (k : Nat) : Env := Bg Ca X4k .own [] k
abbrev Xei : List PA := [.one (.sl .ro Ap), .one (.sl .ro Ap)]
abbrev F143_O : RO := ⟨[.v], [mB]⟩
noncomputable def X0h {β : Type} (k : Nat) (v w : Ae) (K : KT β) : Ex → St → Option β := Cz (Yy k) Tryz.f143 (PsT.put Xei (v, w, ())) K
def Xv1 (v w : Ae) (x13_0 : Int) : St := ⟨(.one (.s .ro Ap v)) :: (.one (.s .ro Ap w)) :: dz 10 ((.one (vI (v.length : Int))) :: (.one (vI x13_0)) :: dz 12 []), []⟩
noncomputable def Oi {β : Type} (k : Nat) (v w : Ae) (K : KT β) (n : Nat) (x13_0 : Int) : Option β := Bu (Yy k) Tryz.f143 [1, 1, 0, 1, 0] 0 (A1 (Yy k) [1, 1, 0, 1, 0] (Aa Tryz.f143) 0 (X0h k v w K)) n (Xv1 v w x13_0)
def Hm {β : Type} (NX : Int → Option β) (RET : Bool → Option β) (k : Nat) (v w : Ae) (x13_0 : Int) : Option β := cond (decide (x13_0 < (v.length : Int))) (Bi x13_0 v (Bi x13_0 w (cond (!(eqD Ap (Bd v x13_0) (Bd w x13_0))) (RET false) (NX (i64.wrap (x13_0 + 1)))))) (RET true)
def Gb (k : Nat) (v w : Ae) : Nat → Int → Option (Bool)
 | 0, _ => none
 | n + 1, x13_0 => Hm (Gb k v w n) some k v w x13_0
theorem Xc6 {β : Type} (k : Nat) (v w : Ae) (K : KT β) (n : Nat) : ∀ (x13_0 : Int), Oi k v w K n x13_0 =
  (Gb k v w n x13_0).bind fun r => K (F143_O.put r) := by
 induction n with
 | zero => intros; rfl
 | succ n ih =>
  intro x13_0
  refine Eq.trans (b := Hm (Oi k v w K n) (fun r => K (F143_O.put r)) k v w x13_0) (by kernel_rfl) ?_
  rw [Gb]
  simp only [Hm, z1, z2, z3, z4, z5, ih]
def Wv {β : Type} (LP0 : Int → Option β) (RET : Bool → Option β) (k : Nat) (v w : Ae) : Option β := cond ((v.length : Int) != (w.length : Int)) (RET false) (LP0 0)
def Xju (k : Nat) (v w : Ae) : Option (Bool) := Wv (Gb k v w k) some k v w
theorem Xv3 {β : Type} (k : Nat) (v w : Ae) (K : KT β) : Ah (Yy k) Tryz.f143 (PsT.put Xei (v, w, ())) K = (Xju k v w).bind fun r => K (F143_O.put r) :=
 Eq.trans (b := Wv (Oi k v w K k) (fun r => K (F143_O.put r)) k v w) (by kernel_rfl) (by simp only [Xju, Wv, z1, z2, z3, z4, z5, Xc6])
def Xqv (k : Nat) : FD := ⟨143, Xei, F143_O, Xju k⟩
theorem X4o (k : Nat) : (Xqv k).Ok Tryz.prog := ⟨fun x => Ab (Ak .none _ _ _ _) Ai Tryz.func143 rfl rfl (Xv3 k _ _ some), .of (by kernel_rfl)⟩
abbrev X7m (k : Nat) : Env := Bg (Ay [Fk k, Xda k, Xqv k]) Aj .own [] k
abbrev Xyk : List PA := [.agg (.pair mI m_3)]
abbrev F87_O : RO := ⟨[.v], [mB]⟩
def Xid {β : Type} (RET : Bool → Option β) (k : Nat) (v : (den Co)) : Option β := Bn v fun v0 v1 v2 v3 v4 => (Iy k v0 0 1000000).bind fun b1 => cond b1 (cond (decide ((v1.length : Int) ≤ 32)) ((Iy k v2 0 (v1.length : Int)).bind fun b2 => cond b2 ((Iy k v3 0 255).bind fun b3 => cond b3 (cond (decide ((v4.length : Int) ≤ 2)) ((Xet k v4 v0 (i64.wrap (v0 + v2))).bind fun b4 => (Xju k b4 v4).bind fun b5 => RET b5) (RET false)) (RET false)) (RET false)) (RET false)) (RET false)
def F87 := Xid (β := Bool) some
theorem X1l {β : Type} (k : Nat) (v : (den Co)) (K : KT β) : Ah (X7m k) Tryz.f87 (PsT.put Xyk (v, ())) K = (F87 k v).bind fun r => K (F87_O.put r) :=
 Eq.trans (b := Xid (fun r => K (F87_O.put r)) k v) (by kernel_rfl) (by simp only [F87, Xid, z1, z2, z3, z4, z5, Bn])
def Xnf (k : Nat) : FD := ⟨87, Xyk, F87_O, F87 k⟩
theorem Xy1 (k : Nat) : (Xnf k).Ok Tryz.prog := ⟨fun x => Ab (Ak (Af (.c (Gc k) (.c (Xpl k) (.c (X4o k) .n)))) _ _ _ _) Ai Tryz.func87 rfl rfl (X1l k _ some), .of (by kernel_rfl)⟩
abbrev X0e (k : Nat) : Env := Bg Ca Aj .own [] k
abbrev Xry : List PA := [.agg (.pair mI (.pair mI U7))]
abbrev F104_O : RO := ⟨[.v], [mI]⟩
def Fs (k : Nat) (v : (den A9)) : Option (Int) := some (i64.wrap (v.2.1 - (v.2.2.1.length : Int)))
theorem Xwh {β : Type} (k : Nat) (v : (den A9)) (K : KT β) : Ah (X0e k) Tryz.f104 (PsT.put Xry (v, ())) K = (Fs k v).bind fun r => K (F104_O.put r) :=
 Eq.trans (b := K (F104_O.put (i64.wrap (v.2.1 - (v.2.2.1.length : Int))))) (by kernel_rfl) (by simp only [Fs, z1, z2, z3, z4, z5, Bs])
def Oj (k : Nat) : FD := ⟨104, Xry, F104_O, Fs k⟩
theorem Rb (k : Nat) : (Oj k).Ok Tryz.prog := ⟨fun x => Ab (Ak .none _ _ _ _) Ai Tryz.func104 rfl rfl (Xwh k _ some), .of (by kernel_rfl)⟩
def X7z : Nat → Hint
 | 0 => ⟨pl 1 1 (pl 21 3 []), pl 1000 4 []⟩
 | _ => ⟨[], []⟩
abbrev Xhk (k : Nat) : Env := Bg (Ay [Fk k, Oj k]) X7z .own [] k
abbrev Xmr : List PA := [.agg (.pair mI (.pair mI U7))]
abbrev F88_O : RO := ⟨[.v], [mB]⟩
noncomputable def X74 {β : Type} (k : Nat) (v : (den A9)) (K : KT β) : Ex → St → Option β := Cz (Xhk k) Tryz.f88 (PsT.put Xmr (v, ())) K
def X3f (v : (den A9)) (x23_0 : Int) : St := ⟨(.one .d) :: (.one (.ptr (.cell 1000) 4 0)) :: dz 19 ((.one (.s .ro Av v.2.2.2)) :: (.one (vI (v.2.2.2.length : Int))) :: (.one (vI x23_0)) :: dz 34 []), Bc 1000 (Cb (.pair mI (.pair mI U7)) v) []⟩
noncomputable def Ub {β : Type} (k : Nat) (v : (den A9)) (K : KT β) (n : Nat) (x23_0 : Int) : Option β := Bu (Xhk k) Tryz.f88 [1, 1, 0, 1, 0] 0 (A1 (Xhk k) [1, 1, 0, 1, 0] (Aa Tryz.f88) 0 (X74 k v K)) n (X3f v x23_0)
def Gz {β : Type} (NX : Int → Option β) (RET : Bool → Option β) (k : Nat) (v : (den A9)) (x23_0 : Int) : Option β := Bs v fun v0 _ _ v3 => cond (decide (x23_0 < (v3.length : Int))) (Bi x23_0 v3 ((Fs k v).bind fun b4 => (Iy k (Bd v3 x23_0).1 (i64.wrap (v0 + 1)) (i64.wrap ((i64.wrap (v0 + b4)) - 1))).bind fun b5 => cond (!b5) (RET false) (cond (decide (x23_0 > 0)) (Bi (i64.wrap (x23_0 - 1)) v3 (cond (decide ((Bd v3 (i64.wrap (x23_0 - 1))).1 ≥ (Bd v3 x23_0).1)) (RET false) (NX (i64.wrap (x23_0 + 1))))) (NX (i64.wrap (x23_0 + 1)))))) (RET true)
def Hx (k : Nat) (v : (den A9)) : Nat → Int → Option (Bool)
 | 0, _ => none
 | n + 1, x23_0 => Gz (Hx k v n) some k v x23_0
theorem Xkq {β : Type} (k : Nat) (v : (den A9)) (K : KT β) (n : Nat) : ∀ (x23_0 : Int), Ub k v K n x23_0 =
  (Hx k v n x23_0).bind fun r => K (F88_O.put r) := by
 induction n with
 | zero => intros; rfl
 | succ n ih =>
  intro x23_0
  refine Eq.trans (b := Gz (Ub k v K n) (fun r => K (F88_O.put r)) k v x23_0) (by kernel_rfl) ?_
  rw [Hx]
  simp only [Gz, z1, z2, z3, z4, z5, Bs, ih]
def Xg9 {β : Type} (LP0 : Int → Option β) (RET : Bool → Option β) (k : Nat) (v : (den A9)) : Option β := (Iy k v.1 0 1000000).bind fun b1 => cond (!b1) (RET false) ((Iy k v.2.1 1 32).bind fun b2 => cond (!b2) (RET false) ((Fs k v).bind fun b3 => cond (decide (b3 < 0)) (RET false) (LP0 0)))
def F88 (k : Nat) (v : (den A9)) : Option (Bool) := Xg9 (Hx k v k) some k v
theorem X3s {β : Type} (k : Nat) (v : (den A9)) (K : KT β) : Ah (Xhk k) Tryz.f88 (PsT.put Xmr (v, ())) K = (F88 k v).bind fun r => K (F88_O.put r) :=
 Eq.trans (b := Xg9 (Ub k v K k) (fun r => K (F88_O.put r)) k v) (by kernel_rfl) (by simp only [F88, Xg9, z1, z2, z3, z4, z5, Bs, Xkq])
def Xih (k : Nat) : FD := ⟨88, Xmr, F88_O, F88 k⟩
theorem Xlv (k : Nat) : (Xih k).Ok Tryz.prog := ⟨fun x => Ab (Ak (Af (.c (Gc k) (.c (Rb k) .n))) _ _ _ _) Ai Tryz.func88 rfl rfl (X3s k _ some), .of (by kernel_rfl)⟩
abbrev X7j (k : Nat) : Env := Bg (Ay [Fk k]) Aj .own [] k
abbrev Xzb : List PA := [.agg (.pair mI (.pair mI mI))]
abbrev F89_O : RO := ⟨[.v], [mB]⟩
def Xgs {β : Type} (RET : Bool → Option β) (k : Nat) (v : (den Uw)) : Option β := (Iy k v.1 0 80000).bind fun b1 => cond b1 ((Iy k v.2.1 0 80000).bind fun b2 => cond b2 ((Iy k v.2.2 4 200).bind fun b3 => RET b3) (RET false)) (RET false)
def F89 := Xgs (β := Bool) some
theorem X28 {β : Type} (k : Nat) (v : (den Uw)) (K : KT β) : Ah (X7j k) Tryz.f89 (PsT.put Xzb (v, ())) K = (F89 k v).bind fun r => K (F89_O.put r) :=
 Eq.trans (b := Xgs (fun r => K (F89_O.put r)) k v) (by kernel_rfl) (by simp only [F89, Xgs, z1, z2, z3, z4, z5, Wo])
def Xyi (k : Nat) : FD := ⟨89, Xzb, F89_O, F89 k⟩
theorem X7y (k : Nat) : (Xyi k).Ok Tryz.prog := ⟨fun x => Ab (Ak (Af (.c (Gc k) .n)) _ _ _ _) Ai Tryz.func89 rfl rfl (X28 k _ some), .of (by kernel_rfl)⟩
def X8q : Nat → Hint
 | 0 => ⟨pl 1 1 (pl 41 3 []), pl 1000 24 []⟩
 | _ => ⟨[], []⟩
abbrev Xgk (k : Nat) : Env := Bg (Ay [Fk k]) X8q .own [] k
abbrev Xrr : List PA := [.agg (.pair mI (.pair mI Cp))]
abbrev F90_O : RO := ⟨[.v], [mB]⟩
noncomputable def X76 {β : Type} (k : Nat) (v : (den fin)) (K : KT β) : Ex → St → Option β := Cz (Xgk k) Tryz.f90 (PsT.put Xrr (v, ())) K
def X1j (v : (den fin)) (x43_0 : Int) : St := ⟨(.one .d) :: (.one (.ptr (.cell 1000) 24 0)) :: dz 39 ((.one (.s .ro Av v.2.2.2.2.2.2.2.1.2.2.2)) :: (.one (vI (v.2.2.2.2.2.2.2.1.2.2.2.length : Int))) :: (.one (vI x43_0)) :: dz 20 []), Bc 1000 (Cb (.pair mI (.pair mI Cp)) v) []⟩
noncomputable def Rc {β : Type} (k : Nat) (v : (den fin)) (K : KT β) (n : Nat) (x43_0 : Int) : Option β := Bu (Xgk k) Tryz.f90 [1, 1, 1, 0, 1, 0] 0 (A1 (Xgk k) [1, 1, 1, 0, 1, 0] (Aa Tryz.f90) 0 (X76 k v K)) n (X1j v x43_0)
def Jv {β : Type} (NX : Int → Option β) (RET : Bool → Option β) (k : Nat) (v : (den fin)) (x43_0 : Int) : Option β := cond (decide (x43_0 < (v.2.2.2.2.2.2.2.1.2.2.2.length : Int))) (Bi x43_0 v.2.2.2.2.2.2.2.1.2.2.2 (cond (decide ((Bd v.2.2.2.2.2.2.2.1.2.2.2 x43_0).1 ≥ v.2.2.2.2.2.2.2.2.2.2.2.1)) (RET false) (NX (i64.wrap (x43_0 + 1))))) ((Iy k v.2.2.2.2.2.2.2.2.2.2.2.1 v.2.2.2.2.2.2.2.1.1 1000000).bind fun b1 => cond b1 (RET (decide (v.1 ≥ 4))) (RET false))
def J2 (k : Nat) (v : (den fin)) : Nat → Int → Option (Bool)
 | 0, _ => none
 | n + 1, x43_0 => Jv (J2 k v n) some k v x43_0
theorem Xi2 {β : Type} (k : Nat) (v : (den fin)) (K : KT β) (n : Nat) : ∀ (x43_0 : Int), Rc k v K n x43_0 =
  (J2 k v n x43_0).bind fun r => K (F90_O.put r) := by
 induction n with
 | zero => intros; rfl
 | succ n ih =>
  intro x43_0
  refine Eq.trans (b := Jv (Rc k v K n) (fun r => K (F90_O.put r)) k v x43_0) (by kernel_rfl) ?_
  rw [J2]
  simp only [Jv, z1, z2, z3, z4, z5, Ao, ih]
def Yi {β : Type} (k : Nat) (v : (den fin)) (LP0 : Int → Option β) (RET : Bool → Option β) : Option β := cond v.2.2.2.2.2.2.2.2.2.1 (cond (!v.2.2.2.2.2.2.2.2.1) (RET false) (cond (v.2.2.2.2.2.2.1.2.2.1 != (v.2.2.2.2.2.2.1.2.1.length : Int)) (RET false) (cond (decide (v.1 < 4)) (RET false) (cond (v.2.2.2.2.2.2.2.2.2.2.2.1 == (-1)) (RET true) (LP0 0))))) (cond (v.2.2.2.2.2.2.2.2.2.2.2.1 == (-1)) (RET true) (LP0 0))
def Xf8 {β : Type} (LP0 : Int → Option β) (RET : Bool → Option β) (k : Nat) (v : (den fin)) : Option β := cond v.2.2.2.2.2.2.2.2.2.2.1 (cond (!v.2.2.2.2.2.2.2.2.2.1) (RET false) (Yi k v LP0 RET)) (Yi k v LP0 RET)
def F90 (k : Nat) (v : (den fin)) : Option (Bool) := Xf8 (J2 k v k) some k v
theorem X4g {β : Type} (k : Nat) (v : (den fin)) (K : KT β) : Ah (Xgk k) Tryz.f90 (PsT.put Xrr (v, ())) K = (F90 k v).bind fun r => K (F90_O.put r) :=
 Eq.trans (b := Xf8 (Rc k v K k) (fun r => K (F90_O.put r)) k v) (by kernel_rfl) (by simp only [F90, Xf8, Yi, z1, z2, z3, z4, z5, Ao, Xi2])
def Xxy (k : Nat) : FD := ⟨90, Xrr, F90_O, F90 k⟩
theorem X64 (k : Nat) : (Xxy k).Ok Tryz.prog := ⟨fun x => Ab (Ak (Af (.c (Gc k) .n)) _ _ _ _) Ai Tryz.func90 rfl rfl (X4g k _ some), .of (by kernel_rfl)⟩
abbrev X8c (k : Nat) : Env := Bg Ca Aj .own [] k
abbrev Xyh : List PA := [.agg (.pair mI (.pair mI Cp))]
abbrev F91_O : RO := ⟨[.v], [mB]⟩
def Xh0 {β : Type} (RET : Bool → Option β) (k : Nat) (v : (den fin)) : Option β := cond (v.1 == 2) (RET true) (cond (v.1 == 3) (RET true) (cond (v.1 == 4) (cond (decide ((v.2.2.2.2.2.2.1.2.1.length : Int) > 0)) (RET true) (cond v.2.2.2.2.2.2.2.2.2.1 (RET (!v.2.2.2.2.2.2.2.2.2.2.1)) (RET false))) (RET false)))
def F91 := Xh0 (β := Bool) some
theorem X5x {β : Type} (k : Nat) (v : (den fin)) (K : KT β) : Ah (X8c k) Tryz.f91 (PsT.put Xyh (v, ())) K = (F91 k v).bind fun r => K (F91_O.put r) :=
 Eq.trans (b := Xh0 (fun r => K (F91_O.put r)) k v) (by kernel_rfl) (by simp only [F91, Xh0, z1, z2, z3, z4, z5, Ao])
def Xlj (k : Nat) : FD := ⟨91, Xyh, F91_O, F91 k⟩
theorem Xx9 (k : Nat) : (Xlj k).Ok Tryz.prog := ⟨fun x => Ab (Ak .none _ _ _ _) Ai Tryz.func91 rfl rfl (X5x k _ some), .of (by kernel_rfl)⟩
abbrev X7g (k : Nat) : Env := Bg (Ay [Fk k, Xa9 k, Xpg k, Xnf k, Xih k, Xyi k, Xxy k, Xlj k]) Aj .own [] k
abbrev Xxa : List PA := [.agg (.pair mI (.pair mI Cp))]
abbrev F24_O : RO := ⟨[.v], [mB]⟩
def Sw {β : Type} (k : Nat) (v : (den fin)) (RET : Bool → Option β) : Option β := cond (v.1 == 0) (cond (!((v.2.2.2.2.1 == 0) == true)) (RET false) ((F91 k v).bind fun b13 => cond b13 (RET true) (cond (v.2.2.2.2.2.2.2.2.2.2.2.2.1 == 0) (cond (v.2.2.2.2.2.2.2.2.2.2.2.2.2.1 == 0) (RET true) (RET (v.1 == 5))) (RET false)))) (cond (!((v.2.2.2.2.1 == 0) == (v.1 == 1))) (RET false) ((F91 k v).bind fun b14 => cond b14 (RET true) (cond (v.2.2.2.2.2.2.2.2.2.2.2.2.1 == 0) (cond (v.2.2.2.2.2.2.2.2.2.2.2.2.2.1 == 0) (RET true) (RET (v.1 == 5))) (RET false))))
def Xhq {β : Type} (RET : Bool → Option β) (k : Nat) (v : (den fin)) : Option β := Ao v fun v0 v1 v2 v3 v4 v5 v6 _ v8 _ _ _ _ _ _ _ _ _ _ v19 v20 v21 v22 v23 => (Iy k v0 0 5).bind fun b1 => cond (!b1) (RET false) ((F63 k v1).bind fun b2 => cond (!b2) (RET false) ((F86 k v2).bind fun b3 => cond (!b3) (RET false) ((F63 k v3).bind fun b4 => cond (!b4) (RET false) ((Iy k v4 0 255).bind fun b5 => cond (!b5) (RET false) ((F63 k v5).bind fun b6 => cond (!b6) (RET false) ((F87 k v.2.2.2.2.2.2.1).bind fun b7 => cond (!b7) (RET false) (cond (decide (v6 < (i64.wrap (v5 + 1)))) (RET false) ((F88 k v.2.2.2.2.2.2.2.1).bind fun b8 => cond (!b8) (RET false) ((F89 k (v21, v22, v23)).bind fun b9 => cond (!b9) (RET false) ((Iy k v19 0 1000000).bind fun b10 => cond (!b10) (RET false) ((Iy k v20 0 8).bind fun b11 => cond (!b11) (RET false) ((F90 k v).bind fun b12 => cond (!b12) (RET false) (cond (decide (v0 < 4)) (cond (v8 != 0) (RET false) (cond (v6 != (i64.wrap (v5 + 1))) (RET false) (Sw k v RET))) (Sw k v RET))))))))))))))
def F24 := Xhq (β := Bool) some
theorem Xzy {β : Type} (k : Nat) (v : (den fin)) (K : KT β) : Ah (X7g k) Tryz.f24 (PsT.put Xxa (v, ())) K = (F24 k v).bind fun r => K (F24_O.put r) :=
 Eq.trans (b := Xhq (fun r => K (F24_O.put r)) k v) (by kernel_rfl) (by simp only [F24, Xhq, Sw, z1, z2, z3, z4, z5, Ao])
def Xna (k : Nat) : FD := ⟨24, Xxa, F24_O, F24 k⟩
theorem Xx1 (k : Nat) : (Xna k).Ok Tryz.prog := ⟨fun x => Ab (Ak (Af (.c (Gc k) (.c (Xig k) (.c (Xye k) (.c (Xy1 k) (.c (Xlv k) (.c (X7y k) (.c (X64 k) (.c (Xx9 k) .n))))))))) _ _ _ _) Ai Tryz.func24 rfl rfl (Xzy k _ some), .of (by kernel_rfl)⟩
abbrev X85 (k : Nat) : Env := Bg (Ay [Xna k, Fk k]) Aj .own [] k
abbrev Xw5 : List PA := [.agg (.pair mI (.pair mI Cp)), .one mI]
abbrev F62_O : RO := ⟨[.v], [mB]⟩
def F62 (k : Nat) (v : (den fin)) (w : Int) : Option (Bool) := (F24 k v).bind fun b1 => cond b1 ((Iy k w 0 900000).bind fun b2 => some b2) (some false)
theorem X1a {β : Type} (k : Nat) (v : (den fin)) (w : Int) (K : KT β) : Ah (X85 k) Tryz.f62 (PsT.put Xw5 (v, w, ())) K = (F62 k v w).bind fun r => K (F62_O.put r) :=
 Eq.trans (b := (F24 k v).bind fun b1 => cond b1 ((Iy k w 0 900000).bind fun b2 => K (F62_O.put b2)) (K (F62_O.put false))) (by kernel_rfl) (by simp only [F62, z1, z2, z3, z4, z5, Ao])
def Xx2 (k : Nat) : FD := ⟨62, Xw5, F62_O, F62 k⟩
theorem X73 (k : Nat) : (Xx2 k).Ok Tryz.prog := ⟨fun x => Ab (Ak (Af (.c (Xx1 k) (.c (Gc k) .n))) _ _ _ _) Ai Tryz.func62 rfl rfl (X1a k _ _ some), .of (by kernel_rfl)⟩
abbrev X78 (k : Nat) : Env := Bg (Ay [Xa9 k]) Aj .own [] k
abbrev Xx4 : List PA := [.agg (.pair mI mI)]
abbrev F93_O : RO := ⟨[.v], [mB]⟩
def F93 (k : Nat) (v : (den Ap)) : Option (Bool) := (F63 k v.1).bind fun b1 => cond (!b1) (some true) ((F63 k v.2).bind fun b2 => some (!b2))
theorem Xz2 {β : Type} (k : Nat) (v : (den Ap)) (K : KT β) : Ah (X78 k) Tryz.f93 (PsT.put Xx4 (v, ())) K = (F93 k v).bind fun r => K (F93_O.put r) :=
 Eq.trans (b := (F63 k v.1).bind fun b1 => cond (!b1) (K (F93_O.put true)) ((F63 k v.2).bind fun b2 => K (F93_O.put (!b2)))) (by kernel_rfl) (by simp only [F93, z1, z2, z3, z4, z5])
def Xx7 (k : Nat) : FD := ⟨93, Xx4, F93_O, F93 k⟩
theorem X6v (k : Nat) : (Xx7 k).Ok Tryz.prog := ⟨fun x => Ab (Ak (Af (.c (Xig k) .n)) _ _ _ _) Ai Tryz.func93 rfl rfl (Xz2 k _ some), .of (by kernel_rfl)⟩
def Xzw : Nat → Hint
 | 0 => ⟨pl 0 2 (pl 7 2 []), []⟩
 | _ => ⟨[], []⟩
abbrev Zh (k : Nat) : Env := Bg (Ay [Xx7 k]) Xzw .own [] k
abbrev Xff : List PA := [.one (.sl .ro Ap), .fn 93]
abbrev F145_O : RO := ⟨[.v], [mI]⟩
noncomputable def X4z {β : Type} (k : Nat) (v : Ae) (K : KT β) : Ex → St → Option β := Cz (Zh k) Tryz.f145 (PsT.put Xff (v, (), ())) K
def Xwa (v : Ae) (x8_0 : Int) : St := ⟨(.one (.s .ro Ap v)) :: (.one (.fn 93 [])) :: dz 5 ((.one (vI (v.length : Int))) :: (.one (vI x8_0)) :: dz 10 []), []⟩
noncomputable def Ou {β : Type} (k : Nat) (v : Ae) (K : KT β) (n : Nat) (x8_0 : Int) : Option β := Bu (Zh k) Tryz.f145 [1, 0, 1, 0] 0 (A1 (Zh k) [1, 0, 1, 0] (Aa Tryz.f145) 0 (X4z k v K)) n (Xwa v x8_0)
def Hl {β : Type} (NX : Int → Option β) (RET : Int → Option β) (k : Nat) (v : Ae) (x8_0 : Int) : Option β := cond (decide (x8_0 < (v.length : Int))) (Bi x8_0 v ((F93 k (Bd v x8_0)).bind fun b1 => cond b1 (RET x8_0) (NX (i64.wrap (x8_0 + 1))))) (RET (-1))
def F8 (k : Nat) (v : Ae) : Nat → Int → Option (Int)
 | 0, _ => none
 | n + 1, x8_0 => Hl (F8 k v n) some k v x8_0
theorem Xc2 {β : Type} (k : Nat) (v : Ae) (K : KT β) (n : Nat) : ∀ (x8_0 : Int), Ou k v K n x8_0 =
  (F8 k v n x8_0).bind fun r => K (F145_O.put r) := by
 induction n with
 | zero => intros; rfl
 | succ n ih =>
  intro x8_0
  refine Eq.trans (b := Hl (Ou k v K n) (fun r => K (F145_O.put r)) k v x8_0) (by kernel_rfl) ?_
  rw [F8]
  simp only [Hl, z1, z2, z3, z4, z5, ih]
def Xz {β : Type} (LP0 : Int → Option β) (k : Nat) (v : Ae) : Option β := LP0 0
def Xiz (k : Nat) (v : Ae) : Option (Int) := Xz (F8 k v k) k v
theorem Xv9 {β : Type} (k : Nat) (v : Ae) (K : KT β) : Ah (Zh k) Tryz.f145 (PsT.put Xff (v, (), ())) K = (Xiz k v).bind fun r => K (F145_O.put r) :=
 Eq.trans (b := Xz (Ou k v K k) k v) (by kernel_rfl) (by simp only [Xiz, Xz, z1, z2, z3, z4, z5, Xc2])
def Xow (k : Nat) : FD := ⟨145, Xff, F145_O, Xiz k⟩
theorem X29 (k : Nat) : (Xow k).Ok Tryz.prog := ⟨fun x => Ab (Ak (Af (.c (X6v k) .n)) _ _ _ _) Ai Tryz.func145 rfl rfl (Xv9 k _ some), .of (by kernel_rfl)⟩
abbrev X8i (k : Nat) : Env := Bg (Ay [Xow k]) Aj .own [] k
abbrev Xxm : List PA := [.one (.sl .ro Ap), .fn 93]
abbrev F92_O : RO := ⟨[.v], [mB]⟩
def F92 (k : Nat) (v : Ae) : Option (Bool) := (Xiz k v).bind fun b1 => some (decide (b1 ≥ 0))
theorem X3l {β : Type} (k : Nat) (v : Ae) (K : KT β) : Ah (X8i k) Tryz.f92 (PsT.put Xxm (v, (), ())) K = (F92 k v).bind fun r => K (F92_O.put r) :=
 Eq.trans (b := (Xiz k v).bind fun b1 => K (F92_O.put (decide (b1 ≥ 0)))) (by kernel_rfl) (by simp only [F92, z1, z2, z3, z4, z5])
def Xzl (k : Nat) : FD := ⟨92, Xxm, F92_O, F92 k⟩
theorem X6p (k : Nat) : (Xzl k).Ok Tryz.prog := ⟨fun x => Ab (Ak (Af (.c (X29 k) .n)) _ _ _ _) Ai Tryz.func92 rfl rfl (X3l k _ some), .of (by kernel_rfl)⟩
abbrev X8r (k : Nat) : Env := Bg (Ay [Xpg k, Xa9 k, Fk k, Xzl k]) Aj .own [] k
abbrev Xxh : List PA := [.agg Cu]
abbrev F25_O : RO := ⟨[.v], [mB]⟩
def Xgx {β : Type} (RET : Bool → Option β) (k : Nat) (v : (den seg)) : Option β := A8 v fun v0 v1 v2 v3 v4 v5 v6 v7 v8 v9 v10 => (F86 k v0).bind fun b1 => cond (!b1) (RET false) ((F86 k v1).bind fun b2 => cond (!b2) (RET false) ((F63 k v2).bind fun b3 => cond (!b3) (RET false) ((F63 k v3).bind fun b4 => cond (!b4) (RET false) ((Iy k v4 0 255).bind fun b5 => cond (!b5) (RET false) (cond (decide ((v9.length : Int) > 2)) (RET false) (cond (decide ((v10.length : Int) > 12)) (RET false) ((F92 k v9).bind fun b6 => cond b6 (RET false) (cond (!v6) (cond (v3 != 0) (RET false) (cond (v4 != 0) (RET false) (cond (decide ((v9.length : Int) > 0)) (RET false) (cond (!v8) (RET true) (cond (!v5) (cond (!v7) (RET ((v10.length : Int) == 0)) (RET false)) (RET false)))))) (cond (!v8) (RET true) (cond (!v5) (cond (!v7) (RET ((v10.length : Int) == 0)) (RET false)) (RET false)))))))))))
def F25 := Xgx (β := Bool) some
theorem X4a {β : Type} (k : Nat) (v : (den seg)) (K : KT β) : Ah (X8r k) Tryz.f25 (PsT.put Xxh (v, ())) K = (F25 k v).bind fun r => K (F25_O.put r) :=
 Eq.trans (b := Xgx (fun r => K (F25_O.put r)) k v) (by kernel_rfl) (by simp only [F25, Xgx, z1, z2, z3, z4, z5, A8])
def Xg3 (k : Nat) : FD := ⟨25, Xxh, F25_O, F25 k⟩
theorem Xrq (k : Nat) : (Xg3 k).Ok Tryz.prog := ⟨fun x => Ab (Ak (Af (.c (Xye k) (.c (Xig k) (.c (Gc k) (.c (X6p k) .n))))) _ _ _ _) Ai Tryz.func25 rfl rfl (X4a k _ some), .of (by kernel_rfl)⟩
abbrev X3y (k : Nat) : Env := Bg Ca Aj .own [] k
abbrev Xpq : List PA := [.one (.sl .own (.int .u8))]
abbrev F171_O : RO := ⟨[.v], [.sl .own (.int .u8)]⟩
def Yk {β : Type} (RET : Ad → Option β) (k : Nat) (v : Ad) : Option β := cond (decide (0 ≤ (v.length : Int)) && decide ((v.length : Int) ≤ (v.length : Int))) (cond (decide ((v.length : Int) = (v.length : Int))) (RET ((v.take ((v.length : Int).toNat)).drop 0)) none) none
def Xkk := Yk (β := Ad) some
theorem Xud {β : Type} (k : Nat) (v : Ad) (K : KT β) : Ah (X3y k) Tryz.f171 (PsT.put Xpq (v, ())) K = (Xkk k v).bind fun r => K (F171_O.put r) :=
 Eq.trans (b := Yk (fun r => K (F171_O.put r)) k v) (by kernel_rfl) (by simp only [Xkk, Yk, z1, z2, z3, z4, z5])
def Xrp (k : Nat) : FD := ⟨171, Xpq, F171_O, Xkk k⟩
theorem X4d (k : Nat) : (Xrp k).Ok Tryz.prog := ⟨fun x => Ab (Ak .none _ _ _ _) Ai Tryz.func171 rfl rfl (Xud k _ some), .of (by kernel_rfl)⟩
end
end Go.Proofs.YtjkkbmkkljpcjaaGreat.Gn
end

section
set_option linter.unusedVariables false
set_option linter.unusedSimpArgs false
namespace Go.Proofs.YtjkkbmkkljpcjaaGreat.Gn
open Go.Rf IntKind
noncomputable section
abbrev X1o (k : Nat) : Env := Bg (Ay [Xrp k]) Aj .own [] k
abbrev Xqt : List PA := [.one (.sl .ro (.int .u8))]
abbrev F148_O : RO := ⟨[.v], [.sl .own (.int .u8)]⟩
def Ys {β : Type} (RET : Ad → Option β) (k : Nat) (v : Ad) : Option β := cond ((v.length : Int) == 0) (RET []) (Bp (([] : Ad).length) (v.length) 1 ((Xkk k ([] ++ v)).bind fun b1 => RET b1))
def Tv := Ys (β := Ad) some
theorem Xv7 {β : Type} (k : Nat) (v : Ad) (K : KT β) : Ah (X1o k) Tryz.f148 (PsT.put Xqt (v, ())) K = (Tv k v).bind fun r => K (F148_O.put r) :=
 Eq.trans (b := Ys (fun r => K (F148_O.put r)) k v) (by kernel_rfl) (by simp only [Tv, Ys, z1, z2, z3, z4, z5])
def Tt (k : Nat) : FD := ⟨148, Xqt, F148_O, Tv k⟩
theorem Y2 (k : Nat) : (Tt k).Ok Tryz.prog := ⟨fun x => Ab (Ak (Af (.c (X4d k) .n)) _ _ _ _) Ai Tryz.func148 rfl rfl (Xv7 k _ some), .of (by kernel_rfl)⟩
abbrev X4m (k : Nat) : Env := Bg (Ay [Tt k, Oc k]) Aj .own [] k
abbrev Xni : List PA := [.agg (.pair mI m_3)]
abbrev F121_O : RO := ⟨[.a], [.pair mI Zz]⟩
def W9 (k : Nat) (v : (den Co)) : Option ((den Co)) := Bn v fun v0 v1 v2 v3 v4 => (Tv k v1).bind fun b1 => (Sv k v4).bind fun b2 => some (v0, b1, v2, v3, b2)
theorem Xwc {β : Type} (k : Nat) (v : (den Co)) (K : KT β) : Ah (X4m k) Tryz.f121 (PsT.put Xni (v, ())) K = (W9 k v).bind fun r => K (F121_O.put r) :=
 Eq.trans (b := (Tv k v.2.1).bind fun b1 => (Sv k v.2.2.2.2).bind fun b2 => K (F121_O.put (v.1, b1, v.2.2.1, v.2.2.2.1, b2))) (by kernel_rfl) (by simp only [W9, z1, z2, z3, z4, z5, Bn])
def Xee (k : Nat) : FD := ⟨121, Xni, F121_O, W9 k⟩
theorem Xnh (k : Nat) : (Xee k).Ok Tryz.prog := ⟨fun x => Ab (Ak (Af (.c (Y2 k) (.c (Ud k) .n))) _ _ _ _) Ai Tryz.func121 rfl rfl (Xwc k _ some), .of (by kernel_rfl)⟩
abbrev X3h (k : Nat) : Env := Bg Ca Aj .own [] k
abbrev Xse : List PA := [.one (.sl .own Av)]
abbrev F173_O : RO := ⟨[.v], [.sl .own Av]⟩
def Zk {β : Type} (RET : Aw → Option β) (k : Nat) (v : Aw) : Option β := cond (decide (0 ≤ (v.length : Int)) && decide ((v.length : Int) ≤ (v.length : Int))) (cond (decide ((v.length : Int) = (v.length : Int))) (RET ((v.take ((v.length : Int).toNat)).drop 0)) none) none
def Xjr := Zk (β := Aw) some
theorem Xvm {β : Type} (k : Nat) (v : Aw) (K : KT β) : Ah (X3h k) Tryz.f173 (PsT.put Xse (v, ())) K = (Xjr k v).bind fun r => K (F173_O.put r) :=
 Eq.trans (b := Zk (fun r => K (F173_O.put r)) k v) (by kernel_rfl) (by simp only [Xjr, Zk, z1, z2, z3, z4, z5])
def Xqo (k : Nat) : FD := ⟨173, Xse, F173_O, Xjr k⟩
theorem X2q (k : Nat) : (Xqo k).Ok Tryz.prog := ⟨fun x => Ab (Ak .none _ _ _ _) Ai Tryz.func173 rfl rfl (Xvm k _ some), .of (by kernel_rfl)⟩
abbrev X2i (k : Nat) : Env := Bg (Ay [Xqo k]) Aj .own [] k
abbrev Xp9 : List PA := [.one (.sl .ro Av)]
abbrev F156_O : RO := ⟨[.v], [.sl .own Av]⟩
def Yn {β : Type} (RET : Aw → Option β) (k : Nat) (v : Aw) : Option β := cond ((v.length : Int) == 0) (RET []) (Bp (([] : Aw).length) (v.length) 16 ((Xjr k ([] ++ v)).bind fun b1 => RET b1))
def Xfh := Yn (β := Aw) some
theorem Xua {β : Type} (k : Nat) (v : Aw) (K : KT β) : Ah (X2i k) Tryz.f156 (PsT.put Xp9 (v, ())) K = (Xfh k v).bind fun r => K (F156_O.put r) :=
 Eq.trans (b := Yn (fun r => K (F156_O.put r)) k v) (by kernel_rfl) (by simp only [Xfh, Yn, z1, z2, z3, z4, z5])
def Xll (k : Nat) : FD := ⟨156, Xp9, F156_O, Xfh k⟩
theorem X5w (k : Nat) : (Xll k).Ok Tryz.prog := ⟨fun x => Ab (Ak (Af (.c (X2q k) .n)) _ _ _ _) Ai Tryz.func156 rfl rfl (Xua k _ some), .of (by kernel_rfl)⟩
abbrev X36 (k : Nat) : Env := Bg (Ay [Tt k, Xll k]) Aj .own [] k
abbrev Xro : List PA := [.agg (.pair mI (.pair mI U7))]
abbrev F122_O : RO := ⟨[.a], [.pair mI (.pair mI N2)]⟩
def Qh (k : Nat) (v : (den A9)) : Option ((den A9)) := (Tv k v.2.2.1).bind fun b1 => (Xfh k v.2.2.2).bind fun b2 => some (v.1, v.2.1, b1, b2)
theorem Xsx {β : Type} (k : Nat) (v : (den A9)) (K : KT β) : Ah (X36 k) Tryz.f122 (PsT.put Xro (v, ())) K = (Qh k v).bind fun r => K (F122_O.put r) :=
 Eq.trans (b := (Tv k v.2.2.1).bind fun b1 => (Xfh k v.2.2.2).bind fun b2 => K (F122_O.put (v.1, v.2.1, b1, b2))) (by kernel_rfl) (by simp only [Qh, z1, z2, z3, z4, z5, Bs])
def Xc0 (k : Nat) : FD := ⟨122, Xro, F122_O, Qh k⟩
theorem Xnc (k : Nat) : (Xc0 k).Ok Tryz.prog := ⟨fun x => Ab (Ak (Af (.c (Y2 k) (.c (X5w k) .n))) _ _ _ _) Ai Tryz.func122 rfl rfl (Xsx k _ some), .of (by kernel_rfl)⟩
abbrev X6x (k : Nat) : Env := Bg (Ay [Xee k, Xc0 k]) Aj .own [] k
abbrev Xxf : List PA := [.agg (.pair mI (.pair mI Cp))]
abbrev F64_O : RO := ⟨[.a], [B8]⟩
def Xht {β : Type} (RET : (den fin) → Option β) (k : Nat) (v : (den fin)) : Option β := (W9 k v.2.2.2.2.2.2.1).bind fun b1 => (Qh k v.2.2.2.2.2.2.2.1).bind fun b2 => RET (v.1, v.2.1, v.2.2.1, v.2.2.2.1, v.2.2.2.2.1, v.2.2.2.2.2.1, b1, b2, v.2.2.2.2.2.2.2.2)
def F64 := Xht (β := (den fin)) some
theorem X0g {β : Type} (k : Nat) (v : (den fin)) (K : KT β) : Ah (X6x k) Tryz.f64 (PsT.put Xxf (v, ())) K = (F64 k v).bind fun r => K (F64_O.put r) :=
 Eq.trans (b := Xht (fun r => K (F64_O.put r)) k v) (by kernel_rfl) (by simp only [F64, Xht, z1, z2, z3, z4, z5, Ao])
def Xxv (k : Nat) : FD := ⟨64, Xxf, F64_O, F64 k⟩
theorem X7q (k : Nat) : (Xxv k).Ok Tryz.prog := ⟨fun x => Ab (Ak (Af (.c (Xnh k) (.c (Xnc k) .n))) _ _ _ _) Ai Tryz.func64 rfl rfl (X0g k _ some), .of (by kernel_rfl)⟩
abbrev X61 (k : Nat) : Env := Bg Ca Aj .own [] k
abbrev Xyx : List PA := [.one mI]
abbrev F37_O : RO := ⟨[.v], [mI]⟩
def Qg (k : Nat) (v : Int) : Option (Int) := some ((i64.wrap ((v.tmod 65536) + 65536)).tmod 65536)
theorem X4t {β : Type} (k : Nat) (v : Int) (K : KT β) : Ah (X61 k) Tryz.f37 (PsT.put Xyx (v, ())) K = (Qg k v).bind fun r => K (F37_O.put r) :=
 Eq.trans (b := K (F37_O.put ((i64.wrap ((v.tmod 65536) + 65536)).tmod 65536))) (by kernel_rfl) (by simp only [Qg, z1, z2, z3, z4, z5])
def Ng (k : Nat) : FD := ⟨37, Xyx, F37_O, Qg k⟩
theorem Pr (k : Nat) : (Ng k).Ok Tryz.prog := ⟨fun x => Ab (Ak .none _ _ _ _) Ai Tryz.func37 rfl rfl (X4t k _ some), .of (by kernel_rfl)⟩
abbrev Xz4 (k : Nat) : Env := Bg (Ay [Ng k]) Aj .own [] k
abbrev Xsh : List PA := [.agg (.pair mI (.pair mI Cp)), .agg Cu]
abbrev F125_O : RO := ⟨[.v], [mB]⟩
def X1 (k : Nat) (v : (den fin)) (w : (den seg)) : Option (Bool) := cond w.2.2.2.2.2.2.1 ((Qg k (i64.wrap (v.2.2.2.2.2.1 + 1))).bind fun b1 => some (w.2.2.2.1 == b1)) (some false)
theorem Xu1 {β : Type} (k : Nat) (v : (den fin)) (w : (den seg)) (K : KT β) : Ah (Xz4 k) Tryz.f125 (PsT.put Xsh (v, w, ())) K = (X1 k v w).bind fun r => K (F125_O.put r) :=
 Eq.trans (b := cond w.2.2.2.2.2.2.1 ((Qg k (i64.wrap (v.2.2.2.2.2.1 + 1))).bind fun b1 => K (F125_O.put (w.2.2.2.1 == b1))) (K (F125_O.put false))) (by kernel_rfl) (by simp only [X1, z1, z2, z3, z4, z5, Ao, A8])
def Xcm (k : Nat) : FD := ⟨125, Xsh, F125_O, X1 k⟩
theorem Xl2 (k : Nat) : (Xcm k).Ok Tryz.prog := ⟨fun x => Ab (Ak (Af (.c (Pr k) .n)) _ _ _ _) Ai Tryz.func125 rfl rfl (Xu1 k _ _ some), .of (by kernel_rfl)⟩
abbrev X44 (k : Nat) : Env := Bg Ca Aj .own [] k
abbrev Xsu : List PA := [.agg (.pair mI (.pair mI Cp))]
abbrev F157_O : RO := ⟨[.v], [mI]⟩
def Mr (k : Nat) (v : (den fin)) : Option (Int) := cond (v.2.2.2.2.2.2.2.2.2.2.2.1 == v.2.2.2.2.2.2.2.1.1) (some (i64.wrap (v.2.2.2.2.2.2.2.1.1 + 1))) (some v.2.2.2.2.2.2.2.1.1)
theorem Xu6 {β : Type} (k : Nat) (v : (den fin)) (K : KT β) : Ah (X44 k) Tryz.f157 (PsT.put Xsu (v, ())) K = (Mr k v).bind fun r => K (F157_O.put r) :=
 Eq.trans (b := cond (v.2.2.2.2.2.2.2.2.2.2.2.1 == v.2.2.2.2.2.2.2.1.1) (K (F157_O.put (i64.wrap (v.2.2.2.2.2.2.2.1.1 + 1)))) (K (F157_O.put v.2.2.2.2.2.2.2.1.1))) (by kernel_rfl) (by simp only [Mr, z1, z2, z3, z4, z5, Ao])
def O0 (k : Nat) : FD := ⟨157, Xsu, F157_O, Mr k⟩
theorem Tm (k : Nat) : (O0 k).Ok Tryz.prog := ⟨fun x => Ab (Ak .none _ _ _ _) Ai Tryz.func157 rfl rfl (Xu6 k _ some), .of (by kernel_rfl)⟩
abbrev X18 (k : Nat) : Env := Bg (Ay [Xcm k, O0 k, Ng k]) Aj .own [(false, 0), (false, 1), (false, 2), (false, 3), (false, 4), (false, 5), (false, 6), (false, 7), (false, 8), (false, 9), (false, 10), (false, 11), (false, 12), (false, 13), (false, 14), (false, 15), (false, 16), (false, 17), (false, 18), (false, 19), (false, 20), (false, 21), (false, 22), (false, 23)] k
abbrev Xmg : List PA := [.p B8, .agg Cu]
abbrev F123_O : RO := ⟨[], [B8]⟩
def Mq {β : Type} (k : Nat) (v : (den fin)) (w : (den seg)) (RET : (den fin) → Option β) : Option β := (Mr k v).bind fun b2 => (Qg k b2).bind fun b3 => cond (w.2.2.1 == b3) (RET (5, v.2.1, v.2.2.1, v.2.2.2.1, v.2.2.2.2.1, v.2.2.2.2.2.1, v.2.2.2.2.2.2.1, v.2.2.2.2.2.2.2.1, v.2.2.2.2.2.2.2.2.1, v.2.2.2.2.2.2.2.2.2.1, v.2.2.2.2.2.2.2.2.2.2.1, v.2.2.2.2.2.2.2.2.2.2.2.1, 0, v.2.2.2.2.2.2.2.2.2.2.2.2.2)) (RET v)
def Fy {β : Type} (k : Nat) (v : (den fin)) (w : (den seg)) (RET : (den fin) → Option β) : Option β := cond (v.1 == 3) (Mq k v w RET) (cond (v.1 == 4) (Mq k v w RET) (RET v))
def I6 {β : Type} (RET : (den fin) → Option β) (k : Nat) (v : (den fin)) (w : (den seg)) : Option β := cond (v.1 == 2) ((X1 k v w).bind fun b1 => cond b1 (RET (5, v.2.1, v.2.2.1, v.2.2.2.1, v.2.2.2.2.1, v.2.2.2.2.2.1, v.2.2.2.2.2.2.1, v.2.2.2.2.2.2.2.1, v.2.2.2.2.2.2.2.2.1, v.2.2.2.2.2.2.2.2.2.1, v.2.2.2.2.2.2.2.2.2.2.1, v.2.2.2.2.2.2.2.2.2.2.2.1, 0, v.2.2.2.2.2.2.2.2.2.2.2.2.2)) (Fy k v w RET)) (Fy k v w RET)
def Zg := I6 (β := (den fin)) some
theorem Xvg {β : Type} (k : Nat) (v : (den fin)) (w : (den seg)) (K : KT β) : Ah (X18 k) Tryz.f123 (PsT.put Xmg (v, w, ())) K = (Zg k v w).bind fun r => K (F123_O.put r) :=
 Eq.trans (b := I6 (fun r => K (F123_O.put r)) k v w) (by kernel_rfl) (by simp only [Zg, I6, Mq, Fy, z1, z2, z3, z4, z5, Ao, A8])
def Xnl (k : Nat) : FD := ⟨123, Xmg, F123_O, Zg k⟩
theorem X2v (k : Nat) : (Xnl k).Ok Tryz.prog := ⟨fun x => Ab (Ak (Af (.c (Xl2 k) (.c (Tm k) (.c (Pr k) .n)))) _ _ _ _) Ai Tryz.func123 rfl rfl (Xvg k _ _ some), .of (by kernel_rfl)⟩
abbrev X0s (k : Nat) : Env := Bg Ca Aj .own [(false, 0), (false, 1), (false, 2), (false, 3), (false, 4), (false, 5), (false, 6), (false, 7), (false, 8), (false, 9), (false, 10), (false, 11), (false, 12), (false, 13), (false, 14), (false, 15), (false, 16), (false, 17), (false, 18), (false, 19), (false, 20), (false, 21), (false, 22), (false, 23)] k
abbrev Xk7 : List PA := [.p B8, .agg Cu]
abbrev F158_O : RO := ⟨[], [B8]⟩
def T8 {β : Type} (RET : (den fin) → Option β) (k : Nat) (v : (den fin)) (w : (den seg)) : Option β := RET (v.1, v.2.1, v.2.2.1, v.2.2.2.1, v.2.2.2.2.1, v.2.2.2.2.2.1, v.2.2.2.2.2.2.1, (i64.wrap (w.2.2.1 + 1), v.2.2.2.2.2.2.2.1.2.1, v.2.2.2.2.2.2.2.1.2.2.1, v.2.2.2.2.2.2.2.1.2.2.2), v.2.2.2.2.2.2.2.2)
def Xcx := T8 (β := (den fin)) some
theorem Xus {β : Type} (k : Nat) (v : (den fin)) (w : (den seg)) (K : KT β) : Ah (X0s k) Tryz.f158 (PsT.put Xk7 (v, w, ())) K = (Xcx k v w).bind fun r => K (F158_O.put r) :=
 Eq.trans (b := T8 (fun r => K (F158_O.put r)) k v w) (by kernel_rfl) (by simp only [Xcx, T8, z1, z2, z3, z4, z5, Ao, A8])
def Xdn (k : Nat) : FD := ⟨158, Xk7, F158_O, Xcx k⟩
theorem Xl0 (k : Nat) : (Xdn k).Ok Tryz.prog := ⟨fun x => Ab (Ak .none _ _ _ _) Ai Tryz.func158 rfl rfl (Xus k _ _ some), .of (by kernel_rfl)⟩
abbrev X3v (k : Nat) : Env := Bg (Ay [Xlj k]) Aj .own [(false, 0), (false, 1), (false, 2), (false, 3), (false, 4), (false, 5), (false, 6), (false, 7), (false, 8), (false, 9), (false, 10), (false, 11), (false, 12), (false, 13), (false, 14), (false, 15), (false, 16), (false, 17), (false, 18), (false, 19), (false, 20), (false, 21), (false, 22), (false, 23)] k
abbrev Xmz : List PA := [.p B8, .one mI]
abbrev F163_O : RO := ⟨[], [B8]⟩
def W8 {β : Type} (RET : (den fin) → Option β) (k : Nat) (v : (den fin)) (w : Int) : Option β := cond (v.2.2.2.2.2.2.2.2.2.2.2.2.1 == 0) ((F91 k v).bind fun b1 => cond b1 (RET (v.1, v.2.1, v.2.2.1, v.2.2.2.1, v.2.2.2.2.1, v.2.2.2.2.2.1, v.2.2.2.2.2.2.1, v.2.2.2.2.2.2.2.1, v.2.2.2.2.2.2.2.2.1, v.2.2.2.2.2.2.2.2.2.1, v.2.2.2.2.2.2.2.2.2.2.1, v.2.2.2.2.2.2.2.2.2.2.2.1, i64.wrap (w + v.2.2.2.2.2.2.2.2.2.2.2.2.2.2.2.2), v.2.2.2.2.2.2.2.2.2.2.2.2.2)) (RET v)) (RET v)
def Xpp := W8 (β := (den fin)) some
theorem Xs1 {β : Type} (k : Nat) (v : (den fin)) (w : Int) (K : KT β) : Ah (X3v k) Tryz.f163 (PsT.put Xmz (v, w, ())) K = (Xpp k v w).bind fun r => K (F163_O.put r) :=
 Eq.trans (b := W8 (fun r => K (F163_O.put r)) k v w) (by kernel_rfl) (by simp only [Xpp, W8, z1, z2, z3, z4, z5, Ao])
def Xrl (k : Nat) : FD := ⟨163, Xmz, F163_O, Xpp k⟩
theorem X0f (k : Nat) : (Xrl k).Ok Tryz.prog := ⟨fun x => Ab (Ak (Af (.c (Xx9 k) .n)) _ _ _ _) Ai Tryz.func163 rfl rfl (Xs1 k _ _ some), .of (by kernel_rfl)⟩
abbrev X4x (k : Nat) : Env := Bg (Ay [Xrl k]) Aj .own [(false, 0), (false, 1), (false, 2), (false, 3), (false, 4), (false, 5), (false, 6), (false, 7), (false, 8), (false, 9), (false, 10), (false, 11), (false, 12), (false, 13), (false, 14), (false, 15), (false, 16), (false, 17), (false, 18), (false, 19), (false, 20), (false, 21), (false, 22), (false, 23)] k
abbrev Xpy : List PA := [.p B8, .one mI]
abbrev F128_O : RO := ⟨[], [B8]⟩
def Wz {β : Type} (RET : (den fin) → Option β) (k : Nat) (v : (den fin)) (w : Int) : Option β := (Xpp k (v.1, v.2.1, v.2.2.1, v.2.2.2.1, v.2.2.2.2.1, v.2.2.2.2.2.1, v.2.2.2.2.2.2.1, v.2.2.2.2.2.2.2.1, v.2.2.2.2.2.2.2.2.1, v.2.2.2.2.2.2.2.2.2.1, v.2.2.2.2.2.2.2.2.2.2.1, v.2.2.2.2.2.2.2.2.2.2.2.1, 0, 0, v.2.2.2.2.2.2.2.2.2.2.2.2.2.2.1, v.2.2.2.2.2.2.2.2.2.2.2.2.2.2.2.1, v.2.2.2.2.2.2.2.2.2.2.2.2.2.2.2.2) w).bind fun b1 => RET b1
def Q9 := Wz (β := (den fin)) some
theorem Xvy {β : Type} (k : Nat) (v : (den fin)) (w : Int) (K : KT β) : Ah (X4x k) Tryz.f128 (PsT.put Xpy (v, w, ())) K = (Q9 k v w).bind fun r => K (F128_O.put r) :=
 Eq.trans (b := Wz (fun r => K (F128_O.put r)) k v w) (by kernel_rfl) (by simp only [Q9, Wz, z1, z2, z3, z4, z5, Ao])
def S5 (k : Nat) : FD := ⟨128, Xpy, F128_O, Q9 k⟩
theorem Xd (k : Nat) : (S5 k).Ok Tryz.prog := ⟨fun x => Ab (Ak (Af (.c (X0f k) .n)) _ _ _ _) Ai Tryz.func128 rfl rfl (Xvy k _ _ some), .of (by kernel_rfl)⟩
def X16 : Nat → Hint
 | 0 => ⟨(3, .own .own Ap []) :: (pl 8 3 []), []⟩
 | _ => ⟨[], []⟩
abbrev Z1 (k : Nat) : Env := Bg (Ay [Oc k]) X16 .own [] k
abbrev Xcy : List PA := [.agg (.pair mI (.pair mI U7))]
abbrev F172_O : RO := ⟨[.v], [.sl .own Ap]⟩
noncomputable def X39 {β : Type} (k : Nat) (v : (den A9)) (K : KT β) : Ex → St → Option β := Cz (Z1 k) Tryz.f172 (PsT.put Xcy (v, ())) K
def Xtf (v : (den A9)) (x10_0 : Int) (m3900_0 : Ae) : St := ⟨dz 3 ((.one (.a (.cell 3900) 0 0 none)) :: dz 4 ((.one (.s .ro Av v.2.2.2)) :: (.one (vI (v.2.2.2.length : Int))) :: (.one (vI x10_0)) :: dz 43 [])), [eM 3900 (.s .own Ap m3900_0)]⟩
noncomputable def Ny {β : Type} (k : Nat) (v : (den A9)) (K : KT β) (n : Nat) (x10_0 : Int) (m3900_0 : Ae) : Option β := Bu (Z1 k) Tryz.f172 [1, 1, 0, 1, 0] 0 (A1 (Z1 k) [1, 1, 0, 1, 0] (Aa Tryz.f172) 0 (X39 k v K)) n (Xtf v x10_0 m3900_0)
def Ij {β : Type} (k : Nat) (v : (den A9)) (NX : Int → Ae → Option β) (RET : Ae → Option β) (m3900_0 : Ae) (x10_0 : Int) : Option β := Bp (m3900_0.length) ([((Bd v.2.2.2 x10_0).1, i64.wrap ((Bd v.2.2.2 x10_0).1 + 1))].length) 16 (NX (i64.wrap (x10_0 + 1)) (m3900_0 ++ [((Bd v.2.2.2 x10_0).1, i64.wrap ((Bd v.2.2.2 x10_0).1 + 1))]))
def Hc {β : Type} (NX : Int → Ae → Option β) (RET : Ae → Option β) (k : Nat) (v : (den A9)) (x10_0 : Int) (m3900_0 : Ae) : Option β := cond (decide (x10_0 < (v.2.2.2.length : Int))) (Bi x10_0 v.2.2.2 (cond (decide ((m3900_0.length : Int) > 0)) (Bi (i64.wrap ((m3900_0.length : Int) - 1)) m3900_0 (cond ((Bd m3900_0 (i64.wrap ((m3900_0.length : Int) - 1))).2 == (Bd v.2.2.2 x10_0).1) (Bi (i64.wrap ((m3900_0.length : Int) - 1)) m3900_0 (Bi (i64.wrap ((m3900_0.length : Int) - 1)) m3900_0 (NX (i64.wrap (x10_0 + 1)) (m3900_0.set ((i64.wrap ((m3900_0.length : Int) - 1)).toNat) ((Bd m3900_0 (i64.wrap ((m3900_0.length : Int) - 1))).1, i64.wrap ((Bd m3900_0 (i64.wrap ((m3900_0.length : Int) - 1))).2 + 1)))))) (Ij k v NX RET m3900_0 x10_0))) (Ij k v NX RET m3900_0 x10_0))) (cond (decide (0 ≤ (if 2 < (m3900_0.length : Int) then 2 else (m3900_0.length : Int))) && decide ((if 2 < (m3900_0.length : Int) then 2 else (m3900_0.length : Int)) ≤ (m3900_0.length : Int))) ((Sv k ((m3900_0.take ((if 2 < (m3900_0.length : Int) then 2 else (m3900_0.length : Int)).toNat)).drop 0)).bind fun b1 => RET b1) none)
def H5 (k : Nat) (v : (den A9)) : Nat → Int → Ae → Option (Ae)
 | 0, _, _ => none
 | n + 1, x10_0, m3900_0 => Hc (H5 k v n) some k v x10_0 m3900_0
theorem Xec {β : Type} (k : Nat) (v : (den A9)) (K : KT β) (n : Nat) : ∀ (x10_0 : Int) (m3900_0 : Ae), Ny k v K n x10_0 m3900_0 =
  (H5 k v n x10_0 m3900_0).bind fun r => K (F172_O.put r) := by
 induction n with
 | zero => intros; rfl
 | succ n ih =>
  intro x10_0 m3900_0
  refine Eq.trans (b := Hc (Ny k v K n) (fun r => K (F172_O.put r)) k v x10_0 m3900_0) (by kernel_rfl) ?_
  rw [H5]
  simp only [Hc, Ij, z1, z2, z3, z4, z5, Bs, ih]
def Xcp {β : Type} (LP0 : Int → Ae → Option β) (k : Nat) (v : (den A9)) : Option β := LP0 0 []
def Xkr (k : Nat) (v : (den A9)) : Option (Ae) := Xcp (H5 k v k) k v
theorem Xtv {β : Type} (k : Nat) (v : (den A9)) (K : KT β) : Ah (Z1 k) Tryz.f172 (PsT.put Xcy (v, ())) K = (Xkr k v).bind fun r => K (F172_O.put r) :=
 Eq.trans (b := Xcp (Ny k v K k) k v) (by kernel_rfl) (by simp only [Xkr, Xcp, z1, z2, z3, z4, z5, Bs, Xec])
def Xfa (k : Nat) : FD := ⟨172, Xcy, F172_O, Xkr k⟩
theorem Xqs (k : Nat) : (Xfa k).Ok Tryz.prog := ⟨fun x => Ab (Ak (Af (.c (Ud k) .n)) _ _ _ _) Ai Tryz.func172 rfl rfl (Xtv k _ some), .of (by kernel_rfl)⟩
abbrev Xqa (k : Nat) : Env := Bg Ca Aj .own [] k
abbrev Xcg : List PA := [.one (.nil (.int .u8))]
abbrev F148_2_O : RO := ⟨[.v], [.sl .own (.int .u8)]⟩
def Xm (k : Nat) (v : Ad) : Option (Ad) := some []
theorem Xjb {β : Type} (k : Nat) (v : Ad) (K : KT β) : Ah (Xqa k) Tryz.f148 (PsT.put Xcg (v, ())) K = (Xm k v).bind fun r => K (F148_2_O.put r) :=
 Eq.trans (b := K (F148_2_O.put [])) (by kernel_rfl) (by simp only [Xm, z1, z2, z3, z4, z5])
def Xb3 (k : Nat) : FD := ⟨148, Xcg, F148_2_O, Xm k⟩
theorem Xrk (k : Nat) : (Xb3 k).Ok Tryz.prog := ⟨fun x => Ab (Ak .none _ _ _ _) Ai Tryz.func148 rfl rfl (Xjb k _ some), .of (by kernel_rfl)⟩
abbrev X7o (k : Nat) : Env := Bg (Ay [Oc k, Xb3 k]) Aj .own [] k
abbrev Xzh : List PA := [.agg m_28]
abbrev F96_O : RO := ⟨[.a], [Ji]⟩
def Xg4 {β : Type} (RET : (den seg) → Option β) (k : Nat) (v : (den seg)) : Option β := A8 v fun v0 v1 v2 v3 v4 v5 v6 v7 v8 v9 _ => (Sv k v9).bind fun b1 => (Xm k []).bind fun b2 => RET (v0, v1, v2, v3, v4, v5, v6, v7, v8, b1, b2)
def F96 := Xg4 (β := (den seg)) some
theorem Xzz {β : Type} (k : Nat) (v : (den seg)) (K : KT β) : Ah (X7o k) Tryz.f96 (PsT.put Xzh (v, ())) K = (F96 k v).bind fun r => K (F96_O.put r) :=
 Eq.trans (b := Xg4 (fun r => K (F96_O.put r)) k v) (by kernel_rfl) (by simp only [F96, Xg4, z1, z2, z3, z4, z5, A8])
def Xy4 (k : Nat) : FD := ⟨96, Xzh, F96_O, F96 k⟩
theorem X7w (k : Nat) : (Xy4 k).Ok Tryz.prog := ⟨fun x => Ab (Ak (Af (.c (Ud k) (.c (Xrk k) .n))) _ _ _ _) Ai Tryz.func96 rfl rfl (Xzz k _ some), .of (by kernel_rfl)⟩
def X5u : Nat → Hint
 | 0 => ⟨pl 6 2 (pl 26 3 []), pl 6000 11 (pl 7000 9 ((7009, .own .own Ap []) :: (pl 7010 1 (pl 26000 1 []))))⟩
 | _ => ⟨[], []⟩
abbrev Yx (k : Nat) : Env := Bg (Ay [Ng k, O0 k, Oj k, Xfa k, Xy4 k]) X5u .own [] k
abbrev Xe6 : List PA := [.agg (.pair mI (.pair mI Cp)), .one mI, .one (.nil (.int .u8))]
abbrev F151_O : RO := ⟨[.a], [Ji]⟩
noncomputable def X0r {β : Type} (k : Nat) (v : (den fin)) (w : Int) (p : Ad) (K : KT β) : Ex → St → Option β := Cz (Yx k) Tryz.f151 (PsT.put Xe6 (v, w, p, ())) K
def Xtr (v : (den fin)) (w : Int) (p : Ad) (x27_0 x28_0 m7002_0 m7003_0 m7004_0 : Int) (m7009_0 m26000_0 : Ae) : St := ⟨dz 6 ((.one (.ptr (.cell 6000) 11 0)) :: (.one (.ptr (.cell 7000) 11 0)) :: dz 18 ((.one (.a (.cell 26000) 0 0 none)) :: (.one (vI x27_0)) :: (.one (vI x28_0)) :: dz 18 [])), Bc 6000 (Cb Ji (0, 0, 0, 0, 0, false, false, false, false, [], [])) (Bc 7000 (Cb m_32 (v.2.2.1, v.2.2.2.2.1, m7002_0, m7003_0, m7004_0, false, true, false, false, m7009_0, [])) [eM 26000 (.s .own Ap m26000_0)])⟩
noncomputable def Om {β : Type} (k : Nat) (v : (den fin)) (w : Int) (p : Ad) (K : KT β) (n : Nat) (x27_0 x28_0 m7002_0 m7003_0 m7004_0 : Int) (m7009_0 m26000_0 : Ae) : Option β := Bu (Yx k) Tryz.f151 [1, 1, 0, 1, 0] 0 (A1 (Yx k) [1, 1, 0, 1, 0] (Aa Tryz.f151) 0 (X0r k v w p K)) n (Xtr v w p x27_0 x28_0 m7002_0 m7003_0 m7004_0 m7009_0 m26000_0)
def Hk {β : Type} (NX : Int → Int → Int → Int → Int → Ae → Ae → Option β) (RET : (den seg) → Option β) (k : Nat) (v : (den fin)) (w : Int) (p : Ad) (x27_0 x28_0 m7002_0 m7003_0 m7004_0 : Int) (m7009_0 m26000_0 : Ae) : Option β := cond (decide (x28_0 < x27_0)) (Bi x28_0 m26000_0 ((Qg k (Bd m26000_0 x28_0).1).bind fun b6 => (Qg k (Bd m26000_0 x28_0).2).bind fun b7 => Bp (m7009_0.length) ([(b6, b7)].length) 16 (NX x27_0 (i64.wrap (x28_0 + 1)) m7002_0 m7003_0 m7004_0 (m7009_0 ++ [(b6, b7)]) m26000_0))) ((F96 k (v.2.2.1, v.2.2.2.2.1, m7002_0, m7003_0, m7004_0, false, true, false, false, m7009_0, [])).bind fun b8 => RET b8)
def F2 (k : Nat) (v : (den fin)) (w : Int) (p : Ad) : Nat → Int → Int → Int → Int → Int → Ae → Ae → Option ((den seg))
 | 0, _, _, _, _, _, _, _ => none
 | n + 1, x27_0, x28_0, m7002_0, m7003_0, m7004_0, m7009_0, m26000_0 => Hk (F2 k v w p n) some k v w p x27_0 x28_0 m7002_0 m7003_0 m7004_0 m7009_0 m26000_0
theorem Xdy {β : Type} (k : Nat) (v : (den fin)) (w : Int) (p : Ad) (K : KT β) (n : Nat) : ∀ (x27_0 x28_0 m7002_0 m7003_0 m7004_0 : Int) (m7009_0 m26000_0 : Ae), Om k v w p K n x27_0 x28_0 m7002_0 m7003_0 m7004_0 m7009_0 m26000_0 =
  (F2 k v w p n x27_0 x28_0 m7002_0 m7003_0 m7004_0 m7009_0 m26000_0).bind fun r => K (F151_O.put r) := by
 induction n with
 | zero => intros; rfl
 | succ n ih =>
  intro x27_0 x28_0 m7002_0 m7003_0 m7004_0 m7009_0 m26000_0
  refine Eq.trans (b := Hk (Om k v w p K n) (fun r => K (F151_O.put r)) k v w p x27_0 x28_0 m7002_0 m7003_0 m7004_0 m7009_0 m26000_0) (by kernel_rfl) ?_
  rw [F2]
  simp only [Hk, z1, z2, z3, z4, z5, Ao, ih]
def Y7 {β : Type} (LP0 : Int → Int → Int → Int → Int → Ae → Ae → Option β) (k : Nat) (v : (den fin)) (w : Int) (p : Ad) : Option β := (Qg k w).bind fun b1 => (Mr k v).bind fun b2 => (Qg k b2).bind fun b3 => (Fs k v.2.2.2.2.2.2.2.1).bind fun b4 => (Xkr k v.2.2.2.2.2.2.2.1).bind fun b5 => LP0 (b5.length : Int) 0 b1 b3 b4 [] b5
def Zu (k : Nat) (v : (den fin)) (w : Int) (p : Ad) : Option ((den seg)) := Y7 (F2 k v w p k) k v w p
theorem Xtc {β : Type} (k : Nat) (v : (den fin)) (w : Int) (p : Ad) (K : KT β) : Ah (Yx k) Tryz.f151 (PsT.put Xe6 (v, w, p, ())) K = (Zu k v w p).bind fun r => K (F151_O.put r) :=
 Eq.trans (b := Y7 (Om k v w p K k) k v w p) (by kernel_rfl) (by simp only [Zu, Y7, z1, z2, z3, z4, z5, Ao, Xdy])
def Yr (k : Nat) : FD := ⟨151, Xe6, F151_O, Zu k⟩
theorem Xc7 (k : Nat) : (Yr k).Ok Tryz.prog := ⟨fun x => Ab (Ak (Af (.c (Pr k) (.c (Tm k) (.c (Rb k) (.c (Xqs k) (.c (X7w k) .n)))))) _ _ _ _) Ai Tryz.func151 rfl rfl (Xtc k _ _ _ some), .of (by kernel_rfl)⟩
abbrev X1e (k : Nat) : Env := Bg (Ay [Yr k]) Aj .own [] k
abbrev Xsp : List PA := [.agg (.pair mI (.pair mI Cp))]
abbrev F129_O : RO := ⟨[.a], [Ji]⟩
def Yz {β : Type} (RET : (den seg) → Option β) (k : Nat) (v : (den fin)) : Option β := cond (v.1 == 2) (RET (v.2.2.1, v.2.2.2.2.1, v.2.2.2.2.2.1, 0, 0, true, false, false, false, [], [])) ((Zu k v v.2.2.2.2.2.1 []).bind fun b1 => RET (b1.1, b1.2.1, b1.2.2.1, b1.2.2.2.1, b1.2.2.2.2.1, true, b1.2.2.2.2.2.2))
def Xd5 := Yz (β := (den seg)) some
theorem Xu8 {β : Type} (k : Nat) (v : (den fin)) (K : KT β) : Ah (X1e k) Tryz.f129 (PsT.put Xsp (v, ())) K = (Xd5 k v).bind fun r => K (F129_O.put r) :=
 Eq.trans (b := Yz (fun r => K (F129_O.put r)) k v) (by kernel_rfl) (by simp only [Xd5, Yz, z1, z2, z3, z4, z5, Ao])
def Xct (k : Nat) : FD := ⟨129, Xsp, F129_O, Xd5 k⟩
theorem Xl7 (k : Nat) : (Xct k).Ok Tryz.prog := ⟨fun x => Ab (Ak (Af (.c (Xc7 k) .n)) _ _ _ _) Ai Tryz.func129 rfl rfl (Xu8 k _ some), .of (by kernel_rfl)⟩
abbrev Xz7 (k : Nat) : Env := Bg (Ay [Xdn k, S5 k, Xct k]) Aj .own [(false, 0), (false, 1), (false, 2), (false, 3), (false, 4), (false, 5), (false, 6), (false, 7), (false, 8), (false, 9), (false, 10), (false, 11), (false, 12), (false, 13), (false, 14), (false, 15), (false, 16), (false, 17), (false, 18), (false, 19), (false, 20), (false, 21), (false, 22), (false, 23)] k
abbrev Xq2 : List PA := [.p B8, .one mI, .agg Cu, .one mI]
abbrev F124_O : RO := ⟨[.v], [.sl .own seg, B8]⟩
def Xe {β : Type} (RET : (Al × (den fin)) → Option β) (k : Nat) (v : (den fin)) (w : Int) (p : (den seg)) (q : Int) : Option β := (Xcx k (3, v.2.1, v.2.2.1, w, p.1, v.2.2.2.2.2) p).bind fun b1 => (Q9 k b1 q).bind fun b2 => (Xd5 k b2).bind fun b3 => RET ([b3], b2)
def Xdm := Xe (β := Al × (den fin)) some
theorem Xwm {β : Type} (k : Nat) (v : (den fin)) (w : Int) (p : (den seg)) (q : Int) (K : KT β) : Ah (Xz7 k) Tryz.f124 (PsT.put Xq2 (v, w, p, q, ())) K = (Xdm k v w p q).bind fun r => K (F124_O.put r) :=
 Eq.trans (b := Xe (fun r => K (F124_O.put r)) k v w p q) (by kernel_rfl) (by simp only [Xdm, Xe, z1, z2, z3, z4, z5, Ao, A8])
def Xmq (k : Nat) : FD := ⟨124, Xq2, F124_O, Xdm k⟩
theorem X42 (k : Nat) : (Xmq k).Ok Tryz.prog := ⟨fun x => Ab (Ak (Af (.c (Xl0 k) (.c (Xd k) (.c (Xl7 k) .n)))) _ _ _ _) Ai Tryz.func124 rfl rfl (Xwm k _ _ _ _ some), .of (by kernel_rfl)⟩
abbrev X23 (k : Nat) : Env := Bg (Ay [Tt k]) Aj .own [(false, 0), (false, 1), (false, 2), (false, 3), (false, 4), (false, 5), (false, 6), (false, 7), (false, 8), (false, 9), (false, 10), (false, 11), (false, 12), (false, 13), (false, 14), (false, 15), (false, 16), (false, 17)] k
abbrev Xr6 : Type := Int × Ad × ((den Co) × ((den A9) × (Bool × (Bool × (Bool × (Int × (Int × (Int × (den Uw)))))))))
abbrev Xn4 : List PA := [.p X10, .one mI]
abbrev F179_O : RO := ⟨[.v, .v], [mI, .sl .own (.int .u8), X10]⟩
def Y4 {β : Type} (RET : Xr6 → Option β) (k : Nat) (v : ((den Co) × ((den A9) × (Bool × (Bool × (Bool × (Int × (Int × (Int × (den Uw)))))))))) (w : Int) : Option β := u_7 v fun v0 v1 v2 v3 v4 _ _ _ _ _ _ _ _ _ _ _ _ _ => cond (decide ((if (i64.wrap (v3 - v2)) < (if (i64.wrap ((v1.length : Int) - v2)) < w then i64.wrap ((v1.length : Int) - v2) else w) then i64.wrap (v3 - v2) else (if (i64.wrap ((v1.length : Int) - v2)) < w then i64.wrap ((v1.length : Int) - v2) else w)) ≤ 0)) (RET (i64.wrap (v0 + v2), [], v)) (cond (decide (0 ≤ (i64.wrap (v2 + (if (i64.wrap (v3 - v2)) < (if (i64.wrap ((v1.length : Int) - v2)) < w then i64.wrap ((v1.length : Int) - v2) else w) then i64.wrap (v3 - v2) else (if (i64.wrap ((v1.length : Int) - v2)) < w then i64.wrap ((v1.length : Int) - v2) else w))))) && decide ((i64.wrap (v2 + (if (i64.wrap (v3 - v2)) < (if (i64.wrap ((v1.length : Int) - v2)) < w then i64.wrap ((v1.length : Int) - v2) else w) then i64.wrap (v3 - v2) else (if (i64.wrap ((v1.length : Int) - v2)) < w then i64.wrap ((v1.length : Int) - v2) else w)))) ≤ (v1.length : Int))) (cond (decide (0 ≤ v2) && decide (v2 ≤ (i64.wrap (v2 + (if (i64.wrap (v3 - v2)) < (if (i64.wrap ((v1.length : Int) - v2)) < w then i64.wrap ((v1.length : Int) - v2) else w) then i64.wrap (v3 - v2) else (if (i64.wrap ((v1.length : Int) - v2)) < w then i64.wrap ((v1.length : Int) - v2) else w)))))) ((Tv k ((v1.take ((i64.wrap (v2 + (if (i64.wrap (v3 - v2)) < (if (i64.wrap ((v1.length : Int) - v2)) < w then i64.wrap ((v1.length : Int) - v2) else w) then i64.wrap (v3 - v2) else (if (i64.wrap ((v1.length : Int) - v2)) < w then i64.wrap ((v1.length : Int) - v2) else w)))).toNat)).drop v2.toNat)).bind fun b1 => RET (i64.wrap (v0 + v2), b1, ((v0, v1, i64.wrap (v2 + (if (i64.wrap (v3 - v2)) < (if (i64.wrap ((v1.length : Int) - v2)) < w then i64.wrap ((v1.length : Int) - v2) else w) then i64.wrap (v3 - v2) else (if (i64.wrap ((v1.length : Int) - v2)) < w then i64.wrap ((v1.length : Int) - v2) else w))), v3, v4), v.2))) none) none)
def Xj0 := Y4 (β := Xr6) some
theorem Xvh {β : Type} (k : Nat) (v : ((den Co) × ((den A9) × (Bool × (Bool × (Bool × (Int × (Int × (Int × (den Uw)))))))))) (w : Int) (K : KT β) : Ah (X23 k) Tryz.f179 (PsT.put Xn4 (v, w, ())) K = (Xj0 k v w).bind fun r => K (F179_O.put r) :=
 Eq.trans (b := Y4 (fun r => K (F179_O.put r)) k v w) (by kernel_rfl) (by simp only [Xj0, Y4, z1, z2, z3, z4, z5, u_7])
def Xqz (k : Nat) : FD := ⟨179, Xn4, F179_O, Xj0 k⟩
theorem X2m (k : Nat) : (Xqz k).Ok Tryz.prog := ⟨fun x => Ab (Ak (Af (.c (Y2 k) .n)) _ _ _ _) Ai Tryz.func179 rfl rfl (Xvh k _ _ some), .of (by kernel_rfl)⟩
end
end Go.Proofs.YtjkkbmkkljpcjaaGreat.Gn
end
