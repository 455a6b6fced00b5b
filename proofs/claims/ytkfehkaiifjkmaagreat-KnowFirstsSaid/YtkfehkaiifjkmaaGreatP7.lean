import Derived.Test.YtkfehkaiifjkmaaGreatP0
import Derived.Test.YtkfehkaiifjkmaaGreatP4
import Derived.Test.YtkfehkaiifjkmaaGreatP5
import Derived.Test.YtkfehkaiifjkmaaGreatP6
namespace Go.Proofs.YtkfehkaiifjkmaaGreat.P
open Go.RowKit Go.Proofs.YtkfehkaiifjkmaaGreatW.PrintWords Go.Proofs.YtkfehkaiifjkmaaGreatW.PrintLast Go.Proofs.YtkfehkaiifjkmaaGreatW.PrintMore
set_option maxHeartbeats 8000000
set_option maxRecDepth 100000
attribute [local go_sem] max2_int min2_int max_two min_two max_three min_three max_four min_four
set_option linter.unusedVariables false
set_option linter.unusedSimpArgs false
theorem mats_hov (w : World) (vb b off lb cb m vc : Nat) (tA tB : TypeId) (kA kB : Nat) (hvb : vb ≠ b) (hsa : w.shape? vb = some (tA, kA)) (hsb : w.shape? b = some (tB, kB)) (hkB : kB ≠ 0) (hfa : w.frozen? ⟨vb, 0, none⟩ = false) (hfe : w.frozen? ⟨vb, kA, none⟩ = false) :
  (callFunc 90 #[.slice (some ⟨vb, 0, none⟩) m vc, .slice (some ⟨b, off, none⟩) lb cb]).run Tryz.prog w = .ok (.value (.bool false)) w := by
 rw [run_callFunc_extern Tryz.func90 (by kernel_rfl) (by kernel_rfl) (by kernel_rfl) (e := Extern.SlicesOverlaps.overlaps #[28, 28] #[4]) (by kernel_rfl),
  Lib.run_overlaps_apart w 28 4 72 Tryz.underlying28 3 (fun w => by obtain ⟨i0, hi, h0, h1, h2⟩ := info_parts info72; simp [sizeOf, typeInfo, hi, h1]) ⟨vb, 0, none⟩ ⟨b, off, none⟩ m vc lb cb hvb tA tB kA kB hsa hsb hkB hfa hfe]
 rfl
theorem mats_insert_room (w : World) (base : Nat) (ok okp : Nat → Prop) (g cap : Nat) (cur : Array Value) (l : List RW) (i : Nat) (x : RW) (cs : List Value) (vb : Nat) (tv : TypeId)
  (hg : base ≤ g) (hk : ok g) (hh : w.heap[g]? = some (.cells cur 72 (0, 0))) (hc : l.length + 1 ≤ cap) (h3 : cap ≤ maxLen) (h4 : cur.size = cap * 3) (hp : Reps (Kd.M kRW w base (fun k => ok k ∧ k ≠ g)) 3 l (cur.toList.take (l.length * 3)))
  (hi : i < l.length) (hx : Kd.M kRW w base okp x cs) (hokp : ∀ k, okp k → ok k ∧ k ≠ g) (hv : w.heap[vb]? = some (.cells cs.toArray tv (0, 0))) (hvb : vb ≠ g) :
  Calls Tryz.prog 76 #[.slice (some ⟨g, 0, none⟩) l.length cap, .int .i64 i, .slice (some ⟨vb, 0, none⟩) 1 1] w fun e w' => ∃ v' : Value, e = .returned v' ∧ Kd.R kRW 72 w' base ok v' (l.take i ++ x :: l.drop i) ∧ w.grownBy w' (some g) := by
 obtain ⟨i0, hi0, hz0, hsz0, hby0⟩ := info_parts info72
 have hR : Kd.R kRW 72 ((w.drew.setCells g ((i + 1) * 3) ((cur.toList.take (l.length * 3)).drop (i * 3))).setCells g (i * 3) cs) base ok (.slice (some ⟨g, 0, none⟩) (l.length + 1) cap) (l.take i ++ x :: l.drop i) ∧ w.grownBy ((w.drew.setCells g ((i + 1) * 3) ((cur.toList.take (l.length * 3)).drop (i * 3))).setCells g (i * 3) cs) (some g) := R_insert_room (d := kRW) (e := 72) hg hk hh hc h3 h4 hp (Nat.le_of_lt hi) hx hokp 1
 have hcl : cs.length = 3 := (Kd.K_len kRW (Kd.K_of_M kRW hx))
 have h1v : ∀ u ∈ cs, u.oneCell' = true := Kd.K_one kRW (Kd.K_of_M kRW hx)
 have h1c := cells_one (d := kRW) hp (by decide : 0 < 3)
 have hil : (cur.toList.take (l.length * 3)).length = l.length * 3 := hp.1
 generalize hinner : cur.toList.take (l.length * 3) = inner at hR h1c hil
 have hM : maxLen = 9223372036854775807 := rfl
 have hm0 : cap ≤ 9223372036854775807 := by rw [← hM]; exact h3
 have hcell : ∀ j u, inner[j]? = some u → w.cell? ⟨g, j, none⟩ = some u := fun j u hj => by
  rw [bC hh j, ← Array.getElem?_toList]
  rw [← hinner, List.getElem?_take] at hj
  split at hj
  ·exact hj
  ·cases hj
 have hsp : ∀ j, j < cap * 3 → (w.cell? ⟨g, j, none⟩).isSome = true := fun j hj => by
  rw [bC hh j, Array.getElem?_eq_getElem (by omega)]; rfl
 have hfz : ∀ j, w.frozen? ⟨g, j, none⟩ = false := fun j => bF_ hh j
 have hvs : ∀ j u, cs[j]? = some u → w.cell? ⟨vb, j, none⟩ = some u := fun j u hj => by
  rw [bC hv j]; simpa using hj
 have hsa : w.shape? vb = some (tv, cs.length) := by simp [World.shape?, hv]
 have hsb : w.shape? g = some (72, cap * 3) := by simp [World.shape?, hh, h4]
 have hov : ∀ W lb cb, (∀ k, W.heap[k]? = w.heap[k]?) → (callFunc 90 #[.slice (some ⟨vb, 0, none⟩) 1 1, .slice (some ⟨g, (i + 1) * 3, none⟩) lb cb]).run Tryz.prog W = .ok (.value (.bool false)) W := fun W lb cb hW =>
  mats_hov W vb g ((i + 1) * 3) lb cb 1 1 tv 72 cs.length (cap * 3) hvb (by unfold World.shape? at hsa ⊢; rw [hW]; exact hsa) (by unfold World.shape? at hsb ⊢; rw [hW]; exact hsb) (by omega) (by unfold World.frozen?; simp [hW, hv]) (by unfold World.frozen?; simp [hW, hv])
 have hdl : (inner.drop (i * 3)).length = (l.length - i) * 3 := by rw [List.length_drop, hil, Nat.sub_mul]
 have hsz : (Tryz.prog.info? 72).map (·.size) = some 3 := by rw [hi0]; simp [hsz0]
 have hcp1 : ∀ (W : World), (∀ a, W.cell? a = w.cell? a) → (∀ a, W.frozen? a = w.frozen? a) → ∀ ty dc sc, (Builtin.copy_ #[29, 29] ty #[.slice (some ⟨g, (i + 1) * 3, none⟩) (l.length - i) dc, .slice (some ⟨g, i * 3, none⟩) (l.length + 1 - i) sc]).run Tryz.prog W = .ok (goInt (l.length - i : Nat)) (W.setCells g ((i + 1) * 3) (inner.drop (i * 3))) := fun W hW hF ty dc sc => by
  have := run_copy_k (P := Tryz.prog) W 29 29 ty 72 3 g ((i + 1) * 3) (l.length - i) dc ⟨g, i * 3, none⟩ (l.length + 1 - i) sc (inner.drop (i * 3)) Tryz.underlying29 hsz (by rw [hdl]; congr 1; simp only [Nat.min_def]; split <;> omega)
   (fun j u hj => by rw [Addr.add_lit, hW]; exact hcell _ u (by rwa [List.getElem?_drop] at hj))
   (fun j hj => by rw [hW]; exact hsp _ (by omega)) (fun j hj => by rw [hF]; exact hfz _) (fun u hu => h1c u (List.mem_of_mem_drop hu))
  rw [this]
  congr 2
  simp only [Nat.min_def]; split <;> omega
 have hcp2 : ∀ (W : World), (∀ a, W.cell? a = (w.setCells g ((i + 1) * 3) (inner.drop (i * 3))).cell? a) → (∀ a, W.frozen? a = w.frozen? a) → ∀ ty dc sc, (Builtin.copy_ #[29, 28] ty #[.slice (some ⟨g, i * 3, none⟩) (l.length + 1 - i) dc, .slice (some ⟨vb, 0, none⟩) 1 sc]).run Tryz.prog W = .ok (goInt (1 : Nat)) (W.setCells g (i * 3) cs) := fun W hW hF ty dc sc => by
  have := run_copy_k (P := Tryz.prog) W 29 28 ty 72 3 g (i * 3) (l.length + 1 - i) dc ⟨vb, 0, none⟩ 1 sc cs Tryz.underlying29 hsz (by rw [hcl]; simp only [Nat.min_def]; split <;> omega)
   (fun j u hj => by rw [Addr.add_lit, Nat.zero_add, hW, World.cell?_setCells_out _ _ _ _ _ (fun h _ => absurd h hvb)]; exact hvs _ u hj)
   (fun j hj => by
    rw [hW]
    by_cases hin : (i + 1) * 3 ≤ i * 3 + j
    ·omega
    ·rw [World.cell?_setCells_out _ _ _ _ _ (fun _ _ => Or.inl (by show i * 3 + j < (i + 1) * 3; omega))]
     exact hsp _ (by omega))
   (fun j hj => by rw [hF]; exact hfz _) h1v
  rw [this]
  congr 2
  simp only [Nat.min_def]; split <;> omega
 have e1 : ((i : Int) + 1) = ((i + 1 : Nat) : Int) := by omega
 have hw1 : IntKind.i64.wrap ((i : Int) + 1) = (i : Int) + 1 := by rw [IntKind.wrap_i64]; omega
 have hw2 : IntKind.i64.wrap ((l.length : Int) + 1) = (l.length : Int) + 1 := by rw [IntKind.wrap_i64]; omega
 have c1 := cut_from (P := Tryz.prog) 29 72 .i64 Tryz.underlying29 hi0 3 hsz0 (some ⟨g, 0, none⟩) l.length cap (i : Int) (by omega) (by omega)
 have c2 : ∀ W : World, (Instr.slice 29 (.slice (some ⟨g, 0, none⟩) l.length cap) none (some (.int .i64 ((l.length : Int) + 1))) none).run Tryz.prog W = .ok (.slice (some ⟨g, 0, none⟩) (l.length + 1) cap) W := by
  intro W
  have hel : (Tryz.prog).elem 29 = 72 := by simp [Program.elem, Tryz.underlying29]
  rw [run_slice_h W 29 (some ⟨g, 0, none⟩) l.length cap (by rw [hel]; exact Tryz.underlying29) .i64 ((l.length : Int) + 1) (by omega) (by omega), hel]
  simp [sizeOf, typeInfo, hi0, sliced, Result.andThen, Addr.add]
 have c3 : ∀ W : World, (Instr.slice 29 (.slice (some ⟨g, 0, none⟩) (l.length + 1) cap) (some (.int .i64 ((i : Int) + 1))) none none).run Tryz.prog W = .ok (.slice (some ⟨g, (i + 1) * 3, none⟩) (l.length - i) (cap - (i + 1))) W := by
  intro W
  rw [e1, cut_from (P := Tryz.prog) 29 72 .i64 Tryz.underlying29 hi0 3 hsz0 (some ⟨g, 0, none⟩) (l.length + 1) cap ((i + 1 : Nat) : Int) (by omega) (by omega) W, Int.toNat_natCast, if_neg (by omega), Option.map_some, Addr.add_lit, Nat.zero_add, show l.length + 1 - (i + 1) = l.length - i by omega]
 have c4 : ∀ W : World, (Instr.slice 29 (.slice (some ⟨g, 0, none⟩) (l.length + 1) cap) (some (.int .i64 (i : Int))) none none).run Tryz.prog W = .ok (.slice (some ⟨g, i * 3, none⟩) (l.length + 1 - i) (cap - i)) W := by
  intro W
  rw [cut_from (P := Tryz.prog) 29 72 .i64 Tryz.underlying29 hi0 3 hsz0 (some ⟨g, 0, none⟩) (l.length + 1) cap (i : Int) (by omega) (by omega) W, Int.toNat_natCast, if_neg (by omega), Option.map_some, Addr.add_lit, Nat.zero_add]
 have hb1 : decide ((1 : Int) = 0) = false := rfl
 have hb2 : decide ((i : Int) = (l.length : Int)) = false := by simp; omega
 have hb3 : decide ((cap : Int) < (l.length : Int) + 1) = false := by simp; omega
 have hovw := fun lb cb => hov w lb cb (fun _ => rfl)
 have HR := aK hR
 clear hR hov e1
 go_enter Tryz.func76, Tryz.ntmps76
 go_wp2_with (simp only [hovw])
 have hc1 := hcp1 w.drew (fun _ => rfl) (fun _ => rfl) 3 (cap - (i + 1)) (cap - i)
 have hc2 := hcp2 (w.drew.setCells g ((i + 1) * 3) (inner.drop (i * 3))) (fun _ => by rw [← drew_setCells]; rfl) (fun _ => World.frozen?_setCells _ _ _ _ _) 3 (cap - i) 1
 have mixed : (Tryz.prog).follows .mixedOrders = true := rfl
 go_region_law_o (refine step_copy_runI rfl _ _ 29 29 rfl (.slice (some ⟨g, (i + 1) * 3, none⟩) (l.length - i) (cap - (i + 1))) (.slice (some ⟨g, i * 3, none⟩) (l.length + 1 - i) (cap - i)) (by simp [Act.eval, Act.put]) (by simp [Act.eval, Act.put]) hc1 ?_)
 clear hc1
 go_wp2_with (at_builtin; refine wpList_copy_runI _ rfl _ _ 29 28 rfl _ _ rfl rfl hc2 ?_)
 go_ret
 exact ⟨_, rfl, HR.out.1, HR.out.2⟩
theorem mats_insert_grow (w : World) (base : Nat) (ok okp : Nat → Prop) (g cap : Nat) (cur : Array Value) (l : List RW) (i : Nat) (x : RW) (cs : List Value) (vb : Nat) (tv : TypeId)
  (hbase : base ≤ w.heap.size) (hfresh : ∀ k, w.heap.size ≤ k → ok k) (hh : w.heap[g]? = some (.cells cur 72 (0, 0))) (hnc : l.length ≤ cap) (hc : cap < l.length + 1) (h4 : cur.size = cap * 3) (hp : Reps (Kd.M kRW w base (fun k => ok k ∧ k ≠ g)) 3 l (cur.toList.take (l.length * 3)))
  (hi : i < l.length) (hx : Kd.M kRW w base okp x cs) (hokp : ∀ k, okp k → ok k ∧ k ≠ g) (hv : w.heap[vb]? = some (.cells cs.toArray tv (0, 0))) (hvb : vb ≠ g) (hbig : (l.length + 1) * 48 ≤ 140737488355328) :
  Calls Tryz.prog 76 #[.slice (some ⟨g, 0, none⟩) l.length cap, .int .i64 i, .slice (some ⟨vb, 0, none⟩) 1 1] w fun e w' => ∃ v' : Value, e = .returned v' ∧ Kd.R kRW 72 w' base ok v' (l.take i ++ x :: l.drop i) ∧ w.grownBy w' none := by
 obtain ⟨i0, hi0, hz0, hsz0, hby0⟩ := info_parts info72
 have hcl : cs.length = 3 := (Kd.K_len kRW (Kd.K_of_M kRW hx))
 have h1v : ∀ u ∈ cs, u.oneCell' = true := Kd.K_one kRW (Kd.K_of_M kRW hx)
 have h1c := cells_one (d := kRW) hp (by decide : 0 < 3)
 have hil : (cur.toList.take (l.length * 3)).length = l.length * 3 := hp.1
 generalize hinner : cur.toList.take (l.length * 3) = inner at hp h1c hil
 have hcell : ∀ j u, inner[j]? = some u → w.cell? ⟨g, j, none⟩ = some u := fun j u hj => by
  rw [bC hh j, ← Array.getElem?_toList]
  rw [← hinner, List.getElem?_take] at hj
  split at hj
  ·exact hj
  ·cases hj
 have hvs : ∀ j u, cs[j]? = some u → w.cell? ⟨vb, j, none⟩ = some u := fun j u hj => by
  rw [bC hv j]; simpa using hj
 have hgw : g < w.heap.size := blk_lt hh
 have hvw : vb < w.heap.size := blk_lt hv
 have hsz : (Tryz.prog.info? 72).map (·.size) = some 3 := by rw [hi0]; simp [hsz0]
 have hdl : (inner.drop (i * 3)).length = (l.length - i) * 3 := by rw [List.length_drop, hil, Nat.sub_mul]
 have hik : i + (l.length + 1 - i) = l.length + 1 := by omega
 have hkk : (l.length : Int) + 1 - (i : Int) = ((l.length + 1 - i : Nat) : Int) := by omega
 have hold : (Builtin.firstCells i0.size i (.slice (some ⟨g, 0, none⟩) i cap)).run Tryz.prog w.drew = .ok (inner.take (i * 3)).toArray w.drew := by
  rw [hsz0]
  exact run_firstCells_some w.drew 3 i ⟨g, 0, none⟩ i cap (inner.take (i * 3)) (by rw [List.length_take, hil]; omega) (fun j v hj => by
   rw [Addr.add_lit, Nat.zero_add]
   rw [List.getElem?_take] at hj
   split at hj
   ·exact hcell j v hj
   ·cases hj)
 have hrz := Lib.run_append_grow_zeros (P := Tryz.prog) w 29 3 29 72 i0 _ .i64 .i64 Tryz.underlying29 Tryz.underlying3 hi0 hz0 (some ⟨g, 0, none⟩) i cap (inner.take (i * 3)) hold (l.length + 1 - i) (by omega) (by omega) (by omega) (by omega) (by rw [hby0]; omega) (by rw [hby0, hik]; exact growslice_fits hc hbig)
 rw [hik, ← hkk] at hrz
 have hGn : l.length + 1 ≤ grownCap w (l.length + 1) cap 72 := grownCap_ge w _ _ _
 have hG63 : grownCap w (l.length + 1) cap 72 ≤ maxLen := grownCap_le_maxLen w (l.length + 1) cap 72 (by unfold maxLen; omega)
 generalize grownCap w (l.length + 1) cap 72 = G at hrz hGn hG63
 generalize hROW : (inner.take (i * 3)).toArray ++ Builtin.zeroCells _ (l.length + 1 - i) ++ Builtin.zeroCells _ (G - (l.length + 1)) = ROW at hrz
 have hRl : ROW.size = G * 3 := by
  rw [← hROW]
  simp [Builtin.zeroCells, Value.cells, hil]
  omega
 have hrow : ROW.toList.take (i * 3) = inner.take (i * 3) := by
  rw [← hROW]
  simp only [Array.toList_append, List.append_assoc]
  rw [List.take_append_of_le_length (by rw [List.length_take, hil]; omega), List.take_take, Nat.min_self]
 have hR : Kd.R kRW 72 (((w.alloc (.cells ROW 72)).drew.setCells w.heap.size (i * 3) cs).drew.setCells w.heap.size ((i + 1) * 3) (inner.drop (i * 3))) base ok (.slice (some ⟨w.heap.size, 0, none⟩) (l.length + 1) G) (l.take i ++ x :: l.drop i) ∧ w.grownBy (((w.alloc (.cells ROW 72)).drew.setCells w.heap.size (i * 3) cs).drew.setCells w.heap.size ((i + 1) * 3) (inner.drop (i * 3))) none :=
  R_insert_grow (d := kRW) (e := 72) hbase hfresh hGn hG63 hRl (hp.imp_ fun _ _ hq => Kd.M_mono kRW (fun k hk => hk.1) hq) hrow (Nat.le_of_lt hi) (Kd.M_mono kRW (fun k hk => (hokp k hk).1) hx) 1 1
 have HR := aK hR
 clear hR hROW hrow hp hx hokp hold
 obtain ⟨W1, hW1⟩ : ∃ W1, W1 = (w.alloc (.cells ROW 72)).drew := ⟨_, rfl⟩
 have hN : ∀ j, j < (l.length + 1) * 3 → (W1.cell? ⟨w.heap.size, j, none⟩).isSome = true := fun j hj => by
  rw [hW1]
  show ((w.alloc (.cells ROW 72)).cell? ⟨w.heap.size, j, none⟩).isSome = true
  rw [bC (blk_new w (.cells ROW 72)) j, Array.getElem?_eq_getElem (by omega)]; rfl
 have hNf : ∀ j, W1.frozen? ⟨w.heap.size, j, none⟩ = false := fun j => by rw [hW1]; exact bF_ (blk_new w (.cells ROW 72)) j
 have hOb : ∀ j u, w.cell? ⟨g, j, none⟩ = some u → W1.cell? ⟨g, j, none⟩ = some u := fun j u h => by
  rw [hW1]; exact (((Below.refl w.heap.size w).alloc (Nat.le_refl _) (.cells ROW 72)).cell (p := ⟨g, j, none⟩) hgw).trans h
 have hOv : ∀ j u, w.cell? ⟨vb, j, none⟩ = some u → W1.cell? ⟨vb, j, none⟩ = some u := fun j u h => by
  rw [hW1]; exact (((Below.refl w.heap.size w).alloc (Nat.le_refl _) (.cells ROW 72)).cell (p := ⟨vb, j, none⟩) hvw).trans h
 have hcpA : ∀ (W : World), (∀ a, W.cell? a = W1.cell? a) → (∀ a, W.frozen? a = W1.frozen? a) → ∀ ty dc sc, (Builtin.copy_ #[29, 28] ty #[.slice (some ⟨w.heap.size, i * 3, none⟩) (l.length + 1 - i) dc, .slice (some ⟨vb, 0, none⟩) 1 sc]).run Tryz.prog W = .ok (goInt (1 : Nat)) (W.setCells w.heap.size (i * 3) cs) := fun W hW hF ty dc sc => by
  have := run_copy_k (P := Tryz.prog) W 29 28 ty 72 3 w.heap.size (i * 3) (l.length + 1 - i) dc ⟨vb, 0, none⟩ 1 sc cs Tryz.underlying29 hsz (by rw [hcl]; simp only [Nat.min_def]; split <;> omega)
   (fun j u hj => by rw [Addr.add_lit, Nat.zero_add, hW]; exact hOv _ u (hvs _ u hj))
   (fun j hj => by rw [hW]; exact hN _ (by omega)) (fun j hj => by rw [hF]; exact hNf _) h1v
  rw [this]
  congr 2
  simp only [Nat.min_def]; split <;> omega
 have hgN : g ≠ w.heap.size := by omega
 have hcpB : ∀ (W : World), (∀ a, W.cell? a = (W1.setCells w.heap.size (i * 3) cs).cell? a) → (∀ a, W.frozen? a = W1.frozen? a) → ∀ ty dc sc, (Builtin.copy_ #[29, 29] ty #[.slice (some ⟨w.heap.size, (i + 1) * 3, none⟩) (l.length - i) dc, .slice (some ⟨g, i * 3, none⟩) (l.length - i) sc]).run Tryz.prog W = .ok (goInt (l.length - i : Nat)) (W.setCells w.heap.size ((i + 1) * 3) (inner.drop (i * 3))) := fun W hW hF ty dc sc => by
  have := run_copy_k (P := Tryz.prog) W 29 29 ty 72 3 w.heap.size ((i + 1) * 3) (l.length - i) dc ⟨g, i * 3, none⟩ (l.length - i) sc (inner.drop (i * 3)) Tryz.underlying29 hsz (by rw [hdl]; simp)
   (fun j u hj => by
    rw [Addr.add_lit, hW, World.cell?_setCells_out _ _ _ _ _ (fun h _ => absurd h hgN)]
    exact hOb _ u (hcell _ u (by rwa [List.getElem?_drop] at hj)))
   (fun j hj => by rw [hW]; exact isSome_setCells _ _ _ _ (fun t ht => hN _ (by omega)) _ (hN _ (by omega)))
   (fun j hj => by rw [hF]; exact hNf _) (fun u hu => h1c u (List.mem_of_mem_drop hu))
  rw [this]
  congr 2
  simp
 have hw1 : IntKind.i64.wrap ((i : Int) + 1) = (i : Int) + 1 := by rw [IntKind.wrap_i64]; omega
 have hw2 : IntKind.i64.wrap ((l.length : Int) + 1) = (l.length : Int) + 1 := by rw [IntKind.wrap_i64]; omega
 have hw3 : IntKind.i64.wrap ((l.length : Int) + 1 - (i : Int)) = (l.length : Int) + 1 - (i : Int) := by rw [IntKind.wrap_i64]; omega
 have c1 : ∀ W : World, (Instr.slice 29 (.slice (some ⟨g, 0, none⟩) l.length cap) (some (.int .i64 (i : Int))) none none).run Tryz.prog W = .ok (.slice (some ⟨g, i * 3, none⟩) (l.length - i) (cap - i)) W := by
  intro W
  rw [cut_from (P := Tryz.prog) 29 72 .i64 Tryz.underlying29 hi0 3 hsz0 (some ⟨g, 0, none⟩) l.length cap (i : Int) (by omega) (by omega) W, Int.toNat_natCast, if_neg (by omega), Option.map_some, Addr.add_lit, Nat.zero_add]
 have c2 := cut_to (P := Tryz.prog) 29 72 .i64 Tryz.underlying29 hi0 (some ⟨g, 0, none⟩) l.length cap (i : Int) (by omega) (by omega) (by omega)
 rw [Int.toNat_natCast] at c2
 have c3 : ∀ W : World, (Instr.slice 29 (.slice (some ⟨w.heap.size, 0, none⟩) (l.length + 1) G) (some (.int .i64 (i : Int))) none none).run Tryz.prog W = .ok (.slice (some ⟨w.heap.size, i * 3, none⟩) (l.length + 1 - i) (G - i)) W := by
  intro W
  rw [cut_from (P := Tryz.prog) 29 72 .i64 Tryz.underlying29 hi0 3 hsz0 (some ⟨w.heap.size, 0, none⟩) (l.length + 1) G (i : Int) (by omega) (by omega) W, Int.toNat_natCast, if_neg (by omega), Option.map_some, Addr.add_lit, Nat.zero_add]
 have c4 : ∀ W : World, (Instr.slice 29 (.slice (some ⟨w.heap.size, 0, none⟩) (l.length + 1) G) (some (.int .i64 ((i : Int) + 1))) none none).run Tryz.prog W = .ok (.slice (some ⟨w.heap.size, (i + 1) * 3, none⟩) (l.length - i) (G - (i + 1))) W := by
  intro W
  rw [show ((i : Int) + 1) = ((i + 1 : Nat) : Int) by omega, cut_from (P := Tryz.prog) 29 72 .i64 Tryz.underlying29 hi0 3 hsz0 (some ⟨w.heap.size, 0, none⟩) (l.length + 1) G ((i + 1 : Nat) : Int) (by omega) (by omega) W, Int.toNat_natCast, if_neg (by omega), Option.map_some, Addr.add_lit, Nat.zero_add, show l.length + 1 - (i + 1) = l.length - i by omega]
 have hb1 : decide ((1 : Int) = 0) = false := rfl
 have hb2 : decide ((i : Int) = (l.length : Int)) = false := by simp; omega
 have hb3 : decide ((cap : Int) < (l.length : Int) + 1) = true := by simp; omega
 have ha := hcpA W1 (fun _ => rfl) (fun _ => rfl) 3 (G - i) 1
 have hb := hcpB ((W1.setCells w.heap.size (i * 3) cs).drew) (fun _ => rfl) (fun _ => World.frozen?_setCells _ _ _ _ _) 3 (G - (i + 1)) (cap - i)
 subst hW1
 have mixed : (Tryz.prog).follows .mixedOrders = true := rfl
 clear hcpA hcpB hOb hOv hN hNf hcell hvs h1c h1v hkk hik hdl hil hcl
 go_enter Tryz.func76, Tryz.ntmps76
 go_wp2_with (first
  | (at_builtin; refine Lib.wpList_append_run _ rfl _ _ _ _ rfl _ _ rfl rfl _ _ hrz ?_)
  | (at_builtin; refine wpList_copy_runI _ rfl _ _ 29 28 rfl _ _ rfl rfl ha ?_))
 go_region_law_o (refine step_copy_runI rfl _ _ 29 29 rfl (.slice (some ⟨w.heap.size, (i + 1) * 3, none⟩) (l.length - i) (G - (i + 1))) (.slice (some ⟨g, i * 3, none⟩) (l.length - i) (cap - i)) (by simp [Act.eval, Act.put]) (by simp [Act.eval, Act.put]) hb ?_)
 go_wp2
 go_ret
 exact ⟨_, rfl, HR.out.1, HR.out.2⟩
theorem mats_insert_end (w : World) (base : Nat) (ok okp : Nat → Prop) (A : Option Addr) (cap : Nat) (l : List RW) (x : RW) (cs : List Value) (vb : Nat) (tv : TypeId)
  (hbase : base ≤ w.heap.size) (hfresh : ∀ k, w.heap.size ≤ k → ok k) (ho : Kd.R kRW 72 w base ok (.slice A l.length cap) l)
  (hx : Kd.M kRW w base okp x cs) (hokp : ∀ k, okp k → ok k ∧ some k ≠ (Value.slice A l.length cap).ownBlock) (hv : w.heap[vb]? = some (.cells cs.toArray tv (0, 0))) (hbig : (l.length + 1) * 48 ≤ 140737488355328) :
  Calls Tryz.prog 76 #[.slice A l.length cap, .int .i64 (l.length : Int), .slice (some ⟨vb, 0, none⟩) 1 1] w fun e w' => ∃ v' : Value, e = .returned v' ∧ Kd.R kRW 72 w' base ok v' (l ++ [x]) ∧ Below base w w' ∧ w.grownBy w' (Value.slice A l.length cap).ownBlock := by
 obtain ⟨i0, hi0, hz0, hsz0, hby0⟩ := info_parts info72
 have hcl : cs.length = 3 := (Kd.K_len kRW (Kd.K_of_M kRW hx))
 obtain ⟨v1, w1, hrun, hR1, hg1⟩ := R_append_one_run (P := Tryz.prog) kRW 29 28 29 72 72 i0 _ 48 Tryz.underlying29 Tryz.underlying28 hi0 hz0 hsz0 hby0 rfl (by decide) (by decide) ho hx hokp hfresh (a := ⟨vb, 0, none⟩) (fun j u hj => by rw [Addr.add_lit, Nat.zero_add, bC hv]; simpa using hj) 1 hbase hbig
 have hB : Below base w w1 := (Below.refl base w).grown hg1 hbase (Kd.R_base ho)
 obtain ⟨cc, hcut⟩ : ∃ cc : Option Addr, ∀ W : World, (Instr.slice 29 (.slice A l.length cap) (some (.int .i64 (l.length : Int))) none none).run Tryz.prog W = .ok (.slice cc (l.length - l.length) (cap - l.length)) W := by
  exact ⟨_, cut_from (P := Tryz.prog) 29 72 .i64 Tryz.underlying29 hi0 3 hsz0 A l.length cap (l.length : Int) (by omega) (by omega)⟩
 rw [Nat.sub_self] at hcut
 have hb1 : decide ((1 : Int) = 0) = false := rfl
 have HR := aK hR1
 have HB := aK hB
 have HG := aK hg1
 have HN := aK hrun
 clear ho hx hokp hv hcl hR1 hB hg1 hrun hz0 hi0
 go_enter Tryz.func76, Tryz.ntmps76
 go_wp2_with (at_builtin; refine Lib.wpList_append_run _ rfl _ _ _ _ rfl _ _ rfl rfl _ _ HN.out ?_)
 go_ret
 exact ⟨_, rfl, HR.out, HB.out, HG.out⟩
theorem mats_insertk (w : World) (base : Nat) (ok okp : Nat → Prop) (v : Value) (l : List RW) (i : Nat) (x : RW) (cs : List Value) (vb : Nat) (tv : TypeId)
  (ho : Kd.R kRW 72 w base ok v l) (hi : i ≤ l.length) (hbase : base ≤ w.heap.size) (hfresh : ∀ k, w.heap.size ≤ k → ok k) (hx : Kd.M kRW w base okp x cs) (hokp : ∀ k, okp k → ok k ∧ some k ≠ v.ownBlock) (hv : w.heap[vb]? = some (.cells cs.toArray tv (0, 0))) (hvb : some vb ≠ v.ownBlock) (hbig : (l.length + 1) * 48 ≤ 140737488355328) :
  Calls Tryz.prog 76 #[v, .int .i64 i, .slice (some ⟨vb, 0, none⟩) 1 1] w fun e w' => ∃ v' : Value, e = .returned v' ∧ Kd.R kRW 72 w' base ok v' (l.take i ++ x :: l.drop i) ∧ Below base w w' ∧ ∀ k, k < w.heap.size → some k ≠ v.ownBlock → w'.heap[k]? = w.heap[k]? := by
 by_cases he : i = l.length
 ·obtain ⟨A, c, rfl⟩ := Kd.R_slice ho
  subst he
  rw [List.take_of_length_le (Nat.le_refl _), List.drop_of_length_le (Nat.le_refl _)]
  refine (mats_insert_end w base ok okp A c l x cs vb tv hbase hfresh ho hx hokp hv hbig).mono ?_
  rintro e w' ⟨v', rfl, hR, hB, hG⟩
  exact ⟨v', rfl, hR, hB, fun k hk hne => hG.block k hk hne⟩
 ·have hlt : i < l.length := by omega
  obtain ⟨g, cap, cur, rfl, hg, hk, hh, h2, h3, h4, hp⟩ := R_open ho (fun e => by rw [e] at hlt; simp at hlt)
  have hokp' : ∀ k, okp k → ok k ∧ k ≠ g := fun k hk => ⟨(hokp k hk).1, fun e => (hokp k hk).2 (by rw [e]; rfl)⟩
  have hvb' : vb ≠ g := fun e => hvb (by rw [e]; rfl)
  by_cases hc : l.length + 1 ≤ cap
  ·refine (mats_insert_room w base ok okp g cap cur l i x cs vb tv hg hk hh hc h3 h4 hp hlt hx hokp' hv hvb').mono ?_
   rintro e w' ⟨v', rfl, hR, hG⟩
   exact ⟨v', rfl, hR, (Below.refl base w).grown hG hbase (fun k e => by injection e with e; omega), fun k hk hne => hG.block k hk hne⟩
  ·refine (mats_insert_grow w base ok okp g cap cur l i x cs vb tv hbase hfresh hh h2 (by omega) h4 hp hlt hx hokp' hv hvb' hbig).mono ?_
   rintro e w' ⟨v', rfl, hR, hG⟩
   exact ⟨v', rfl, hR, (Below.refl base w).grown hG hbase (fun k e => by cases e), fun k hk _ => hG.block k hk (by simp)⟩
theorem cell_below {w W : World} {a : Addr} {v : Value} (h : w.cell? a = some v) (hb : Below w.heap.size w W) : W.cell? a = some v := (hb.cell (wl_ w _ h)).trans h
theorem cell_drew {w : World} {a : Addr} {v : Value} (h : w.cell? a = some v) : w.drew.cell? a = some v := cell_below h (bW (Below.refl _ _))
theorem OWm.below {w w1 : World} {base : Nat} {v : Value} {rs : List RW} {xs : List S72} (h : OWm w base v rs xs) (hb : Below w.heap.size w w1) : OWm w1 base v rs xs := ⟨Kd.R_below h.1 hb, INs.below h.2 hb⟩
theorem OWm.view {w : World} {base b : Nat} {v : Value} {rs : List RW} {xs : List S72} (h : OWm w base v rs xs) : Kd.V k72 72 w b (fun k => base ≤ k) v xs := lead_view lead_m h.1 h.2 (fun k hk => hk.2)
theorem OWm.lower {w : World} {base b : Nat} {v : Value} {rs : List RW} {xs : List S72} (h : OWm w base v rs xs) (hb : b ≤ base) : OWm w b v rs xs := ⟨Kd.R_lower h.1 hb, INs.mono h.2 (fun k hk => ⟨hk.1, Nat.le_trans hb hk.2⟩)⟩
theorem OWm.store {w : World} {base g n c : Nat} {rs : List RW} {xs : List S72} (h : OWm w base (.slice (some ⟨g, 0, none⟩) n c) rs xs) {i : Nat} (hi : i < n) {s : ByteArray} (hs : (xs.getD i z72).f0 = s) (m : Int) {A2 : Option Addr} {c2 : Nat} {J : List Int} (hc2 : J.length ≤ c2) (hF : Kd.F (Kd.int .i64) w (fun k => k ≠ g ∧ base ≤ k) A2 J.length J) :
  OWm ((w.setCell ⟨g, i * 3 + 1, none⟩ (.int .i64 m)).setCell ⟨g, i * 3 + 2, none⟩ (.slice A2 J.length c2)) base (.slice (some ⟨g, 0, none⟩) n c) (rs.set i ⟨s, m, A2, J.length, c2⟩) (xs.set i ⟨s, ⟨m, J⟩⟩) := by
 obtain ⟨h1, h2⟩ := h
 have hl := F2.len h2
 have hn := (Kd.R_reads' h1).1
 obtain ⟨cc, hcl, hM, hcc, -⟩ := Kd.R_elem h1 zRW (i : Int) (by omega) (by omega)
 obtain rfl := kRW_openM hM
 have hres := Kd.R_seg (d := kRW) (W := w) (okp := fun _ => False) h1 (i : Int) (by omega) (by omega) (seg := [.int .i64 m, .slice A2 J.length c2]) (j := 1) hcl hcc (show 1 + 2 ≤ 3 by decide) (x' := ⟨s, m, A2, J.length, c2⟩) (by
  have he : (rs.getD (i : Int).toNat zRW).f0 = s := by rw [Int.toNat_natCast, ← hs]; exact INs.f0 h2 z72 rfl i
  rw [he]
  exact kRW_mkM _ _ _ _) (fun _ h => h.elim)
 rw [Int.toNat_natCast] at hres
 have hfar : ∀ k, k ≠ g → ((w.setCell ⟨g, i * 3 + 1, none⟩ (.int .i64 m)).setCell ⟨g, i * 3 + 2, none⟩ (.slice A2 J.length c2)).heap[k]? = w.heap[k]? := fun k hk => (Below.heap_setCell _ _ _ _ hk).trans (Below.heap_setCell _ _ _ _ hk)
 refine ⟨hres.1, F2.set (INs.step h2 (fun k hk _ => hfar k (fun he => hk.1 (by rw [he]; simp [Value.ownBlock])))) ⟨rfl, rfl, rfl, hc2, ?_⟩⟩
 exact Kd.F_mono (Kd.F_step hF (fun k hk _ => hfar k hk.1)) (fun k hk => ⟨fun he => hk.1 (by simpa [Value.ownBlock] using he), hk.2⟩)
def withK (k : Nat) (l0 : List S72) (a1 : ByteArray) (u : Int) (e : List Int) : Option (List S72) :=
 (span_Count.f u e).bind fun c => if c = 0 then some l0 else if mB l0 a1 = true then (span_Union.f k (l0.getD (mN l0 a1) z72).f1.f0 (l0.getD (mN l0 a1) z72).f1.f1 u e).bind fun p => some (l0.set (mN l0 a1) ⟨(l0.getD (mN l0 a1) z72).f0, ⟨p.1, p.2⟩⟩)
  else some (l0.take (mN l0 a1) ++ ⟨a1, ⟨u, e⟩⟩ :: l0.drop (mN l0 a1))
theorem withK_mono (k : Nat) (l0 : List S72) (a1 : ByteArray) (u : Int) (e : List Int) : LeO (withK k l0 a1 u e) (withK (k + 1) l0 a1 u e) := by
 unfold withK
 exact LeO.bind (LeO.refl _) (fun _ => LeO.ite (LeO.refl _) (LeO.ite (LeO.bind (span_Union.mono _ _ _ _ _) (fun _ => LeO.refl _)) (LeO.refl _)))
theorem know_with.own (k : Nat) (v : Value) (rs : List RW) (l0 : List S72) (a1 : ByteArray) (u : Int) (A2 : Option Addr) (c2 : Nat) (e2 : List Int) (res : List S72) (base : Nat) (w : World) (hO : OWm w base v rs l0) (hbw : base ≤ w.heap.size) (hl : l0.length < 1000000000) (hF : Kd.F (Kd.int .i64) w (fun k => base ≤ k ∧ some k ≠ v.ownBlock) A2 e2.length e2) (hc2 : e2.length ≤ c2) (h : withK k l0 a1 u e2 = some res) :
  Calls Tryz.prog 54 #[v, .string a1, .agg #[.int .i64 u, .slice A2 e2.length c2]] w fun e w' => ∃ (v' : Value) (rs' : List RW), e = .returned v' ∧ OWm w' base v' rs' res ∧ Below base w w' ∧ (v'.ownBlock = v.ownBlock ∨ ∃ b, v'.ownBlock = some b ∧ w.heap.size ≤ b) ∧ ∀ k, k < w.heap.size → some k ≠ v.ownBlock → w'.heap[k]? = w.heap[k]? := by
 unfold withK at h
 obtain ⟨cn, hcn, h⟩ := bM h
 have hrl := F2.len hO.2
 obtain ⟨A, c, rfl⟩ := Kd.R_slice hO.1
 rw [hrl] at hO hF ⊢
 have HO := aK (hO.below (bA (Below.refl w.heap.size w) (.cells #[.int .i64 u, .slice A2 e2.length c2] 69)))
 have HF := aK (Kd.F_bound hF)
 have HFA := aK (Kd.F_alloc (Kd.F_bound hF) (.cells #[.int .i64 u, .slice A2 e2.length c2] 69))
 have HC2 := aK hc2
 have BK := aK (blk_new w (.cells #[.int .i64 u, .slice A2 e2.length c2] 69))
 have HB := aK (bA (Below.refl w.heap.size w) (.cells #[.int .i64 u, .slice A2 e2.length c2] 69))
 have HLO := aK (Kd.R_lt hO.1)
 have HBW := aK hbw
 have HL := aK hl
 have HRL := aK hrl
 have HCN := aK hcn
 have H := aK h
 have hut := Tryz.underlying72
 have hut2 := Tryz.underlying69
 clear hO hF hc2 hcn h hrl hbw
 go_enter Tryz.func54, Tryz.ntmps54
 go_upto_region 1 with fail
 generalize w.alloc (.cells #[.int .i64 u, .slice A2 e2.length c2] 69) = w1 at HO HFA BK HB ⊢
 have hq0 : w1.cell? ⟨w.heap.size, 0, none⟩ = some (.int .i64 u) := (bC BK.out 0).trans rfl
 have hq1 : w1.cell? ⟨w.heap.size, 1, none⟩ = some (.slice A2 e2.length c2) := (bC BK.out 1).trans rfl
 go_wp2_with fail
 refine (span_Count.calls u A2 c2 e2 cn w1 (Kd.F_now HFA.out) HC2.out HCN.out).mono ?_
 rintro e w2 ⟨rfl, hb2⟩
 replace HO := aK (HO.out.below hb2)
 replace HFA := aK (Kd.F_below HFA.out hb2)
 replace BK := aK (bB BK.out hb2)
 replace HB := aK (bS HB.out hb2)
 clear hb2 hq0 hq1
 by_cases hc0 : cn = 0
 ·have hh := H.out
  rw [if_pos hc0] at hh
  obtain rfl := sI hh
  subst hc0
  clear hh H
  go_wp2_with fail
  go_ret
  exact ⟨_, rs, rfl, HO.out, HB.out.mono HBW.out, Or.inl rfl, fun k hk _ => HB.out.block k hk⟩
 have hh := H.out
 rw [if_neg hc0] at hh
 have hz1 : (cn == 0) = false := by rw [beq_eq_false_iff_ne]; exact hc0
 have hz2 := eq_false hc0
 have hz3 : decide (cn = 0) = false := decide_eq_false hc0
 have HH := aK hh
 clear hc0 hh H
 have HFD := aK (fun W (hW : Below w2.heap.size w2 W) => mfind_raw A c rs l0 a1 W _ (by have := (Kd.R_reads' (HO.out.below hW).1).2.2; have e := HRL.out; rwa [e] at this) (HO.out.below hW).2 HL.out)
 go_wp2_with fail
 refine (HFD.out w2 (Below.refl _ _)).mono ?_
 rintro e w3 ⟨rfl, hb3⟩
 replace HO := aK (HO.out.below hb3)
 replace HFA := aK (Kd.F_below HFA.out hb3)
 replace BK := aK (bB BK.out hb3)
 replace HB := aK (bS HB.out hb3)
 clear hb3 HFD
 by_cases hB : mB l0 a1 = true
 ·have hlt := mN_lt hB
  have hh := HH.out
  rw [if_pos hB] at hh
  obtain ⟨p, hp, hrr⟩ := bM hh
  replace hrr := sI hrr
  obtain ⟨pu, pe⟩ := p
  dsimp only at hrr
  rw [hB]
  obtain ⟨g, cap, ev, hg, hgl, cells, hcells⟩ := Kd.R_form HO.out.1 (by rw [HRL.out]; omega)
  rw [HRL.out] at ev
  injection ev with eA _ ec
  subst eA; subst ec
  obtain ⟨i0, i5, i1, i2, i3⟩ := (F2.getD HO.out.2 (j := mN l0 a1) hlt zRW z72)
  obtain ⟨ad, hA, hx0, hx1, hx2⟩ := at_RW (Kd.R_reads' HO.out.1).2.2 (mN l0 a1 : Int) (by omega) (by have := (Kd.R_reads' HO.out.1).1; have := HRL.out; omega)
  injection hA with hA
  subst hA
  have hrd : rd_RW rs (mN l0 a1 : Int) = rs.getD (mN l0 a1) zRW := by unfold rd_RW; rw [Int.toNat_natCast]
  rw [hrd] at hx0 hx1 hx2
  simp only [Int.toNat_natCast, Addr.add_lit, Nat.zero_add] at hx0 hx1 hx2
  clear hrd hx0 hh HH
  generalize hr : rs.getD (mN l0 a1) zRW = r at hx1 hx2 i0 i5 i1 i2 i3
  generalize hx : l0.getD (mN l0 a1) z72 = x at i0 i5 i1 i2 i3 hp hrr
  generalize hi : mN l0 a1 = i at *
  obtain ⟨s0, su, rA, rn, rc⟩ := r
  dsimp only at i0 i5 i1 i2 i3 hx1 hx2
  subst i0; subst i5; subst i1
  have HRR := aK hrr
  have HX := aK hx
  have HX1 := aK hx1
  have HX2 := aK hx2
  have HI3 := aK i3
  have HI2 := aK i2
  have HP := aK hp
  have HGL := aK hgl
  have HG := aK hg
  have HGW := aK (HLO.out g (by simp [Value.ownBlock]))
  have HCE := aK (show ∃ cells : Array Value, w3.heap[g]? = some (.cells cells 72 (0, 0)) from ⟨cells, hcells⟩)
  have pm := eT (show (0 : Int) ≤ (i : Int) by omega)
  have qm := eT (show (i : Int) < (l0.length : Int) by omega)
  clear hr hx hx1 hx2 i3 i2 hcells cells hg hgl hp hi hB hrr
  go_upto_region 6 with fail
  refine start_ (n := 12) (S := fun w' => w'.cell? ⟨g, i * 3 + 1, none⟩ = some (.int .i64 x.f1.f0) ∧ w'.cell? ⟨g, i * 3 + 2, none⟩ = some (.slice rA x.f1.f1.length rc) ∧ w'.cell? ⟨w.heap.size, 0, none⟩ = some (.int .i64 u) ∧ w'.cell? ⟨w.heap.size, 1, none⟩ = some (.slice A2 e2.length c2)) (ds := [11]) #[false, false, false, false, false, false, false, false, false, false, false, false] (by kernel_rfl) rfl rfl ⟨cell_drew HX1.out, cell_drew HX2.out, (bC (blk_drew BK.out) 0).trans rfl, (bC (blk_drew BK.out) 1).trans rfl⟩ (fun hHeld => ?_)
  have hb := bW (Below.refl w3.heap.size w3)
  replace HO := aK (HO.out.below hb)
  replace HFA := aK (Kd.F_below HFA.out hb)
  replace HI3 := aK (Kd.F_below HI3.out hb)
  replace BK := aK (bB BK.out hb)
  replace HX1 := aK (cell_below HX1.out hb)
  replace HX2 := aK (cell_below HX2.out hb)
  obtain ⟨cells, hcells⟩ := HCE.out
  replace HCE := aK (show ∃ cells : Array Value, _ = some (.cells cells 72 (0, 0)) from ⟨cells, bB hcells hb⟩)
  clear hcells cells
  replace HGL := aK (Nat.lt_of_lt_of_le HGL.out hb.size)
  replace HB := aK (bS HB.out hb)
  clear hb
  generalize w3.drew = w4 at HO HFA HI3 BK HX1 HX2 HCE HGL HB hHeld ⊢
  refine p_ 0 28 (mk_ 12 0x1) ?_
  refine p_ 1 29 (mk_ 12 0x3) ?_
  refine p_ 2 30 (mk_ 12 0x7) ?_
  refine p_ 3 31 (mk_ 12 0xf) ?_
  refine p_ 4 32 (mk_ 12 0x1f) ?_
  refine p_ 5 33 (mk_ 12 0x3f) ?_
  refine t_ 6 34 (mk_ 12 0x7f) hHeld ?_
  refine t_ 7 35 (mk_ 12 0xff) hHeld ?_
  refine one_ (i := 8) (N := some 36) #[true, true, true, true, true, true, true, true, true, false, false, false] rfl rfl (by kernel_rfl) (by decide) (fun K hK => ?_)
  refine goes_ Tryz.func74 (by kernel_rfl) rfl #[.agg #[.int .i64 x.f1.f0, .slice rA x.f1.f1.length rc], .agg #[.int .i64 u, .slice A2 e2.length c2]] (by rfl) rfl rfl (by (try simp only [List.map_toArray, List.map_cons, List.map_nil]); first | done | rfl) ?_
  refine (span_Union.calls k x.f1.f0 rA rc x.f1.f1 u A2 c2 e2 pu pe w4 (Kd.F_now HI3.out) HI2.out (Kd.F_now HFA.out) HC2.out HP.out).mono ?_
  rintro ev w5 ⟨v5, rfl, ho5, hb⟩
  obtain ⟨A5, c5, rfl⟩ := Kd.R_slice ho5
  have HF5 := aK (Kd.F_mono (Kd.R_F (Kd.R_bound ho5)) (ok' := fun k => k ≠ g ∧ base ≤ k) (fun k hk => by have := hk.2.1; have := HGL.out; have := below_size HB.out; have := HBW.out; omega))
  have HL5 := aK (Kd.R_reads' ho5).2.1
  refine ⟨_, rfl, ?_⟩
  clear ho5
  replace HO := aK (HO.out.below hb)
  replace HFA := aK (Kd.F_below HFA.out hb)
  replace HI3 := aK (Kd.F_below HI3.out hb)
  replace BK := aK (bB BK.out hb)
  replace HX1 := aK (cell_below HX1.out hb)
  replace HX2 := aK (cell_below HX2.out hb)
  obtain ⟨cells, hcells⟩ := HCE.out
  replace HCE := aK (show ∃ cells : Array Value, _ = some (.cells cells 72 (0, 0)) from ⟨cells, bB hcells hb⟩)
  clear hcells cells
  replace HGL := aK (Nat.lt_of_lt_of_le HGL.out hb.size)
  replace HB := aK (bS HB.out hb)
  clear hb
  refine hK.out _ _ ⟨HX1.out, HX2.out, (bC BK.out 0).trans rfl, (bC BK.out 1).trans rfl⟩ (fun hHeld => ?_)
  clear hK K
  refine norm_ (a' := ?_) ?_ ?_
  rotate_left
  ·show Act.put _ (some 36) _ = _
   simp only [Act.put, lA, lB, lC, i64_w, i32_w]
   rfl
  refine p_ 9 37 (mk_ 12 0x3ff) ?_
  refine p_ 10 38 (mk_ 12 0x7ff) ?_
  clear hHeld
  refine last_ (i := 11) (N := none) #[true, true, true, true, true, true, true, true, true, true, true, true] rfl rfl (by kernel_rfl) (by decide) (fun K hK => ?_)
  obtain ⟨cells, hcells⟩ := HCE.out
  have hz1 : w5.frozen? ⟨g, i * 3 + 1, none⟩ = false := bF_ hcells _
  have hz2 : w5.frozen? ⟨g, i * 3 + 2, none⟩ = false := bF_ hcells _
  have hx1 := HX1.out
  have hx2 := HX2.out
  refine skip_ (w1 := ?_) (by rfl) rfl ?_ ?_
  rotate_left
  ·go_simp
   rfl
  refine hK.out _ _ ?_
  clear hK K
  clear hz1 hz2 hx1 hx2 hcells cells
  refine done_ (by kernel_rfl) ?_
  have HO3 := aK (HO.out.store (i := i) hlt (s := x.f0) (by rw [HX.out]) pu HL5.out HF5.out)
  have HB3 := aK (show Below base w ((w5.setCell ⟨g, i * 3 + 1, none⟩ (.int .i64 pu)).setCell ⟨g, i * 3 + 2, none⟩ (.slice A5 pe.length c5)) from Below.setCell (Below.setCell (HB.out.mono HBW.out) HG.out _) HG.out _)
  have HK3 := aK (show ∀ k, k < w.heap.size → some k ≠ (Value.slice (some ⟨g, 0, none⟩) l0.length c).ownBlock → ((w5.setCell ⟨g, i * 3 + 1, none⟩ (.int .i64 pu)).setCell ⟨g, i * 3 + 2, none⟩ (.slice A5 pe.length c5)).heap[k]? = w.heap[k]? from fun k hk hne => by
   have hkg : k ≠ g := fun e => hne (by rw [e]; simp [Value.ownBlock])
   exact ((Below.heap_setCell _ _ _ _ hkg).trans (Below.heap_setCell _ _ _ _ hkg)).trans (HB.out.block k hk))
  clear HO HF5 HX1 HX2 HCE HGL BK
  go_wp2_with fail
  go_ret
  have hv4 := HO3.out
  rw [HRR.out] at hv4
  have hl4 := congrArg List.length HRR.out
  rw [List.length_set] at hl4
  exact ⟨_, _, rfl, hv4, HB3.out, Or.inl rfl, HK3.out⟩
 ·have hh := HH.out
  rw [if_neg hB] at hh
  have HRES := aK (sI hh)
  have hB' : mB l0 a1 = false := by simpa using hB
  rw [hB']
  clear hh HH hB hB'
  have HLE := aK (mN_le l0 a1)
  generalize mN l0 a1 = i at *
  have hq0 : w3.cell? ⟨w.heap.size, 0, none⟩ = some (.int .i64 u) := (bC BK.out 0).trans rfl
  have hq1 : w3.cell? ⟨w.heap.size, 1, none⟩ = some (.slice A2 e2.length c2) := (bC BK.out 1).trans rfl
  go_wp2_with fail
  refine (mats_insertk _ base (fun k => some k = (Value.slice A l0.length c).ownBlock ∨ w3.heap.size ≤ k) (fun _ => False) (.slice A l0.length c) rs i ⟨a1, u, A2, e2.length, c2⟩ [.string a1, .int .i64 u, .slice A2 e2.length c2] w3.heap.size _ (Kd.R_below (Kd.R_reok rfl HO.out.1 (fun k hk => Or.inl hk.symm)) (bA (Below.refl _ _) _)) (by have := HLE.out; have := HRL.out; omega) ?_ (fun k hk => Or.inr (by simp at hk; omega)) (kRW_mkM _ _ _ ⟨a1, u, A2, e2.length, c2⟩) (fun _ h => h.elim) (blk_new w3 _) ?_ (by have := HL.out; have := HRL.out; omega)).mono ?_
  ·exact Nat.le_trans (Nat.le_trans HBW.out (below_size HB.out)) (by simp)
  ·intro e; have := Kd.R_lt HO.out.1 _ e.symm; omega
  rintro e w5 ⟨v5, rfl, hR5, hB5, hK5⟩
  have hI5 : INs (Kd.int .i64) S72.f0 (fun x => x.f1.f0) (fun x => x.f1.f1) w5 (fun k => (some k ≠ (Value.slice A l0.length c).ownBlock ∧ base ≤ k) ∧ k < w3.heap.size) (rs.take i ++ ⟨a1, u, A2, e2.length, c2⟩ :: rs.drop i) (l0.take i ++ ⟨a1, ⟨u, e2⟩⟩ :: l0.drop i) := by
   have h1 := INs.step (INs.below (INs.bound HO.out.2) (bA (Below.refl _ _) (.cells #[.string a1, .int .i64 u, .slice A2 e2.length c2] 72))) (fun k hk hlt => hK5 k hlt hk.1.1)
   refine F2.append (F2.take h1 i) ⟨⟨rfl, rfl, rfl, HC2.out, ?_⟩, F2.drop h1 i⟩
   have h2 := Kd.F_mono (Kd.F_bound HFA.out) (ok' := fun k => (some k ≠ (Value.slice A l0.length c).ownBlock ∧ base ≤ k) ∧ k < w3.heap.size) (fun k hk => ⟨⟨hk.1.1.2, hk.1.1.1⟩, hk.2⟩)
   exact Kd.F_step (Kd.F_alloc h2 _) (fun k hk hlt => hK5 k hlt hk.1.1)
  have hown : ∀ k, v5.ownBlock = some k → some k = (Value.slice A l0.length c).ownBlock ∨ w3.heap.size ≤ k := hR5.1
  have HOW := aK (show OWm w5 base v5 (rs.take i ++ ⟨a1, u, A2, e2.length, c2⟩ :: rs.drop i) (l0.take i ++ ⟨a1, ⟨u, e2⟩⟩ :: l0.drop i) from ⟨Kd.R_reok rfl hR5 (fun _ _ => trivial), INs.mono hI5 (fun k hk => ⟨fun he => by
   rcases hown k he.symm with h | h
   ·exact hk.1.1 h
   ·have := hk.2; omega, hk.1.2⟩)⟩)
  have HB5 := aK ((HB.out.mono HBW.out).trans ((bA (Below.refl w3.heap.size w3) (.cells #[.string a1, .int .i64 u, .slice A2 e2.length c2] 72)).mono (Nat.le_trans HBW.out (below_size HB.out)) |>.trans hB5))
  have HNB := aK (show v5.ownBlock = (Value.slice A l0.length c).ownBlock ∨ ∃ b, v5.ownBlock = some b ∧ w.heap.size ≤ b from by
   cases hv : v5.ownBlock with
   | none =>
    obtain ⟨g, cap, e, _⟩ := Kd.R_form hR5 (by simp; omega)
    rw [e] at hv
    simp [Value.ownBlock] at hv
   | some b =>
    rcases hown b hv with h | h
    ·exact Or.inl h
    ·exact Or.inr ⟨b, rfl, Nat.le_trans (below_size HB.out) h⟩)
  have HK := aK (show ∀ k, k < w.heap.size → some k ≠ (Value.slice A l0.length c).ownBlock → w5.heap[k]? = w.heap[k]? from fun k hk hne => by
   have h3 := HB.out.block k hk
   have hlt : k < w3.heap.size := Nat.lt_of_lt_of_le hk (below_size HB.out)
   exact ((hK5 k (by simp; omega) hne).trans (Below.heap_alloc _ _ _ hlt)).trans h3)
  clear hR5 hI5 hB5 hK5 hown hq0 hq1
  generalize (rs.take i ++ (⟨a1, u, A2, e2.length, c2⟩ : RW) :: rs.drop i) = RS at HOW
  go_wp2_with fail
  go_ret
  exact ⟨_, _, rfl, by rw [← HRES.out]; exact HOW.out, HB5.out, HNB.out, HK.out⟩
theorem zq66_0 {p_ : Prop} (h_ : p_ := by repeat (first | (with_reducible first | exact HB.out | apply bA | apply pB | apply bW | refine below_set ?_ GE316.out | refine below_set ?_ GE317.out) | exact HB.out)) : p_ := h_
theorem zq66_1 {p_ : Prop} (h_ : p_ := by repeat (first | (with_reducible first | exact HB.out | apply bA | apply pB | apply bW | refine below_set ?_ GE316.out) | exact HB.out)) : p_ := h_
theorem zq66_2 {p_ : Prop} (h_ : p_ := by repeat (first | (with_reducible first | exact HB.out | apply bA | apply pB | apply bW) | exact HB.out)) : p_ := h_
theorem zq66_3 {p_ : Prop} (h_ : p_ := by (with_reducible repeat (first | refine blk_drewN ?_ _ | refine blk_drew ?_ | refine blk_alloc ?_ _)); exact BK316.out) : p_ := h_
theorem zq66_4 {p_ : Prop} (h_ : p_ := by (with_reducible repeat (first | refine blk_drewN ?_ _ | refine blk_drew ?_ | refine blk_alloc ?_ _)); exact BK317.out) : p_ := h_
def span_Add.j0 : Nat → Int → Bool → Int → List Int → Option (Int × List Int)
 | 0, _, _, _, _ => none
 | k + 1, x1, x10, x317000, x317001 => if x10 = true then ((slices_Clone_int_int.f x317001).bind fun t318 => (some (x317000, t318))) else ((span_Union.f k x317000 x317001 0 (([x1] : List Int))).bind fun bt324 => (some (bt324.1, bt324.2)))
def span_Add.f (k : Nat) (a0_0 : Int) (l0_1 : List Int) (a1 : Int) : Option (Int × List Int) := if a1 < 1 then (span_Add.j0 k a1 true a0_0 l0_1) else (span_Add.j0 k a1 (decide (a1 > 1048576)) a0_0 l0_1)
theorem span_Add.mono_l : ∀ k, (∀ y0 y1 y2 y3, LeO (span_Add.j0 k y0 y1 y2 y3) (span_Add.j0 (k + 1) y0 y1 y2 y3))
 | 0 => fun _ _ _ _ r h => by simp [span_Add.j0] at h
 | k + 1 => by
  have ih0 := span_Add.mono_l k
  ·intro y0 y1 y2 y3
   unfold span_Add.j0
   repeat' first
   | (with_reducible exact ih0 _ _ _ _)
   | (with_reducible exact span_Union.mono _ _ _ _ _)
   | (with_reducible exact LeO.refl _)
   | (with_reducible exact LeO.none _)
   | (with_reducible refine LeO.ite ?_ ?_)
   | (with_reducible refine LeO.bind ?_ (fun _ => ?_))
   | exact ih0 _ _ _ _
   | exact span_Union.mono _ _ _ _ _
   | exact LeO.none _
   | refine LeO.ite ?_ ?_
   | refine LeO.bind ?_ (fun _ => ?_)
theorem span_Add.mono : ∀ a0 a1 a2 k, LeO (span_Add.f k a0 a1 a2) (span_Add.f (k + 1) a0 a1 a2) := by
 intro a0 a1 a2 k
 have ih0 := span_Add.mono_l k
 unfold span_Add.f
 repeat' first
   | (with_reducible exact ih0 _ _ _ _)
   | (with_reducible exact span_Union.mono _ _ _ _ _)
   | (with_reducible exact LeO.refl _)
   | (with_reducible exact LeO.none _)
   | (with_reducible refine LeO.ite ?_ ?_)
   | (with_reducible refine LeO.bind ?_ (fun _ => ?_))
   | exact ih0 _ _ _ _
   | exact span_Union.mono _ _ _ _ _
   | exact LeO.none _
   | refine LeO.ite ?_ ?_
   | refine LeO.bind ?_ (fun _ => ?_)
theorem span_Add.calls (k : Nat) (a0_0 : Int) (A0_1 : Option Addr) (c0_1 : Nat) (l0_1 : List Int) (a1 : Int) (r1 : Int) (r2 : List Int) (w : World) (hr0_1 : Kd.C (Kd.int .i64) w A0_1 l0_1.length l0_1) (hc0_1 : l0_1.length ≤ c0_1) (h : span_Add.f k a0_0 l0_1 a1 = some (r1, r2)) :
  Calls Tryz.prog 66 #[.agg #[.int .i64 a0_0, .slice A0_1 l0_1.length c0_1], .int .i64 a1] w fun e w' => ∃ v1_ : Value, e = .returned (.agg #[.int .i64 r1, v1_]) ∧ Kd.R (Kd.int .i64) 3 w' w.heap.size (fun _ => True) v1_ r2 ∧ Below w.heap.size w w' := by
 have hu69 := Tryz.underlying69
 have HR0_1 := aK hr0_1
 have HC0_1 := aK hc0_1
 clear hr0_1 hc0_1
 have HB := aK (Below.refl w.heap.size w)
 have H : (if a1 < 1 then (span_Add.j0 k a1 true a0_0 l0_1) else (span_Add.j0 k a1 (decide (a1 > 1048576)) a0_0 l0_1)) = some (r1, r2) := h
 clear h
 have HC3 := aK H
 clear H
 go_enter Tryz.func66, Tryz.ntmps66
 go_upto_region 1 with (first | ((with_reducible refine gate_dst (N := 2) rfl ?_); refine box_event ?hg (N := 2) ?hd (cs := #[.int .i64 a0_0, .slice A0_1 l0_1.length c0_1]) (t := 69) ?hr ?_; (case hd => rfl); (case hg => rfl); (case hr => first | (go_simp; done) | (go_simp; rfl)); intro gb316 hg w4 hbox hb; have BK316 := aK (hbox); have GW316 := aK (((by rw [hg]; exact (below_size zq66_2)) : w.heap.size ≤ gb316)); have GE316 := aK (((by rw [hg]; exact (below_size zq66_2)) : w.heap.size ≤ gb316)); replace HB := aK (bS zq66_2 hb); clear hb hbox hg) | ((with_reducible refine gate_dst (N := 4) rfl ?_); refine box_event ?hg (N := 4) ?hd (cs := #[.int .i64 0, .slice none 0 0]) (t := 69) ?hr ?_; (case hd => rfl); (case hg => rfl); (case hr => first | (go_simp; done) | (go_simp; rfl)); intro gb317 hg w5 hbox hb; have BK317 := aK (hbox); have GW317 := aK (((by rw [hg]; exact (below_size zq66_1)) : w.heap.size ≤ gb317)); have GE317 := aK (((by rw [hg]; exact (below_size zq66_1)) : w.heap.size ≤ gb317)); replace HB := aK (bS zq66_1 hb); have NB316_317 := aK (((by rw [hg]; exact Nat.ne_of_lt (blk_lt (g := gb316) (o := .cells #[.int .i64 a0_0, .slice A0_1 l0_1.length c0_1] 69 (0, 0)) zq66_3)) : gb316 ≠ gb317)); have NB317_316 := aK (((by rw [hg]; exact Nat.ne_of_gt (blk_lt (g := gb316) (o := .cells #[.int .i64 a0_0, .slice A0_1 l0_1.length c0_1] 69 (0, 0)) zq66_3)) : gb317 ≠ gb316)); replace BK316 := aK (bB (g := gb316) (o := .cells #[.int .i64 a0_0, .slice A0_1 l0_1.length c0_1] 69 (0, 0)) zq66_3 hb); clear hb hbox hg))
 (try simp only [Act.put, lA, lB, lC])
 go_cut [10] (fun v10 wc => ∃ (kq : Nat) (x10_2 : Bool), v10 = .bool x10_2 ∧ Aside0 (span_Add.j0 kq a1 x10_2 a0_0 l0_1 = some (r1, r2)) ∧ Aside0 (kq ≤ k) ∧ Aside0 (wc.heap[gb316]? = some (.cells #[.int .i64 a0_0, (.slice A0_1 l0_1.length c0_1)] 69 (0, 0))) ∧ Aside0 (wc.heap[gb317]? = some (.cells #[.int .i64 0, (.slice none 0 0)] 69 (0, 0))) ∧ Aside0 (Below w.heap.size w wc))
 case first =>
  have H := HC3.out
  clear HC3
  by_cases c6 : a1 < 1
  ·rw [if_pos c6] at H
   have c6b0 : decide (a1 < 1) = true := dT c6
   clear c6
   (first | rw [c6b0] | (simp only [i64_w, i32_w]; rw [c6b0]) | skip)
   have H' := aK H
   clear H
   go_wp2
   go_meet
   case rel => exact ⟨_, (true), (by first | rfl | (simp; done) | (simp [*]; done)), H', ⟨by first | omega | exact Nat.le_refl _⟩, ⟨by (with_reducible repeat (first | refine blk_drewN ?_ _ | refine blk_drew ?_ | refine blk_alloc ?_ _)); exact BK316.out⟩, ⟨by (with_reducible repeat (first | refine blk_drewN ?_ _ | refine blk_drew ?_ | refine blk_alloc ?_ _)); exact BK317.out⟩, ⟨by repeat (first | (with_reducible first | exact HB.out | apply bA | apply pB | apply bW | refine below_set ?_ GE316.out | refine below_set ?_ GE317.out) | exact HB.out)⟩⟩
  ·rw [if_neg c6] at H
   have c6b0 : decide (a1 < 1) = false := decide_eq_false c6
   clear c6
   (first | rw [c6b0] | (simp only [i64_w, i32_w]; rw [c6b0]) | skip)
   have H' := aK H
   clear H
   go_wp2
   go_meet
   case rel => exact ⟨_, (decide (a1 > 1048576)), (by first | rfl | (simp; done) | (simp [*]; done)), H', ⟨by first | omega | exact Nat.le_refl _⟩, ⟨by (with_reducible repeat (first | refine blk_drewN ?_ _ | refine blk_drew ?_ | refine blk_alloc ?_ _)); exact BK316.out⟩, ⟨by (with_reducible repeat (first | refine blk_drewN ?_ _ | refine blk_drew ?_ | refine blk_alloc ?_ _)); exact BK317.out⟩, ⟨by repeat (first | (with_reducible first | exact HB.out | apply bA | apply pB | apply bW | refine below_set ?_ GE316.out | refine below_set ?_ GE317.out) | exact HB.out)⟩⟩
 case rest =>
  clear HC3
  try clear p2
  try clear c6
  try clear c6b0
  obtain ⟨kq, x10_2, rfl, HA, HJ2, BK316, BK317, HB⟩ := hcut
  cases kq with
  | zero => exact absurd HA.out (by simp [span_Add.j0])
  | succ kj2 =>
   have H := HA.out
   clear HA
   simp only [span_Add.j0] at H
   by_cases c7 : x10_2 = true
   ·subst c7
    have H1 : ((slices_Clone_int_int.f l0_1).bind fun t318 => (some (a0_0, t318))) = some (r1, r2) := by rw [if_pos rfl] at H; exact H
    clear H
    have H := H1
    clear H1
    replace H := bM H
    obtain ⟨t318, A80, H⟩ := H
    replace H : (some (a0_0, t318)) = some (r1, r2) := H
    have A8 := aK A80
    clear A80
    simp only [Option.some.injEq, Prod.mk.injEq] at H
    obtain ⟨rfl, rfl⟩ := H
    try go_wp2
    replace BK316 := aK (blk_drew BK316.out)
    replace BK317 := aK (blk_drew BK317.out)
    replace HB := aK (bW HB.out)
    refine start_ (n := 7) (S := fun w' => w'.cell? ⟨gb316, 0, none⟩ = some (.int .i64 a0_0) ∧ w'.cell? ⟨gb316, 1, none⟩ = some (.slice A0_1 l0_1.length c0_1)) (ds := []) #[false, false, false, false, false, false, false] (by kernel_rfl) rfl rfl ⟨(bC BK316.out 0).trans rfl, (bC BK316.out 1).trans rfl⟩ (fun hHeld => ?_)
    generalize wc.drew = w9 at BK316 BK317 HB hHeld ⊢
    refine p_ 0 11 (mk_ 7 0x1) ?_
    refine p_ 2 13 (mk_ 7 0x5) ?_
    refine t_ 1 12 (mk_ 7 0x7) hHeld ?_
    refine t_ 3 14 (mk_ 7 0xf) hHeld ?_
    refine one_ (i := 4) (N := some 15) #[true, true, true, true, true, false, false] rfl rfl (by kernel_rfl) (by decide) (fun K hK => ?_)
    refine goes_ Tryz.func71 (by kernel_rfl) rfl #[.slice A0_1 l0_1.length c0_1] (by rfl) rfl rfl (by (try simp only [List.map_toArray, List.map_cons, List.map_nil]); first | done | rfl | (simp only [List.length_drop, List.length_take]; rfl)) ?_
    with_reducible refine (slices_Clone_int_int.calls _ _ l0_1 t318 _ ?side1 ?side2 A8.out).mono ?_
    (case side1 => repeat (first | exact (cB HR0_1.out HB.out) | (with_reducible refine Kd.C_alloc ?_ _) | (with_reducible refine Kd.C_drewN ?_ _) | (with_reducible refine Kd.C_drew ?_)))
    (case side2 => exact HC0_1.out)
    rintro e w10 ⟨v319, rfl, ho0, hb⟩
    refine ⟨_, rfl, ?_⟩
    have HO320 := aK (Kd.R_lower ho0 (below_size zq66_0))
    replace BK316 := aK (bB (g := gb316) (o := .cells #[.int .i64 a0_0, .slice A0_1 l0_1.length c0_1] 69 (0, 0)) zq66_3 hb)
    replace BK317 := aK (bB (g := gb317) (o := .cells #[.int .i64 0, .slice none 0 0] 69 (0, 0)) zq66_4 hb)
    replace HB := aK (bS zq66_0 hb)
    (try clear hb)
    (try clear hb2)
    (try clear hk)
    (try clear hi)
    (try clear ho0)
    obtain ⟨Ao11, co11, eo11⟩ := Kd.R_slice HO320.out
    (first | subst eo11 | (injection eo11 with f1_ f2_ f3_; have f4_ := f1_.symm; have f5_ := f3_.symm; clear f1_ f2_ f3_; subst f4_; subst f5_))
    refine hK.out _ _ ⟨(bC BK316.out 0).trans rfl, (bC BK316.out 1).trans rfl⟩ (fun hHeld => ?_)
    clear hK K
    refine norm_ (a' := ?_) ?_ ?_
    rotate_left
    ·show Act.put _ (some 15) _ = _
     simp only [Act.put, lA, lB, lC, i64_w, i32_w]
     rfl
    refine p_ 5 16 (mk_ 7 0x3f) ?_
    refine one_ (i := 6) (N := none) #[true, true, true, true, true, true, true] rfl rfl (by kernel_rfl) (by decide) (fun K hK => ?_)
    have hs12 : w10.cell? ⟨gb317, 0, none⟩ = some (.int .i64 0) := (bC BK317.out 0).trans rfl
    have hfs12 := bF_ BK317.out 0
    have hns12_0 := NB316_317.out
    have hms12_0 := NB317_316.out
    have hs13 : w10.cell? ⟨gb317, 1, none⟩ = some (.slice none 0 0) := (bC BK317.out 1).trans rfl
    have hfs13 := bF_ BK317.out 1
    have hns13_0 := NB316_317.out
    have hms13_0 := NB317_316.out
    refine skip_ (w1 := ?_) (by rfl) rfl ?_ ?_
    rotate_left
    ·go_simp
     rfl
    refine hK.out _ _ ⟨((cell_far (p := ⟨gb317, _, none⟩) NB316_317.out _).trans (((cell_far (p := ⟨gb317, _, none⟩) NB316_317.out _).trans (hHeld.1)))), ((cell_far (p := ⟨gb317, _, none⟩) NB316_317.out _).trans (((cell_far (p := ⟨gb317, _, none⟩) NB316_317.out _).trans (hHeld.2))))⟩ (fun hHeld => ?_)
    clear hK K
    refine done_ (by kernel_rfl) ?_
    try go_wp2
    refine bodyPost_ret (results_cell_row rfl _ _ gb317 69 #[.int .i64 a0_0, .slice Ao11 t318.length co11] (0, 0) _ rfl (by (with_reducible repeat (first | refine blk_drewN ?_ _ | refine blk_drew ?_ | refine blk_alloc ?_ _)); refine blk_put (cs := #[.int .i64 a0_0, .slice none 0 0]) ?_ 1 _ rfl; (with_reducible repeat (first | refine blk_drewN ?_ _ | refine blk_drew ?_ | refine blk_alloc ?_ _)); refine blk_put (cs := #[.int .i64 0, .slice none 0 0]) ?_ 0 _ rfl; (with_reducible repeat (first | refine blk_drewN ?_ _ | refine blk_drew ?_ | refine blk_alloc ?_ _)); exact BK317.out) Tryz.underlying69 rfl (by kernel_rfl)) rfl ?_
    exact ⟨_, by first | rfl | (simp [errW_none, errW_some] <;> rfl) | (simp [*, errW_none, errW_some] <;> rfl), by (with_reducible repeat (first | apply Kd.R_alloc | apply Kd.R_drewN | apply Kd.R_drew)); exact Kd.R_mono (Kd.R_far (p := ⟨gb317, 1, none⟩) (Kd.R_far (p := ⟨gb317, 0, none⟩) (Kd.R_types HO320.out BK317.out (by decide)) (fun _ hk => hk.2) (.int .i64 a0_0)) (fun _ hk => hk.2) (.slice Ao11 t318.length co11)) (fun _ hk => trivial), by repeat (first | (with_reducible first | exact HB.out | apply bA | apply pB | apply bW | refine below_set ?_ GE316.out | refine below_set ?_ GE317.out) | exact HB.out)⟩
   ·replace c7 := Bool.eq_false_iff.mpr c7
    subst c7
    have H1 : ((span_Union.f kj2 a0_0 l0_1 0 (([a1] : List Int))).bind fun bt324 => (some (bt324.1, bt324.2))) = some (r1, r2) := by rw [if_neg (show ¬ (false = true) by decide)] at H; exact H
    clear H
    have H := H1
    clear H1
    obtain ⟨y321, hy321⟩ : ∃ y_ : List Int, y_ = (([a1] : List Int)) := ⟨_, rfl⟩
    replace H : ((span_Union.f kj2 a0_0 l0_1 0 y321).bind fun bt324 => (some (bt324.1, bt324.2))) = some (r1, r2) := by first | (rw [hy321]; with_reducible exact H) | (have H2_ := (Option.bind_some _ _).symm.trans H; rw [hy321]; with_reducible exact H2_) | (have H2_ := (Option.bind_some _ _).symm.trans H; with_reducible exact H2_) | with_reducible exact H | (rw [hy321]; exact H) | exact H
    have Ny321 := aK hy321
    clear hy321
    replace H := bM H
    obtain ⟨⟨t324, t325⟩, A140, H⟩ := H
    replace H : (some (t324, t325)) = some (r1, r2) := H
    have A14 := aK A140
    clear A140
    simp only [Option.some.injEq, Prod.mk.injEq] at H
    obtain ⟨rfl, rfl⟩ := H
    have hnb15 := NB316_317.out
    have hnc15 := NB317_316.out
    have hcz16_0 : wc.cell? ⟨gb316, 0, none⟩ = some (.int .i64 a0_0) := (bC BK316.out 0).trans rfl
    have hcz16_1 : wc.cell? ⟨gb316, 1, none⟩ = some (.slice A0_1 l0_1.length c0_1) := (bC BK316.out 1).trans rfl
    have hfz16_0 := bF_ BK316.out 0
    have hfz16_1 := bF_ BK316.out 1
    go_wp2_with (first | ((with_reducible refine gate_dst (N := 19) rfl ?_); refine Kd.R_lit (Kd.int .i64) _ 3 ?hg (N := 19) ?hd (xs := ([a1] : List Int)) (inner := [.int .i64 a1]) (ok := fun _ => True) (okp := fun _ => True) ?hr ?hp (fun _ hk => hk) trivial (Below.refl _ _) (Nat.le_refl _) (by simp) ?_; (case hd => rfl); (case hg => rfl); (case hr => first | (go_simp; done) | (go_simp; rfl)); (case hp => exact (Reps.one (show Kd.M (Kd.int .i64) _ _ _ a1 [.int .i64 a1] from rfl) (Reps.none _ _))); intro v322 w17 ho18 hb hg_ hnew_; clear hg_ hnew_; (first | rw [← Ny321.out] at ho18 | (simp only [Int.reduceToNat] at ho18; rw [← Ny321.out] at ho18)); have HO323 := aK (Kd.R_lower ho18 (below_size zq66_0)); replace BK316 := aK (bB (g := gb316) (o := .cells #[.int .i64 a0_0, .slice A0_1 l0_1.length c0_1] 69 (0, 0)) zq66_3 hb); replace BK317 := aK (bB (g := gb317) (o := .cells #[.int .i64 0, .slice none 0 0] 69 (0, 0)) zq66_4 hb); replace HB := aK (bS zq66_0 hb); clear hb ho18; obtain ⟨Ao19, co19, eo19⟩ := Kd.R_slice HO323.out; subst eo19) | ((with_reducible refine gate_callee (f := 74) rfl ?_); refine goesL_ (some 21) rfl rfl Tryz.func74 (by kernel_rfl) rfl #[.agg #[.int .i64 a0_0, .slice A0_1 l0_1.length c0_1], .agg #[.int .i64 0, .slice Ao19 y321.length co19]] rfl (by (try simp only [List.map_toArray, List.map_cons, List.map_nil]); first | done | rfl | (simp only [List.length_drop, List.length_take]; rfl)) ?_; (with_reducible refine (span_Union.calls kj2 a0_0 _ _ l0_1 0 _ _ y321 t324 t325 _ ?side1 ?side2 ?side3 ?side4 A14.out).mono ?_); (case side1 => repeat (first | exact (cB HR0_1.out HB.out) | (with_reducible refine Kd.C_alloc ?_ _) | (with_reducible refine Kd.C_drewN ?_ _) | (with_reducible refine Kd.C_drew ?_))); (case side2 => exact HC0_1.out); (case side3 => repeat (first | exact (Kd.R_reads' HO323.out).2.2 | (with_reducible refine Kd.C_alloc ?_ _) | (with_reducible refine Kd.C_drewN ?_ _) | (with_reducible refine Kd.C_drew ?_))); (case side4 => exact (Kd.R_reads' HO323.out).2.1); rintro e w20 ⟨v326, rfl, ho0, hb⟩; refine ⟨_, rfl, ?_⟩; have HO327 := aK (Kd.R_lower (Kd.R_new' ho0 (Kd.R_lt (by (with_reducible repeat (first | apply Kd.R_alloc | apply Kd.R_drewN | apply Kd.R_drew)); exact HO323.out))) (below_size zq66_0)); replace HO323 := aK (Kd.R_elder' (by (with_reducible repeat (first | apply Kd.R_alloc | apply Kd.R_drewN | apply Kd.R_drew)); exact HO323.out) (Kd.R_base ho0) hb); replace BK316 := aK (bB (g := gb316) (o := .cells #[.int .i64 a0_0, .slice A0_1 l0_1.length c0_1] 69 (0, 0)) zq66_3 hb); replace BK317 := aK (bB (g := gb317) (o := .cells #[.int .i64 0, .slice none 0 0] 69 (0, 0)) zq66_4 hb); replace HB := aK (bS zq66_0 hb); (try clear hb); (try clear hb2); (try clear hk); (try clear hi); (try clear ho0); have hcz21_0 : w20.cell? ⟨gb317, 0, none⟩ = some (.int .i64 0) := (bC BK317.out 0).trans rfl; have hcz21_1 : w20.cell? ⟨gb317, 1, none⟩ = some (.slice none 0 0) := (bC BK317.out 1).trans rfl; have hfz21_0 := bF_ BK317.out 0; have hfz21_1 := bF_ BK317.out 1; obtain ⟨Ao22, co22, eo22⟩ := Kd.R_slice HO327.out; subst eo22))
    refine bodyPost_ret (results_cell_row rfl _ _ gb317 69 #[.int .i64 t324, .slice Ao22 t325.length co22] (0, 0) _ rfl (by (with_reducible repeat (first | refine blk_drewN ?_ _ | refine blk_drew ?_ | refine blk_alloc ?_ _)); refine blk_put (cs := #[.int .i64 t324, .slice none 0 0]) ?_ 1 _ rfl; (with_reducible repeat (first | refine blk_drewN ?_ _ | refine blk_drew ?_ | refine blk_alloc ?_ _)); refine blk_put (cs := #[.int .i64 0, .slice none 0 0]) ?_ 0 _ rfl; (with_reducible repeat (first | refine blk_drewN ?_ _ | refine blk_drew ?_ | refine blk_alloc ?_ _)); exact BK317.out) Tryz.underlying69 rfl (by kernel_rfl)) rfl ?_
    exact ⟨_, by first | rfl | (simp [errW_none, errW_some] <;> rfl) | (simp [*, errW_none, errW_some] <;> rfl), by (with_reducible repeat (first | apply Kd.R_alloc | apply Kd.R_drewN | apply Kd.R_drew)); exact Kd.R_mono (Kd.R_far (p := ⟨gb317, 1, none⟩) (Kd.R_far (p := ⟨gb317, 0, none⟩) (Kd.R_types HO327.out BK317.out (by decide)) (fun _ hk => hk.2) (.int .i64 t324)) (fun _ hk => hk.2) (.slice Ao22 t325.length co22)) (fun _ hk => trivial), by repeat (first | (with_reducible first | exact HB.out | apply bA | apply pB | apply bW | refine below_set ?_ GE316.out | refine below_set ?_ GE317.out) | exact HB.out)⟩
instance (l : List S72) : Decidable (okM l) := by unfold okM; infer_instance
def know_Add.f (k : Nat) (l0 : List S72) (a1 : ByteArray) (a2 : Int) : Option (List S72) := if okM l0 then (if rightB a1 = true then (span_Add.f k 0 [] a2).bind fun p => withK k l0 a1 p.1 p.2 else some l0) else none
theorem know_Add.mono : ∀ a0 a1 a2 k, LeO (know_Add.f k a0 a1 a2) (know_Add.f (k + 1) a0 a1 a2) := by
 intro a0 a1 a2 k
 unfold know_Add.f
 exact LeO.ite (LeO.ite (LeO.bind (span_Add.mono _ _ _ _) (fun _ => withK_mono _ _ _ _ _)) (LeO.refl _)) (LeO.refl _)
theorem know_Add.calls (k : Nat) (A0 : Option Addr) (c0 : Nat) (l0 : List S72) (a1 : ByteArray) (a2 : Int) (r : List S72) (w : World) (hr0 : Kd.C k72 w A0 l0.length l0) (hc0 : l0.length ≤ c0) (h : know_Add.f k l0 a1 a2 = some r) :
  Calls Tryz.prog 38 #[.slice A0 l0.length c0, .string a1, .int .i64 a2] w fun e w' => ∃ v0_ : Value, e = .returned (v0_) ∧ Kd.V k72 72 w' w.heap.size (fun k_ => w.heap.size ≤ k_) v0_ r ∧ Below w.heap.size w w' := by
 unfold know_Add.f at h
 by_cases hok : okM l0
 rotate_left
 ·rw [if_neg hok] at h; cases h
 rw [if_pos hok] at h
 have HCP := aK (fun W (hW : Below w.heap.size w W) => know_copied.own A0 c0 l0 W (cB hr0 hW) hc0 hok)
 have HB := aK (Below.refl w.heap.size w)
 have HL := aK hok.1
 clear hr0 hc0 hok
 by_cases hR : rightB a1 = true
 ·rw [if_pos hR] at h
  obtain ⟨p, hp, h⟩ := bM h
  obtain ⟨u, e2⟩ := p
  have HP := aK hp
  have H := aK h
  clear hp h
  go_enter Tryz.func38, Tryz.ntmps38
  go_wp2_with fail
  refine (id_Right.calls a1 true w (by rw [← hR]; rfl)).mono ?_
  rintro e w1 ⟨rfl, hb⟩
  replace HB := aK (bS HB.out hb)
  clear hb hR
  go_wp2_with fail
  refine (HCP.out w1 HB.out).mono ?_
  rintro e w2 ⟨v, rs, rfl, hO, hb⟩
  have HO := aK (hO.lower (below_size HB.out))
  replace HB := aK (bS HB.out hb)
  have HVL := aK (Kd.R_lt hO.1)
  clear hO hb HCP
  go_wp2_with fail
  refine (span_Add.calls k 0 none 0 [] a2 u e2 w2 (Kd.C_nil _ _) (Nat.le_refl _) HP.out).mono ?_
  rintro e w3 ⟨v2, rfl, ho2, hb⟩
  obtain ⟨A2, c2, rfl⟩ := Kd.R_slice ho2
  have HF := aK (Kd.F_mono (Kd.R_F (Kd.R_bound ho2)) (ok' := fun k => w.heap.size ≤ k ∧ some k ≠ v.ownBlock) (fun k hk => ⟨Nat.le_trans (below_size HB.out) hk.2.1, fun e => by have := HVL.out k e.symm; have := hk.2.1; omega⟩))
  have HC2 := aK (Kd.R_reads' ho2).2.1
  replace HO := aK (HO.out.below hb)
  replace HB := aK (bS HB.out hb)
  clear ho2 hb HVL
  go_wp2_with fail
  refine (know_with.own k v rs l0 a1 u A2 c2 e2 r w.heap.size w3 HO.out (below_size HB.out) HL.out HF.out HC2.out H.out).mono ?_
  rintro e w4 ⟨v4, rs4, rfl, hO4, hb4, -, -⟩
  have HV := aK (hO4.view (b := w.heap.size))
  replace HB := aK (HB.out.trans hb4)
  clear hO4 hb4
  go_wp2_with fail
  go_ret
  exact ⟨_, rfl, HV.out, HB.out⟩
 ·rw [if_neg hR] at h
  obtain rfl := sI h
  have hR2 : rightB a1 = false := by simpa using hR
  clear h hR
  go_enter Tryz.func38, Tryz.ntmps38
  go_wp2_with fail
  refine (id_Right.calls a1 false w (by rw [← hR2]; rfl)).mono ?_
  rintro e w1 ⟨rfl, hb⟩
  replace HB := aK (bS HB.out hb)
  clear hb hR2
  go_wp2_with fail
  refine (HCP.out w1 HB.out).mono ?_
  rintro e w2 ⟨v, rs, rfl, hO, hb⟩
  have HV := aK ((hO.lower (below_size HB.out)).view (b := w.heap.size))
  replace HB := aK (bS HB.out hb)
  clear hO hb
  go_wp2_with fail
  go_ret
  exact ⟨_, rfl, HV.out, HB.out⟩
def cmp_isNaN_int.f (a0 : Int) : Option (Bool) := some (a0 != a0)
theorem cmp_isNaN_int.calls (a0 : Int) (r : Bool) (w : World) (h : cmp_isNaN_int.f a0 = some r) :
  Calls Tryz.prog 102 #[.int .i64 a0] w fun e w' => e = .returned (.bool r) ∧ Drawn0 w w' := by
 have H : (some (a0 != a0)) = some r := h
 clear h
 obtain rfl := sI H
 go_enter Tryz.func102, Tryz.ntmps102
 go_wp2
 go_ret
 exact ⟨by first | rfl | (simp; done) | (simp [*]; done), by repeat (first | exact Drawn0.refl _ | apply Drawn0.step)⟩
def cmp_Less_int.f (a0 : Int) (a1 : Int) : Option (Bool) := (cmp_isNaN_int.f a0).bind fun t328 => (if t328 = true then ((cmp_isNaN_int.f a1).bind fun t329 => (if t329 = true then (some (decide (a0 < a1))) else (some true))) else (some (decide (a0 < a1))))
theorem cmp_Less_int.calls (a0 : Int) (a1 : Int) (r : Bool) (w : World) (h : cmp_Less_int.f a0 a1 = some r) :
  Calls Tryz.prog 94 #[.int .i64 a0, .int .i64 a1] w fun e w' => e = .returned (.bool r) ∧ Drawn0 w w' := by
 have H := h
 unfold cmp_Less_int.f at H
 clear h
 replace H := bM H
 obtain ⟨t328, A30, H⟩ := H
 have A3 := aK A30
 clear A30
 by_cases c4 : t328 = true
 ·subst c4
  have H1 : ((cmp_isNaN_int.f a1).bind fun t329 => (if t329 = true then (some (decide (a0 < a1))) else (some true))) = some r := by rw [if_pos rfl] at H; exact H
  clear H
  have H := H1
  clear H1
  replace H := bM H
  obtain ⟨t329, A50, H⟩ := H
  have A5 := aK A50
  clear A50
  by_cases c6 : t329 = true
  ·subst c6
   have H1 : (some (decide (a0 < a1))) = some r := by rw [if_pos rfl] at H; exact H
   clear H
   have H := H1
   clear H1
   obtain rfl := sI H
   go_enter Tryz.func94, Tryz.ntmps94
   go_wp2_with (first | ((with_reducible refine gate_callee (f := 102) rfl ?_); refine goesL_ (some 6) rfl rfl Tryz.func102 (by kernel_rfl) rfl #[.int .i64 a0] rfl (by (try simp only [List.map_toArray, List.map_cons, List.map_nil]); first | done | rfl | (simp only [List.length_drop, List.length_take]; rfl)) ?_; (with_reducible refine (cmp_isNaN_int.calls a0 true _ A3.out).mono ?_); rintro e w' ⟨rfl, ⟨nd, rfl⟩⟩; refine ⟨_, rfl, ?_⟩) | (go_at_call 102; (with_reducible refine (cmp_isNaN_int.calls a1 true _ A5.out).mono ?_); rintro e w' ⟨rfl, ⟨nd, rfl⟩⟩))
   go_ret
   exact ⟨by first | rfl | (simp; done) | (simp [*]; done), by repeat (first | exact Drawn0.refl _ | apply Drawn0.step)⟩
  ·replace c6 := Bool.eq_false_iff.mpr c6
   subst c6
   have H1 : (some true) = some r := by rw [if_neg (show ¬ (false = true) by decide)] at H; exact H
   clear H
   have H := H1
   clear H1
   obtain rfl := sI H
   go_enter Tryz.func94, Tryz.ntmps94
   go_wp2_with (first | ((with_reducible refine gate_callee (f := 102) rfl ?_); refine goesL_ (some 6) rfl rfl Tryz.func102 (by kernel_rfl) rfl #[.int .i64 a0] rfl (by (try simp only [List.map_toArray, List.map_cons, List.map_nil]); first | done | rfl | (simp only [List.length_drop, List.length_take]; rfl)) ?_; (with_reducible refine (cmp_isNaN_int.calls a0 true _ A3.out).mono ?_); rintro e w' ⟨rfl, ⟨nd, rfl⟩⟩; refine ⟨_, rfl, ?_⟩) | (go_at_call 102; (with_reducible refine (cmp_isNaN_int.calls a1 false _ A5.out).mono ?_); rintro e w' ⟨rfl, ⟨nd, rfl⟩⟩))
   go_ret
   exact ⟨by first | rfl | (simp; done) | (simp [*]; done), by repeat (first | exact Drawn0.refl _ | apply Drawn0.step)⟩
 ·replace c4 := Bool.eq_false_iff.mpr c4
  subst c4
  have H1 : (some (decide (a0 < a1))) = some r := by rw [if_neg (show ¬ (false = true) by decide)] at H; exact H
  clear H
  have H := H1
  clear H1
  obtain rfl := sI H
  go_enter Tryz.func94, Tryz.ntmps94
  go_wp2_with (first | ((with_reducible refine gate_callee (f := 102) rfl ?_); refine goesL_ (some 6) rfl rfl Tryz.func102 (by kernel_rfl) rfl #[.int .i64 a0] rfl (by (try simp only [List.map_toArray, List.map_cons, List.map_nil]); first | done | rfl | (simp only [List.length_drop, List.length_take]; rfl)) ?_; (with_reducible refine (cmp_isNaN_int.calls a0 false _ A3.out).mono ?_); rintro e w' ⟨rfl, ⟨nd, rfl⟩⟩; refine ⟨_, rfl, ?_⟩))
  go_ret
  exact ⟨by first | rfl | (simp; done) | (simp [*]; done), by repeat (first | exact Drawn0.refl _ | apply Drawn0.step)⟩
def slices_isNaN_int.f (a0 : Int) : Option (Bool) := some (a0 != a0)
theorem slices_isNaN_int.calls (a0 : Int) (r : Bool) (w : World) (h : slices_isNaN_int.f a0 = some r) :
  Calls Tryz.prog 95 #[.int .i64 a0] w fun e w' => e = .returned (.bool r) ∧ Drawn0 w w' := by
 have H : (some (a0 != a0)) = some r := h
 clear h
 obtain rfl := sI H
 go_enter Tryz.func95, Tryz.ntmps95
 go_wp2
 go_ret
 exact ⟨by first | rfl | (simp; done) | (simp [*]; done), by repeat (first | exact Drawn0.refl _ | apply Drawn0.step)⟩
theorem zq84_0 {p_ : Prop} (h_ : p_ := by first | (with_reducible assumption) | assumption) : p_ := h_
theorem zq84_1 {p_ : Prop} (h_ : p_ := by first | rfl | (simp; done) | (simp [*]; done)) : p_ := h_
def slices_BinarySearch_int_int.l0 : Nat → List Int → Int → Int → Int → Int → Option (Int × Bool)
 | 0, _, _, _, _, _ => none
 | k + 1, x0, x1, x6, x7, x8 => if x7 < x8 then (if 0 ≤ (wrap64 ((IntKind.u64.wrap (wrap64 (x7 + x8))) / 2)) then (if (wrap64 ((IntKind.u64.wrap (wrap64 (x7 + x8))) / 2)) < (x0.length : Int) then ((cmp_Less_int.f (rd x0 (wrap64 ((IntKind.u64.wrap (wrap64 (x7 + x8))) / 2))) x1).bind fun t331 => (if t331 = true then (slices_BinarySearch_int_int.l0 k x0 x1 x6 (wrap64 ((wrap64 ((IntKind.u64.wrap (wrap64 (x7 + x8))) / 2)) + 1)) x8) else (slices_BinarySearch_int_int.l0 k x0 x1 x6 x7 (wrap64 ((IntKind.u64.wrap (wrap64 (x7 + x8))) / 2))))) else (none)) else (none)) else (if x7 < x6 then (if 0 ≤ x7 then (if x7 < (x0.length : Int) then (if (rd x0 x7) = x1 then (some (x7, true)) else ((slices_isNaN_int.f (rd x0 x7)).bind fun t334 => (if t334 = true then ((slices_isNaN_int.f x1).bind fun t335 => (some (x7, t335))) else (some (x7, false))))) else (none)) else (none)) else (some (x7, false)))
def slices_BinarySearch_int_int.f (k : Nat) (l0 : List Int) (a1 : Int) : Option (Int × Bool) := slices_BinarySearch_int_int.l0 k l0 a1 (l0.length : Int) 0 (l0.length : Int)
theorem slices_BinarySearch_int_int.mono_l : ∀ k, (∀ y0 y1 y2 y3 y4, LeO (slices_BinarySearch_int_int.l0 k y0 y1 y2 y3 y4) (slices_BinarySearch_int_int.l0 (k + 1) y0 y1 y2 y3 y4))
 | 0 => fun _ _ _ _ _ r h => by simp [slices_BinarySearch_int_int.l0] at h
 | k + 1 => by
  have ih0 := slices_BinarySearch_int_int.mono_l k
  ·intro y0 y1 y2 y3 y4
   unfold slices_BinarySearch_int_int.l0
   repeat' first
   | (with_reducible exact ih0 _ _ _ _ _)
   | (with_reducible exact LeO.refl _)
   | (with_reducible exact LeO.none _)
   | (with_reducible refine LeO.ite ?_ ?_)
   | (with_reducible refine LeO.bind ?_ (fun _ => ?_))
   | exact ih0 _ _ _ _ _
   | exact LeO.none _
   | refine LeO.ite ?_ ?_
   | refine LeO.bind ?_ (fun _ => ?_)
theorem slices_BinarySearch_int_int.mono : ∀ a0 a1 k, LeO (slices_BinarySearch_int_int.f k a0 a1) (slices_BinarySearch_int_int.f (k + 1) a0 a1) := by
 intro a0 a1 k
 have ih0 := slices_BinarySearch_int_int.mono_l k
 unfold slices_BinarySearch_int_int.f
 repeat' first
   | (with_reducible exact ih0 _ _ _ _ _)
   | (with_reducible exact LeO.refl _)
   | (with_reducible exact LeO.none _)
   | (with_reducible refine LeO.ite ?_ ?_)
   | (with_reducible refine LeO.bind ?_ (fun _ => ?_))
   | exact ih0 _ _ _ _ _
   | exact LeO.none _
   | refine LeO.ite ?_ ?_
   | refine LeO.bind ?_ (fun _ => ?_)
theorem slices_BinarySearch_int_int.calls (k : Nat) (A0 : Option Addr) (c0 : Nat) (l0 : List Int) (a1 : Int) (r1 : Int) (r2 : Bool) (w : World) (hr0 : Kd.C (Kd.int .i64) w A0 l0.length l0) (hc0 : l0.length ≤ c0) (h : slices_BinarySearch_int_int.f k l0 a1 = some (r1, r2)) :
  Calls Tryz.prog 84 #[.slice A0 l0.length c0, .int .i64 a1] w fun e w' => e = .returned (.tuple #[.int .i64 r1, .bool r2]) ∧ Drawn0 w w' := by
 have HR0 := aK hr0
 have HC0 := aK hc0
 clear hr0 hc0
 have H : (slices_BinarySearch_int_int.l0 k l0 a1 (l0.length : Int) 0 (l0.length : Int)) = some (r1, r2) := h
 clear h
 have H' := aK H
 clear H
 go_enter Tryz.func84, Tryz.ntmps84
 go_wp2
 go_loopg [7, 8] k (fun kq v7 v8 w' => ∃ (x7_1 : Int) (x8_1 : Int), v7 = .int .i64 x7_1 ∧ v8 = .int .i64 x8_1 ∧ Aside0 (slices_BinarySearch_int_int.l0 kq l0 a1 (l0.length : Int) x7_1 x8_1 = some (r1, r2)) ∧ Aside0 (kq ≤ k) ∧ Drawn0 w w')
 case atStart => exact ⟨(0), ((l0.length : Int)), zq84_1, zq84_1, H', ⟨Nat.le_refl _⟩, by repeat (first | exact Drawn0.refl _ | apply Drawn0.step)⟩
 case round =>
  clear H'
  try clear p2
  obtain ⟨x7_1, x8_1, rfl, rfl, HA, HK1, ⟨m1, rfl⟩⟩ := hrel
  cases gk with
  | zero => exact absurd HA.out (by simp [slices_BinarySearch_int_int.l0])
  | succ k1 =>
   have H := HA.out
   clear HA
   simp only [slices_BinarySearch_int_int.l0] at H
   by_cases c3 : x7_1 < x8_1
   ·rw [if_pos c3] at H
    have c3b0 : decide (x7_1 < x8_1) = true := dT c3
    clear c3
    obtain ⟨ji4, hji4⟩ : ∃ j_ : Int, (wrap64 ((IntKind.u64.wrap (wrap64 (x7_1 + x8_1))) / 2)) = j_ := ⟨_, rfl⟩
    replace H : (if 0 ≤ (ji4) then (if (ji4) < (l0.length : Int) then ((cmp_Less_int.f (rd l0 (ji4)) a1).bind fun t331 => (if t331 = true then (slices_BinarySearch_int_int.l0 k1 l0 a1 (l0.length : Int) (wrap64 ((ji4) + 1)) x8_1) else (slices_BinarySearch_int_int.l0 k1 l0 a1 (l0.length : Int) x7_1 ji4))) else (none)) else (none)) = some (r1, r2) := by first | (rw [hji4] at H; exact H) | (simp only [hji4] at H ⊢; exact H)
    have hji4w : (IntKind.i64.wrap ((IntKind.u64.wrap (wrap64 (x7_1 + x8_1))) / 2)) = ji4 := (i64_w _).trans hji4
    by_cases c5 : 0 ≤ (ji4)
    ·rw [if_pos c5] at H
     have c5b0 : decide (0 ≤ (ji4)) = true := dT c5
     clear c5
     by_cases c6 : (ji4) < (l0.length : Int)
     ·rw [if_pos c6] at H
      have c6b0 : decide ((ji4) < (l0.length : Int)) = true := dT c6
      clear c6
      replace H := bM H
      obtain ⟨t331, A70, H⟩ := H
      replace H : (if t331 = true then (slices_BinarySearch_int_int.l0 k1 l0 a1 (l0.length : Int) (wrap64 ((ji4) + 1)) x8_1) else (slices_BinarySearch_int_int.l0 k1 l0 a1 (l0.length : Int) x7_1 ji4)) = some (r1, r2) := H
      have A7 := aK A70
      clear A70
      by_cases c8 : t331 = true
      ·subst c8
       have H1 : (slices_BinarySearch_int_int.l0 k1 l0 a1 (l0.length : Int) (wrap64 ((ji4) + 1)) x8_1) = some (r1, r2) := by rw [if_pos rfl] at H; exact H
       clear H
       have H := H1
       clear H1
       have H' := aK H
       clear H
       have p330 : 0 ≤ ((ji4) : Int) := oD zq84_0
       have q330 : (ji4) < (l0.length : Int) := oD zq84_0
       obtain ⟨ad330, e330, hx330_0⟩ := Kd.at_int HR0.out (ji4) p330 q330
       cases e330
       replace p330 := eT p330
       replace q330 := eT q330
       go_wp2_with (first | ((with_reducible refine gate_callee (f := 94) rfl ?_); refine goesL_ (some 27) rfl rfl Tryz.func94 (by kernel_rfl) rfl #[.int .i64 (rd l0 (ji4)), .int .i64 a1] rfl (by (try simp only [List.map_toArray, List.map_cons, List.map_nil]); first | done | (simp only [hji4]; rfl) | rfl | (simp only [List.length_drop, List.length_take]; rfl)) ?_; (with_reducible refine (cmp_Less_int.calls (rd l0 (ji4)) a1 true _ A7.out).mono ?_); rintro e w' ⟨rfl, ⟨nd, rfl⟩⟩; refine ⟨_, rfl, ?_⟩))
       go_roundg k1
       case measure => have := HK1.out; omega
       case rel => exact ⟨(wrap64 ((ji4) + 1)), (x8_1), (by first | rfl | (simp; done) | (simp only [← hji4] <;> (first | rfl | simp)) | (simp [*]; done)), zq84_1, H', ⟨by have := HK1.out; omega⟩, by repeat (first | exact Drawn0.refl _ | apply Drawn0.step)⟩
      ·replace c8 := Bool.eq_false_iff.mpr c8
       subst c8
       have H1 : (slices_BinarySearch_int_int.l0 k1 l0 a1 (l0.length : Int) x7_1 ji4) = some (r1, r2) := by rw [if_neg (show ¬ (false = true) by decide)] at H; exact H
       clear H
       have H := H1
       clear H1
       have H' := aK H
       clear H
       have p330 : 0 ≤ ((ji4) : Int) := oD zq84_0
       have q330 : (ji4) < (l0.length : Int) := oD zq84_0
       obtain ⟨ad330, e330, hx330_0⟩ := Kd.at_int HR0.out (ji4) p330 q330
       cases e330
       replace p330 := eT p330
       replace q330 := eT q330
       go_wp2_with (first | ((with_reducible refine gate_callee (f := 94) rfl ?_); refine goesL_ (some 27) rfl rfl Tryz.func94 (by kernel_rfl) rfl #[.int .i64 (rd l0 (ji4)), .int .i64 a1] rfl (by (try simp only [List.map_toArray, List.map_cons, List.map_nil]); first | done | (simp only [hji4]; rfl) | rfl | (simp only [List.length_drop, List.length_take]; rfl)) ?_; (with_reducible refine (cmp_Less_int.calls (rd l0 (ji4)) a1 false _ A7.out).mono ?_); rintro e w' ⟨rfl, ⟨nd, rfl⟩⟩; refine ⟨_, rfl, ?_⟩))
       go_roundg k1
       case measure => have := HK1.out; omega
       case rel => exact ⟨(x7_1), (ji4), zq84_1, (by first | rfl | (simp; done) | (simp only [← hji4] <;> (first | rfl | simp)) | (simp [*]; done)), H', ⟨by have := HK1.out; omega⟩, by repeat (first | exact Drawn0.refl _ | apply Drawn0.step)⟩
     ·rw [if_neg c6] at H
      exact absurd H (by simp)
    ·rw [if_neg c5] at H
     exact absurd H (by simp)
   ·rw [if_neg c3] at H
    have c3b0 : decide (x7_1 < x8_1) = false := decide_eq_false c3
    clear c3
    by_cases c9 : x7_1 < (l0.length : Int)
    ·rw [if_pos c9] at H
     have c9b0 : decide (x7_1 < (l0.length : Int)) = true := dT c9
     clear c9
     by_cases c10 : 0 ≤ x7_1
     ·rw [if_pos c10] at H
      have c10b0 : decide (0 ≤ x7_1) = true := dT c10
      clear c10
      by_cases c11 : x7_1 < (l0.length : Int)
      ·rw [if_pos c11] at H
       have c11b0 : decide (x7_1 < (l0.length : Int)) = true := dT c11
       clear c11
       by_cases c12 : (rd l0 x7_1) = a1
       ·rw [if_pos c12] at H
        have c12b0 : ((rd l0 x7_1) == a1) = true := beq_iff_eq.mpr c12
        have c12b1 : ((rd l0 x7_1) != a1) = false := bne_eq_false_iff_eq.mpr c12
        clear c12
        simp only [Option.some.injEq, Prod.mk.injEq] at H
        obtain ⟨rfl, rfl⟩ := H
        have p332 : 0 ≤ (x7_1 : Int) := oD zq84_0
        have q332 : x7_1 < (l0.length : Int) := oD zq84_0
        obtain ⟨ad332, e332, hx332_0⟩ := Kd.at_int HR0.out x7_1 p332 q332
        cases e332
        replace p332 := eT p332
        replace q332 := eT q332
        go_wp2
        go_ret2
        exact ⟨by first | rfl | (simp; done) | (simp [*]; done), by repeat (first | exact Drawn0.refl _ | apply Drawn0.step)⟩
       ·rw [if_neg c12] at H
        have c12b0 : ((rd l0 x7_1) == a1) = false := beq_eq_false_iff_ne.mpr c12
        have c12b1 : ((rd l0 x7_1) != a1) = true := bne_iff_ne.mpr c12
        replace H := bM H
        obtain ⟨t334, A130, H⟩ := H
        replace H : (if t334 = true then ((slices_isNaN_int.f a1).bind fun t335 => (some (x7_1, t335))) else (some (x7_1, false))) = some (r1, r2) := H
        have A13 := aK A130
        clear A130
        by_cases c14 : t334 = true
        ·subst c14
         have H1 : ((slices_isNaN_int.f a1).bind fun t335 => (some (x7_1, t335))) = some (r1, r2) := by rw [if_pos rfl] at H; exact H
         clear H
         have H := H1
         clear H1
         replace H := bM H
         obtain ⟨t335, A150, H⟩ := H
         replace H : (some (x7_1, t335)) = some (r1, r2) := H
         have A15 := aK A150
         clear A150
         simp only [Option.some.injEq, Prod.mk.injEq] at H
         obtain ⟨rfl, rfl⟩ := H
         have p332 : 0 ≤ (x7_1 : Int) := oD zq84_0
         have q332 : x7_1 < (l0.length : Int) := oD zq84_0
         obtain ⟨ad332, e332, hx332_0⟩ := Kd.at_int HR0.out x7_1 p332 q332
         cases e332
         replace p332 := eT p332
         replace q332 := eT q332
         have p333 : 0 ≤ (x7_1 : Int) := oD zq84_0
         have q333 : x7_1 < (l0.length : Int) := oD zq84_0
         obtain ⟨ad333, e333, hx333_0⟩ := Kd.at_int HR0.out x7_1 p333 q333
         obtain rfl : ad332 = ad333 := (by injection e333)
         replace p333 := eT p333
         replace q333 := eT q333
         go_wp2_with (first | (go_at_call 95; (with_reducible refine (slices_isNaN_int.calls (rd l0 x7_1) true _ A13.out).mono ?_); rintro e w' ⟨rfl, ⟨nd, rfl⟩⟩) | (go_at_call 95; (with_reducible refine (slices_isNaN_int.calls a1 t335 _ A15.out).mono ?_); rintro e w' ⟨rfl, ⟨nd, rfl⟩⟩))
         go_ret2
         exact ⟨by first | rfl | (simp; done) | (simp [*]; done), by repeat (first | exact Drawn0.refl _ | apply Drawn0.step)⟩
        ·replace c14 := Bool.eq_false_iff.mpr c14
         subst c14
         have H1 : (some (x7_1, false)) = some (r1, r2) := by rw [if_neg (show ¬ (false = true) by decide)] at H; exact H
         clear H
         have H := H1
         clear H1
         simp only [Option.some.injEq, Prod.mk.injEq] at H
         obtain ⟨rfl, rfl⟩ := H
         have p332 : 0 ≤ (x7_1 : Int) := oD zq84_0
         have q332 : x7_1 < (l0.length : Int) := oD zq84_0
         obtain ⟨ad332, e332, hx332_0⟩ := Kd.at_int HR0.out x7_1 p332 q332
         cases e332
         replace p332 := eT p332
         replace q332 := eT q332
         have p333 : 0 ≤ (x7_1 : Int) := oD zq84_0
         have q333 : x7_1 < (l0.length : Int) := oD zq84_0
         obtain ⟨ad333, e333, hx333_0⟩ := Kd.at_int HR0.out x7_1 p333 q333
         obtain rfl : ad332 = ad333 := (by injection e333)
         replace p333 := eT p333
         replace q333 := eT q333
         go_wp2_with (first | (go_at_call 95; (with_reducible refine (slices_isNaN_int.calls (rd l0 x7_1) false _ A13.out).mono ?_); rintro e w' ⟨rfl, ⟨nd, rfl⟩⟩))
         go_ret2
         exact ⟨by first | rfl | (simp; done) | (simp [*]; done), by repeat (first | exact Drawn0.refl _ | apply Drawn0.step)⟩
      ·rw [if_neg c11] at H
       exact absurd H (by simp)
     ·rw [if_neg c10] at H
      exact absurd H (by simp)
    ·rw [if_neg c9] at H
     have c9b0 : decide (x7_1 < (l0.length : Int)) = false := decide_eq_false c9
     clear c9
     simp only [Option.some.injEq, Prod.mk.injEq] at H
     obtain ⟨rfl, rfl⟩ := H
     go_wp2
     go_ret2
     exact ⟨by first | rfl | (simp; done) | (simp [*]; done), by repeat (first | exact Drawn0.refl _ | apply Drawn0.step)⟩
theorem zq68_0 {p_ : Prop} (h_ : p_ := by rw [hg]; exact (below_size (by repeat (first | (with_reducible first | exact HB.out | apply bA | apply pB | apply bW) | exact HB.out)))) : p_ := h_
def span_Has.f (k : Nat) (a0_0 : Int) (l0_1 : List Int) (a1 : Int) : Option (Bool) := if a1 ≤ a0_0 then (some (decide (a1 ≥ 1))) else ((slices_BinarySearch_int_int.f k l0_1 a1).bind fun bt337 => (some bt337.2))
theorem span_Has.mono : ∀ a0 a1 a2 k, LeO (span_Has.f k a0 a1 a2) (span_Has.f (k + 1) a0 a1 a2) := by
 intro a0 a1 a2 k
 unfold span_Has.f
 repeat' first
   | (with_reducible exact slices_BinarySearch_int_int.mono _ _ _)
   | (with_reducible exact LeO.refl _)
   | (with_reducible exact LeO.none _)
   | (with_reducible refine LeO.ite ?_ ?_)
   | (with_reducible refine LeO.bind ?_ (fun _ => ?_))
   | exact slices_BinarySearch_int_int.mono _ _ _
   | exact LeO.none _
   | refine LeO.ite ?_ ?_
   | refine LeO.bind ?_ (fun _ => ?_)
theorem span_Has.calls (k : Nat) (a0_0 : Int) (A0_1 : Option Addr) (c0_1 : Nat) (l0_1 : List Int) (a1 : Int) (r : Bool) (w : World) (hr0_1 : Kd.C (Kd.int .i64) w A0_1 l0_1.length l0_1) (hc0_1 : l0_1.length ≤ c0_1) (h : span_Has.f k a0_0 l0_1 a1 = some r) :
  Calls Tryz.prog 68 #[.agg #[.int .i64 a0_0, .slice A0_1 l0_1.length c0_1], .int .i64 a1] w fun e w' => e = .returned (.bool r) ∧ Below w.heap.size w w' := by
 have hu69 := Tryz.underlying69
 have HR0_1 := aK hr0_1
 have HC0_1 := aK hc0_1
 clear hr0_1 hc0_1
 have HB := aK (Below.refl w.heap.size w)
 have H : (if a1 ≤ a0_0 then (some (decide (a1 ≥ 1))) else ((slices_BinarySearch_int_int.f k l0_1 a1).bind fun bt337 => (some bt337.2))) = some r := h
 clear h
 by_cases c3 : a1 ≤ a0_0
 ·rw [if_pos c3] at H
  have c3b0 : decide (a1 ≤ a0_0) = true := dT c3
  clear c3
  obtain rfl := sI H
  go_enter Tryz.func68, Tryz.ntmps68
  go_wp2_with (first | ((with_reducible refine gate_dst (N := 2) rfl ?_); refine box_event ?hg (N := 2) ?hd (cs := #[.int .i64 a0_0, .slice A0_1 l0_1.length c0_1]) (t := 69) ?hr ?_; (case hd => rfl); (case hg => rfl); (case hr => first | (go_simp; done) | (go_simp; rfl)); intro gb336 hg w4 hbox hb; have BK336 := aK (hbox); have GW336 := aK ((zq68_0 : w.heap.size ≤ gb336)); have GE336 := aK ((zq68_0 : w.heap.size ≤ gb336)); replace HB := aK (bS (by repeat (first | (with_reducible first | exact HB.out | apply bA | apply pB | apply bW) | exact HB.out)) hb); clear hb hbox hg; have hcz5_0 : w4.cell? ⟨gb336, 0, none⟩ = some (.int .i64 a0_0) := (bC BK336.out 0).trans rfl; have hcz5_1 : w4.cell? ⟨gb336, 1, none⟩ = some (.slice A0_1 l0_1.length c0_1) := (bC BK336.out 1).trans rfl; have hfz5_0 := bF_ BK336.out 0; have hfz5_1 := bF_ BK336.out 1))
  go_ret
  exact ⟨by first | rfl | (simp [errW_none, errW_some] <;> rfl) | (simp [*, errW_none, errW_some] <;> rfl), by repeat (first | (with_reducible first | exact HB.out | apply bA | apply pB | apply bW | refine below_set ?_ GE336.out) | exact HB.out)⟩
 ·rw [if_neg c3] at H
  have c3b0 : decide (a1 ≤ a0_0) = false := decide_eq_false c3
  clear c3
  replace H := bM H
  obtain ⟨⟨t337, t338⟩, A60, H⟩ := H
  have A6 := aK A60
  clear A60
  obtain rfl := sI H
  go_enter Tryz.func68, Tryz.ntmps68
  go_wp2_with (first | ((with_reducible refine gate_dst (N := 2) rfl ?_); refine box_event ?hg (N := 2) ?hd (cs := #[.int .i64 a0_0, .slice A0_1 l0_1.length c0_1]) (t := 69) ?hr ?_; (case hd => rfl); (case hg => rfl); (case hr => first | (go_simp; done) | (go_simp; rfl)); intro gb336 hg w7 hbox hb; have BK336 := aK (hbox); have GW336 := aK ((zq68_0 : w.heap.size ≤ gb336)); have GE336 := aK ((zq68_0 : w.heap.size ≤ gb336)); replace HB := aK (bS (by repeat (first | (with_reducible first | exact HB.out | apply bA | apply pB | apply bW) | exact HB.out)) hb); clear hb hbox hg; have hcz8_0 : w7.cell? ⟨gb336, 0, none⟩ = some (.int .i64 a0_0) := (bC BK336.out 0).trans rfl; have hcz8_1 : w7.cell? ⟨gb336, 1, none⟩ = some (.slice A0_1 l0_1.length c0_1) := (bC BK336.out 1).trans rfl; have hfz8_0 := bF_ BK336.out 0; have hfz8_1 := bF_ BK336.out 1) | ((with_reducible refine gate_callee (f := 84) rfl ?_); refine goesL_ (some 17) rfl rfl Tryz.func84 (by kernel_rfl) rfl #[.slice A0_1 l0_1.length c0_1, .int .i64 a1] rfl (by (try simp only [List.map_toArray, List.map_cons, List.map_nil]); first | done | rfl | (simp only [List.length_drop, List.length_take]; rfl)) ?_; (with_reducible refine (slices_BinarySearch_int_int.calls k _ _ l0_1 a1 t337 t338 _ ?side1 ?side2 A6.out).mono ?_); (case side1 => repeat (first | exact (cB HR0_1.out HB.out) | (with_reducible refine Kd.C_alloc ?_ _) | (with_reducible refine Kd.C_drewN ?_ _) | (with_reducible refine Kd.C_drew ?_))); (case side2 => exact HC0_1.out); rintro e w' ⟨rfl, ⟨nd, rfl⟩⟩; refine ⟨_, rfl, ?_⟩))
  go_ret
  exact ⟨by first | rfl | (simp [errW_none, errW_some] <;> rfl) | (simp [*, errW_none, errW_some] <;> rfl), by repeat (first | (with_reducible first | exact HB.out | apply bA | apply pB | apply bW | refine below_set ?_ GE336.out) | exact HB.out)⟩
theorem zq39_0 {p_ : Prop} (h_ : p_ := by repeat (first | (with_reducible first | exact HB.out | apply bA | apply pB | apply bW) | exact HB.out)) : p_ := h_
def know_Has.f (k : Nat) (l0 : List (S72)) (a1 : ByteArray) (a2 : Int) : Option (Bool) := (know_find.f l0 a1).bind fun bt339 => (if bt339.2 = true then (if 0 ≤ bt339.1 then (if bt339.1 < (l0.length : Int) then ((span_Has.f k ((rd_T72 l0 bt339.1).f1.f0) ((rd_T72 l0 bt339.1).f1.f1) a2).bind fun t342 => (some t342)) else (none)) else (none)) else (some false))
theorem know_Has.mono : ∀ a0 a1 a2 k, LeO (know_Has.f k a0 a1 a2) (know_Has.f (k + 1) a0 a1 a2) := by
 intro a0 a1 a2 k
 unfold know_Has.f
 repeat' first
   | (with_reducible exact span_Has.mono _ _ _ _)
   | (with_reducible exact LeO.refl _)
   | (with_reducible exact LeO.none _)
   | (with_reducible refine LeO.ite ?_ ?_)
   | (with_reducible refine LeO.bind ?_ (fun _ => ?_))
   | exact span_Has.mono _ _ _ _
   | exact LeO.none _
   | refine LeO.ite ?_ ?_
   | refine LeO.bind ?_ (fun _ => ?_)
theorem know_Has.calls (k : Nat) (A0 : Option Addr) (c0 : Nat) (l0 : List (S72)) (a1 : ByteArray) (a2 : Int) (r : Bool) (w : World) (hr0 : Kd.C k72 w A0 l0.length l0) (hc0 : l0.length ≤ c0) (h : know_Has.f k l0 a1 a2 = some r) :
  Calls Tryz.prog 39 #[.slice A0 l0.length c0, .string a1, .int .i64 a2] w fun e w' => e = .returned (.bool r) ∧ Below w.heap.size w w' := by
 have hu69 := Tryz.underlying69
 have HR0 := aK hr0
 have HC0 := aK hc0
 clear hr0 hc0
 have HB := aK (Below.refl w.heap.size w)
 have H := h
 unfold know_Has.f at H
 clear h
 replace H := bM H
 obtain ⟨⟨t339, t340⟩, A40, H⟩ := H
 have A4 := aK A40
 clear A40
 by_cases c5 : t340 = true
 ·subst c5
  have H1 : (if 0 ≤ t339 then (if t339 < (l0.length : Int) then ((span_Has.f k ((rd_T72 l0 t339).f1.f0) ((rd_T72 l0 t339).f1.f1) a2).bind fun t342 => (some t342)) else (none)) else (none)) = some r := by rw [if_pos rfl] at H; exact H
  clear H
  have H := H1
  clear H1
  by_cases c6 : 0 ≤ t339
  ·rw [if_pos c6] at H
   have c6b0 : decide (0 ≤ t339) = true := dT c6
   clear c6
   by_cases c7 : t339 < (l0.length : Int)
   ·rw [if_pos c7] at H
    have c7b0 : decide (t339 < (l0.length : Int)) = true := dT c7
    clear c7
    replace H := bM H
    obtain ⟨t342, A80, H⟩ := H
    have A8 := aK A80
    clear A80
    obtain rfl := sI H
    go_enter Tryz.func39, Tryz.ntmps39
    go_wp2_with (first | ((with_reducible refine gate_callee (f := 67) rfl ?_); refine goesL_ (some 12) rfl rfl Tryz.func67 (by kernel_rfl) rfl #[.slice A0 l0.length c0, .string a1] rfl (by (try simp only [List.map_toArray, List.map_cons, List.map_nil]); first | done | rfl | (simp only [List.length_drop, List.length_take]; rfl)) ?_; (with_reducible refine (know_find.calls _ _ l0 a1 t339 true _ ?side1 ?side2 A4.out).mono ?_); (case side1 => repeat (first | exact HR0.out | (with_reducible refine Kd.C_alloc ?_ _) | (with_reducible refine Kd.C_drewN ?_ _) | (with_reducible refine Kd.C_drew ?_))); (case side2 => exact HC0.out); rintro e w9 ⟨rfl, hb⟩; refine ⟨_, rfl, ?_⟩; replace HB := aK (bS zq39_0 hb); (try clear hb); (try clear hb2); (try clear hk); (try clear hi); have p341 : 0 ≤ (t339 : Int) := oD (by first | (with_reducible assumption) | assumption); have q341 : t339 < (l0.length : Int) := oD (by first | (with_reducible assumption) | assumption); obtain ⟨ad341, A341_2, c341_2, e341, hx341_0, hx341_1, hx341_2, hl341_2, hi341_2⟩ := at_T72 HR0.out t339 p341 q341; cases e341; replace hx341_0 := pc_ HB hx341_0; replace hx341_1 := pc_ HB hx341_1; replace hx341_2 := pc_ HB hx341_2; have HR341_2 := aK hi341_2; have HC341_2 := aK hl341_2; clear hi341_2 hl341_2; replace p341 := eT p341; replace q341 := eT q341) | (go_at_call 68; (with_reducible refine (span_Has.calls k ((rd_T72 l0 t339).f1.f0) _ _ ((rd_T72 l0 t339).f1.f1) a2 t342 _ ?side1 ?side2 A8.out).mono ?_); (case side1 => repeat (first | exact (cB HR341_2.out HB.out) | (with_reducible refine Kd.C_alloc ?_ _) | (with_reducible refine Kd.C_drewN ?_ _) | (with_reducible refine Kd.C_drew ?_))); (case side2 => exact HC341_2.out); rintro e w10 ⟨rfl, hb⟩; replace HB := aK (bS zq39_0 hb); (try clear hb); (try clear hb2); (try clear hk); (try clear hi)))
    go_ret
    exact ⟨by first | rfl | (simp [errW_none, errW_some] <;> rfl) | (simp [*, errW_none, errW_some] <;> rfl), by repeat (first | (with_reducible first | exact HB.out | apply bA | apply pB | apply bW) | exact HB.out)⟩
   ·rw [if_neg c7] at H
    exact absurd H (by simp)
  ·rw [if_neg c6] at H
   exact absurd H (by simp)
 ·replace c5 := Bool.eq_false_iff.mpr c5
  subst c5
  have H1 : (some false) = some r := by rw [if_neg (show ¬ (false = true) by decide)] at H; exact H
  clear H
  have H := H1
  clear H1
  obtain rfl := sI H
  go_enter Tryz.func39, Tryz.ntmps39
  go_wp2_with (first | ((with_reducible refine gate_callee (f := 67) rfl ?_); refine goesL_ (some 12) rfl rfl Tryz.func67 (by kernel_rfl) rfl #[.slice A0 l0.length c0, .string a1] rfl (by (try simp only [List.map_toArray, List.map_cons, List.map_nil]); first | done | rfl | (simp only [List.length_drop, List.length_take]; rfl)) ?_; (with_reducible refine (know_find.calls _ _ l0 a1 t339 false _ ?side1 ?side2 A4.out).mono ?_); (case side1 => repeat (first | exact HR0.out | (with_reducible refine Kd.C_alloc ?_ _) | (with_reducible refine Kd.C_drewN ?_ _) | (with_reducible refine Kd.C_drew ?_))); (case side2 => exact HC0.out); rintro e w11 ⟨rfl, hb⟩; refine ⟨_, rfl, ?_⟩; replace HB := aK (bS zq39_0 hb); (try clear hb); (try clear hb2); (try clear hk); (try clear hi)))
  go_ret
  exact ⟨by first | rfl | (simp [errW_none, errW_some] <;> rfl) | (simp [*, errW_none, errW_some] <;> rfl), by repeat (first | (with_reducible first | exact HB.out | apply bA | apply pB | apply bW) | exact HB.out)⟩
def cenotaphlaw04_told.f (k : Nat) : Option Bool := (know_Add.f k [] ⟨#[48]⟩ 1).bind fun a => (know_Add.f k a ⟨#[48]⟩ 3).bind fun b => (know_Add.f k b ⟨#[48]⟩ 2).bind fun c => (know_Firsts.f k c).bind fun s =>
 if (know_Extras.f k b = some 1 ∧ know_Count.f k b = some 2 ∧ know_Has.f k b ⟨#[48]⟩ 3 = some true ∧ know_Has.f k b ⟨#[48]⟩ 2 = some false) ∧ (know_Extras.f k c = some 0 ∧ know_Within.f k b c = some true ∧ know_Within.f k c b = some false) ∧ (s.length = 1 ∧ (s.getD 0 z75).f1 = 3) ∧ know_Right.f k b = some true then some true else none
theorem cenotaphlaw04_told.mono : ∀ k, LeO (cenotaphlaw04_told.f k) (cenotaphlaw04_told.f (k + 1)) := by
 intro k
 unfold cenotaphlaw04_told.f
 refine LeO.bind (know_Add.mono _ _ _ _) (fun b => LeO.bind (know_Add.mono _ _ _ _) (fun b => LeO.bind (know_Add.mono _ _ _ _) (fun c => LeO.bind (know_Firsts.mono _ _) (fun s => ?_))))
 intro r h
 by_cases hc : (know_Extras.f k b = some 1 ∧ know_Count.f k b = some 2 ∧ know_Has.f k b ⟨#[48]⟩ 3 = some true ∧ know_Has.f k b ⟨#[48]⟩ 2 = some false) ∧ (know_Extras.f k c = some 0 ∧ know_Within.f k b c = some true ∧ know_Within.f k c b = some false) ∧ (s.length = 1 ∧ (s.getD 0 z75).f1 = 3) ∧ know_Right.f k b = some true
 ·rw [if_pos hc] at h
  obtain ⟨⟨a1, a2, a3, a4⟩, ⟨b1, b2, b3⟩, hs, hr⟩ := hc
  rw [if_pos ⟨⟨know_Extras.mono _ _ _ a1, know_Count.mono _ _ _ a2, know_Has.mono _ _ _ _ _ a3, know_Has.mono _ _ _ _ _ a4⟩, ⟨know_Extras.mono _ _ _ b1, know_Within.mono _ _ _ _ b2, know_Within.mono _ _ _ _ b3⟩, hs, know_Right.mono _ _ _ hr⟩]
  exact h
 ·rw [if_neg hc] at h; cases h
theorem cenotaphlaw04_told.calls (k : Nat) (r : Bool) (w : World) (h : cenotaphlaw04_told.f k = some r) :
  Calls Tryz.prog 11 #[] w fun e w' => e = .returned (.bool r) ∧ Below w.heap.size w w' := by
 unfold cenotaphlaw04_told.f at h
 obtain ⟨a, ha, h⟩ := bM h
 obtain ⟨b, hb, h⟩ := bM h
 obtain ⟨c, hc, h⟩ := bM h
 obtain ⟨s, hs, h⟩ := bM h
 split at h
 rotate_left
 ·cases h
 rename_i hc
 obtain ⟨⟨a1, a2, a3, a4⟩, ⟨b1, b2, b3⟩, ⟨hs1, hs2⟩, hr⟩ := hc
 obtain rfl := sI h
 have Kha := aK ha
 have Khb := aK hb
 have Khc := aK hc
 have Khs := aK hs
 have Ka1 := aK a1
 have Ka2 := aK a2
 have Ka3 := aK a3
 have Ka4 := aK a4
 have Kb1 := aK b1
 have Kb2 := aK b2
 have Kb3 := aK b3
 have Khr := aK hr
 have Khs1 := aK hs1
 have Khs2 := aK hs2
 have hl0 := eT (show (0 : Int) < (s.length : Int) by omega)
 have hl2 := eT (show 0 < s.length by omega)
 have hv4 : ∀ h : 0 < s.length, ((s[0]'h).f1 = 3) = True := fun h => eT (by rw [← hs2, List.getD_eq_getElem?_getD, List.getElem?_eq_getElem h]; rfl)
 have hl1 : ((s.length : Int) == 1) = true := by rw [hs1]; rfl
 have hv3 : (((s.getD 0 z75).f1) == 3) = true := by rw [hs2]; rfl
 have hv5 : ∀ h : 0 < s.length, ((s[0]'h).f1 == 3) = true := fun h => by rw [beq_iff_eq, ← hs2, List.getD_eq_getElem?_getD, List.getElem?_eq_getElem h]; rfl
 have hu := Tryz.underlying75
 have HB := aK (Below.refl w.heap.size w)
 clear h ha hb hc hs a1 a2 a3 a4 b1 b2 b3 hr hs1 hs2
 go_enter Tryz.func11, Tryz.ntmps11
 go_wp2_with fail
 refine (know_Add.calls k none 0 [] ⟨#[48]⟩ 1 a w (Kd.C_nil _ _) (Nat.le_refl _) Kha.out).mono ?_
 rintro e w1 ⟨v, rfl, hV, hq⟩
 replace HB := aK (bS HB.out hq)
 obtain ⟨Aa, ca, rfl⟩ := Kd.V_slice hV
 have Ha := aK (And.intro (Kd.V_reads' hV).2.1 (Kd.V_reads' hV).2.2)
 clear hV
 clear hq
 go_wp2_with fail
 refine (know_Add.calls k Aa ca a ⟨#[48]⟩ 3 b w1 Ha.out.2 Ha.out.1 Khb.out).mono ?_
 rintro e w2 ⟨v, rfl, hV, hq⟩
 replace Ha := aK (And.intro Ha.out.1 (cB Ha.out.2 hq))
 replace HB := aK (bS HB.out hq)
 obtain ⟨Ab, cb, rfl⟩ := Kd.V_slice hV
 have Hb := aK (And.intro (Kd.V_reads' hV).2.1 (Kd.V_reads' hV).2.2)
 clear hV
 clear hq
 go_wp2_with fail
 refine (know_Add.calls k Ab cb b ⟨#[48]⟩ 2 c w2 Hb.out.2 Hb.out.1 Khc.out).mono ?_
 rintro e w3 ⟨v, rfl, hV, hq⟩
 replace Ha := aK (And.intro Ha.out.1 (cB Ha.out.2 hq))
 replace Hb := aK (And.intro Hb.out.1 (cB Hb.out.2 hq))
 replace HB := aK (bS HB.out hq)
 obtain ⟨Ac, cc, rfl⟩ := Kd.V_slice hV
 have Hc := aK (And.intro (Kd.V_reads' hV).2.1 (Kd.V_reads' hV).2.2)
 clear hV
 clear hq
 go_wp2_with fail
 refine (know_Extras.calls k Ab cb b 1 w3 Hb.out.2 Hb.out.1 Ka1.out).mono ?_
 rintro e w4 ⟨rfl, hq⟩
 replace Ha := aK (And.intro Ha.out.1 (cB Ha.out.2 hq))
 replace Hb := aK (And.intro Hb.out.1 (cB Hb.out.2 hq))
 replace Hc := aK (And.intro Hc.out.1 (cB Hc.out.2 hq))
 replace HB := aK (bS HB.out hq)
 clear hq
 go_wp2_with fail
 refine (know_Count.calls k Ab cb b 2 w4 Hb.out.2 Hb.out.1 Ka2.out).mono ?_
 rintro e w5 ⟨rfl, hq⟩
 replace Ha := aK (And.intro Ha.out.1 (cB Ha.out.2 hq))
 replace Hb := aK (And.intro Hb.out.1 (cB Hb.out.2 hq))
 replace Hc := aK (And.intro Hc.out.1 (cB Hc.out.2 hq))
 replace HB := aK (bS HB.out hq)
 clear hq
 go_wp2_with fail
 refine (know_Has.calls k Ab cb b ⟨#[48]⟩ 3 true w5 Hb.out.2 Hb.out.1 Ka3.out).mono ?_
 rintro e w6 ⟨rfl, hq⟩
 replace Ha := aK (And.intro Ha.out.1 (cB Ha.out.2 hq))
 replace Hb := aK (And.intro Hb.out.1 (cB Hb.out.2 hq))
 replace Hc := aK (And.intro Hc.out.1 (cB Hc.out.2 hq))
 replace HB := aK (bS HB.out hq)
 clear hq
 go_wp2_with fail
 refine (know_Has.calls k Ab cb b ⟨#[48]⟩ 2 false w6 Hb.out.2 Hb.out.1 Ka4.out).mono ?_
 rintro e w7 ⟨rfl, hq⟩
 replace Ha := aK (And.intro Ha.out.1 (cB Ha.out.2 hq))
 replace Hb := aK (And.intro Hb.out.1 (cB Hb.out.2 hq))
 replace Hc := aK (And.intro Hc.out.1 (cB Hc.out.2 hq))
 replace HB := aK (bS HB.out hq)
 clear hq
 go_wp2_with fail
 refine (know_Extras.calls k Ac cc c 0 w7 Hc.out.2 Hc.out.1 Kb1.out).mono ?_
 rintro e w8 ⟨rfl, hq⟩
 replace Ha := aK (And.intro Ha.out.1 (cB Ha.out.2 hq))
 replace Hb := aK (And.intro Hb.out.1 (cB Hb.out.2 hq))
 replace Hc := aK (And.intro Hc.out.1 (cB Hc.out.2 hq))
 replace HB := aK (bS HB.out hq)
 clear hq
 go_wp2_with fail
 refine (know_Within.calls k Ab cb b Ac cc c true w8 Hb.out.2 Hb.out.1 Hc.out.2 Hc.out.1 Kb2.out).mono ?_
 rintro e w9 ⟨rfl, hq⟩
 replace Ha := aK (And.intro Ha.out.1 (cB Ha.out.2 hq))
 replace Hb := aK (And.intro Hb.out.1 (cB Hb.out.2 hq))
 replace Hc := aK (And.intro Hc.out.1 (cB Hc.out.2 hq))
 replace HB := aK (bS HB.out hq)
 clear hq
 go_wp2_with fail
 refine (know_Within.calls k Ac cc c Ab cb b false w9 Hc.out.2 Hc.out.1 Hb.out.2 Hb.out.1 Kb3.out).mono ?_
 rintro e w10 ⟨rfl, hq⟩
 replace Ha := aK (And.intro Ha.out.1 (cB Ha.out.2 hq))
 replace Hb := aK (And.intro Hb.out.1 (cB Hb.out.2 hq))
 replace Hc := aK (And.intro Hc.out.1 (cB Hc.out.2 hq))
 replace HB := aK (bS HB.out hq)
 clear hq
 go_wp2_with fail
 refine (know_Firsts.calls k Ac cc c s w10 Hc.out.2 Hc.out.1 Khs.out).mono ?_
 rintro e w11 ⟨v, rfl, ho, hq⟩
 replace Ha := aK (And.intro Ha.out.1 (cB Ha.out.2 hq))
 replace Hb := aK (And.intro Hb.out.1 (cB Hb.out.2 hq))
 replace Hc := aK (And.intro Hc.out.1 (cB Hc.out.2 hq))
 replace HB := aK (bS HB.out hq)
 obtain ⟨As, cs, rfl⟩ := Kd.R_slice ho
 clear ho
 clear hq
 go_wp2_with fail
 refine (know_Firsts.calls k Ac cc c s w11 Hc.out.2 Hc.out.1 Khs.out).mono ?_
 rintro e w12 ⟨v, rfl, ho, hq⟩
 replace Ha := aK (And.intro Ha.out.1 (cB Ha.out.2 hq))
 replace Hb := aK (And.intro Hb.out.1 (cB Hb.out.2 hq))
 replace Hc := aK (And.intro Hc.out.1 (cB Hc.out.2 hq))
 replace HB := aK (bS HB.out hq)
 obtain ⟨As2, cs2, rfl⟩ := Kd.R_slice ho
 obtain ⟨ad, hA, hx0, hx1⟩ := at_T75 (Kd.R_reads' ho).2.2 0 (by omega) (by have := Khs1.out; omega)
 obtain ⟨g, cap, ev, -, -, -⟩ := Kd.R_form ho (by have := Khs1.out; omega)
 injection ev with eA _ _
 rw [hA] at eA
 injection eA with eA
 subst eA
 subst hA
 simp only [Int.toNat_zero, rd_T75, Nat.zero_mul, Addr.add_lit, Nat.zero_add] at hx0 hx1
 clear ho
 clear hq
 go_wp2_with fail
 refine (know_Right.calls k Ab cb b true w12 Hb.out.2 Hb.out.1 Khr.out).mono ?_
 rintro e w13 ⟨rfl, hq⟩
 replace Ha := aK (And.intro Ha.out.1 (cB Ha.out.2 hq))
 replace Hb := aK (And.intro Hb.out.1 (cB Hb.out.2 hq))
 replace Hc := aK (And.intro Hc.out.1 (cB Hc.out.2 hq))
 replace HB := aK (bS HB.out hq)
 clear hq
 go_wp2_with fail
 go_ret
 first | exact ⟨rfl, HB.out⟩ | exact ⟨congrArg (fun b => Ending.returned (Value.bool b)) (hv5 (by have := Khs1.out; omega)), HB.out⟩
theorem id_bsearch (A0 : Option Addr) (c0 : Nat) (l0 : List ByteArray) (a1 : ByteArray) (w : World) (hr0 : Kd.C Kd.string w A0 l0.length l0) (hlim : l0.length ≤ 140737488355328) :
  Calls Tryz.prog 72 #[.slice A0 l0.length c0, .string a1, .func (.func 73) #[] #[]] w fun e w' => e = .returned (.tuple #[.int .i64 (bsN (fun i => cmpB (l0.getD i ByteArray.empty) a1) l0.length : Nat), .bool (bsB (fun i => cmpB (l0.getD i ByteArray.empty) a1) l0.length)]) ∧ Drawn0 w w' := by
 have hlen := hr0.2.1
 have hcell : ∀ i, i < l0.length → ∃ ad, A0 = some ad ∧ w.cell? (ad.add i) = some (.string (l0.getD i ByteArray.empty)) := by
  intro i hi
  obtain ⟨ad, cs, e, _, hk, hc⟩ := Kd.C_get hr0 ByteArray.empty (i : Int) (by omega) (by omega)
  have h2 := hc 0 (.string (l0.getD i ByteArray.empty)) (by rw [show cs = [.string (l0.getD (i : Int).toNat ByteArray.empty)] from hk]; simp)
  refine ⟨ad, e, ?_⟩
  simpa [Kd.string, Kd.scalar] using h2
 clear hr0
 have HC := aK hcell
 clear hcell
 generalize hc : (fun i => cmpB (l0.getD i ByteArray.empty) a1) = c
 have HCC := aK (show ∀ i, cmpB (l0.getD i ByteArray.empty) a1 = c i from fun i => by rw [← hc])
 clear hc
 generalize hn : l0.length = n at *
 have HR := aK (show bsN c n = bsI c (n + 1) 0 n from rfl)
 clear hn
 go_enter Tryz.func72, Tryz.ntmps72
 go_wp2
 go_loopw [9, 10, 11] (fun vi vj _ wr => ∃ i j fu : Nat, vi = .int .i64 i ∧ vj = .int .i64 j ∧ i ≤ j ∧ j ≤ n ∧ j - i < fu ∧ Aside0 (bsI c fu i j = bsN c n) ∧ ∃ m, wr = w.drewN m) (fun vi vj _ _ => ((intOf vj).toNat - (intOf vi).toNat))
 case atStart => exact ⟨0, n, n + 1, rfl, rfl, Nat.zero_le _, Nat.le_refl _, by omega, ⟨HR.out.symm⟩, 0, rfl⟩
 case round =>
  obtain ⟨i, j, fu, rfl, rfl, hij, hjn, hfu, HB, m, rfl⟩ := hrel
  by_cases hlt : i < j
  ·obtain ⟨ad, hA, hcl⟩ := HC.out ((i + j) / 2) (by omega)
   obtain rfl := hA
   have e2 := HCC.out ((i + j) / 2)
   have hub : bsI c (fu - 1 + 1) i j = if c ((i + j) / 2) < 0 then bsI c (fu - 1) ((i + j) / 2 + 1) j else bsI c (fu - 1) i ((i + j) / 2) := by
    simp only [bsI]; rw [if_pos hlt]
   have HU := aK hub
   have hcalls := id_Compare.calls (l0.getD ((i + j) / 2) ByteArray.empty) a1 (c ((i + j) / 2)) (w.drewN m) (by rw [← e2]; rfl)
   clear hub e2
   have HK := aK hcalls
   clear hcalls
   have hfu1 : fu - 1 + 1 = fu := by omega
   have HF := aK hfu1
   clear hfu1
   by_cases hneg : c ((i + j) / 2) < 0
   ·have HN := aK hneg
    have hdn : decide (c ((i + j) / 2) < 0) = true := dT hneg
    generalize hq : c ((i + j) / 2) = q at hdn HK hneg
    have HQ := aK hq
    clear hq
    go_wp2_with fail
    refine HK.out.mono ?_
    rintro e w' ⟨rfl, ⟨nd, rfl⟩⟩
    go_wp2_with fail
    go_roundw
    case rel => exact ⟨(i + j) / 2 + 1, j, fu - 1, by go_num, rfl, by omega, hjn, by omega, ⟨by have := HU.out; rw [HF.out, HB.out, if_pos HN.out] at this; exact this.symm⟩, m + nd, by simp [World.drewN]⟩
    case measure => simp [intOf]; omega
   ·have HN := aK hneg
    have hdn : decide (c ((i + j) / 2) < 0) = false := decide_eq_false hneg
    generalize hq : c ((i + j) / 2) = q at hdn HK hneg
    have HQ := aK hq
    clear hq
    go_wp2_with fail
    refine HK.out.mono ?_
    rintro e w' ⟨rfl, ⟨nd, rfl⟩⟩
    go_wp2_with fail
    go_roundw
    case rel => exact ⟨i, (i + j) / 2, fu - 1, rfl, by go_num, by omega, by omega, by omega, ⟨by have := HU.out; rw [HF.out, HB.out, if_neg (by have := HN.out; omega)] at this; exact this.symm⟩, m + nd, by simp [World.drewN]⟩
    case measure => simp [intOf]; omega
  ·have hres : bsN c n = i := by
    rw [← HB.out]
    obtain ⟨f, rfl⟩ : ∃ f, fu = f + 1 := ⟨fu - 1, by omega⟩
    simp only [bsI]; rw [if_neg hlt]
   have HRS := aK hres
   clear hres
   have hge : decide ((i : Int) < (j : Int)) = false := by simp; omega
   by_cases hin : i < n
   ·obtain ⟨ad, hA, hcl⟩ := HC.out i hin
    obtain rfl := hA
    have hcalls := id_Compare.calls (l0.getD i ByteArray.empty) a1 (c i) (w.drewN m) (by rw [← HCC.out i]; rfl)
    have HK := aK hcalls
    clear hcalls
    have hbb : bsB c n = decide (c i = 0) := by unfold bsB; rw [HRS.out, dT hin, Bool.true_and]
    have HBB := aK hbb
    clear hbb
    have hin2 : decide ((i : Int) < (n : Int)) = true := by simp; omega
    generalize hq : c i = q at HK HBB
    have HQ := aK hq
    clear hq
    go_wp2_with fail
    refine HK.out.mono ?_
    rintro e w' ⟨rfl, ⟨nd, rfl⟩⟩
    go_wp2_with fail
    go_ret2
    exact ⟨by rw [HRS.out, HBB.out]; rfl, ⟨⟨m + nd, by simp [World.drewN]⟩⟩⟩
   ·have hbb : bsB c n = false := by unfold bsB; rw [HRS.out, decide_eq_false hin, Bool.false_and]
    have HBB := aK hbb
    clear hbb
    have hin2 : decide ((i : Int) < (n : Int)) = false := by simp; omega
    go_wp2_with fail
    go_ret2
    exact ⟨by rw [HRS.out, HBB.out]; rfl, ⟨⟨m, rfl⟩⟩⟩
def id_Has.f (l0 : List ByteArray) (a1 : ByteArray) : Option Bool := if l0.length < 8796093022208 then some (bsB (fun i => cmpB (l0.getD i ByteArray.empty) a1) l0.length) else none
theorem id_Has.calls (A0 : Option Addr) (c0 : Nat) (l0 : List ByteArray) (a1 : ByteArray) (r : Bool) (w : World) (hr0 : Kd.C Kd.string w A0 l0.length l0) (hc0 : l0.length ≤ c0) (h : id_Has.f l0 a1 = some r) :
  Calls Tryz.prog 45 #[.slice A0 l0.length c0, .string a1] w fun e w' => e = .returned (.bool r) ∧ Drawn0 w w' := by
 have hlim : l0.length < 8796093022208 := by
  by_cases hx : l0.length < 8796093022208
  ·exact hx
  ·rw [id_Has.f, if_neg hx] at h; cases h
 have hr : bsB (fun i => cmpB (l0.getD i ByteArray.empty) a1) l0.length = r := by rw [id_Has.f, if_pos hlim] at h; exact sI h
 have hc := id_bsearch A0 c0 l0 a1 w hr0 (by omega)
 rw [hr] at hc
 have HC := aK hc
 clear hc h hr hlim hr0
 go_enter Tryz.func45, Tryz.ntmps45
 go_wp2_with fail
 refine HC.out.mono ?_
 rintro e w' ⟨rfl, ⟨nd, rfl⟩⟩
 go_wp2_with fail
 go_ret
 exact ⟨rfl, ⟨⟨nd, rfl⟩⟩⟩
end Go.Proofs.YtkfehkaiifjkmaaGreat.P
