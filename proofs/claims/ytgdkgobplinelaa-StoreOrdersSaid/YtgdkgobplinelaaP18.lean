-- Written by a program of this session (wip/pp.py over the kit's printer, with our own texts put in).
import Derived.Test.YtgdkgobplinelaaP18A
import Derived.Test.YtgdkgobplinelaaP0
import Derived.Test.YtgdkgobplinelaaP1
import Derived.Test.YtgdkgobplinelaaP4
import Derived.Test.YtgdkgobplinelaaP6
import Derived.Test.YtgdkgobplinelaaP7
import Derived.Test.YtgdkgobplinelaaP9
import Derived.Test.YtgdkgobplinelaaP13
import Derived.Test.YtgdkgobplinelaaP17
namespace Go.Proofs.Ytgdkgobplinelaa.P
open Go.RowKit Go.Proofs.YtgdkgobplinelaaW.PrintWords Go.Proofs.YtgdkgobplinelaaW.PrintLast Go.Proofs.YtgdkgobplinelaaW.PrintMore
attribute [local go_sem] run_store_complex max2_int min2_int max_two min_two max_three min_three max_four min_four   -- for this text's walks alone
set_option linter.unusedVariables false
set_option linter.unusedSimpArgs false

attribute [local go_sem high] eqA24 eqA38
/-! ### cenotaphlaw08_StoreOrders: function 4 -/
abbrev bT4 : Bool := true
abbrev bF4 : Bool := false
theorem zq4_0 {p_ : Prop} (h_ : p_ := by rw [hg]; exact (below_size (by repeat (first | (with_reducible first | exact HB.out | apply below_alloc | apply pw_below_drewN | apply below_drew1) | exact HB.out)))) : p_ := h_
theorem zq4_1 {p_ : Prop} (h_ : p_ := by repeat (first | (with_reducible first | exact HB.out | apply below_alloc | apply pw_below_drewN | apply below_drew1 | refine below_set ?_ GE371.out) | exact HB.out)) : p_ := h_
theorem zq4_2 {p_ : Prop} (h_ : p_ := by repeat (first | (with_reducible first | exact HB.out | apply below_alloc | apply pw_below_drewN | apply below_drew1 | refine below_set ?_ GE443.out) | exact HB.out)) : p_ := h_
theorem zq4_3 {p_ : Prop} (h_ : p_ := by (try simp only [List.map_toArray, List.map_cons, List.map_nil]); first | done | rfl | (simp only [List.length_drop, List.length_take]; rfl)) : p_ := h_
theorem zq4_4 {p_ : Prop} (h_ : p_ := by repeat (first | (with_reducible first | exact HB.out | apply below_alloc | apply pw_below_drewN | apply below_drew1) | exact HB.out)) : p_ := h_
theorem zq4_5 {p_ : Prop} (h_ : p_ := by (with_reducible repeat (first | refine blk_drewN ?_ _ | refine blk_drew ?_ | refine blk_alloc ?_ _)); exact BK443.out) : p_ := h_
theorem zq4_6 {p_ : Prop} (h_ : p_ := by (with_reducible repeat (first | apply Kd.R_alloc | apply Kd.R_drewN | apply Kd.R_drew)); exact HO_10.out) : p_ := h_
theorem zq4_7 {p_ : Prop} (h_ : p_ := by (with_reducible repeat (first | apply Kd.R_alloc | apply Kd.R_drewN | apply Kd.R_drew)); exact HO_14.out) : p_ := h_
theorem zq4_8 {p_ : Prop} (h_ : p_ := by (with_reducible repeat (first | apply Kd.R_alloc | apply Kd.R_drewN | apply Kd.R_drew)); exact HO_15.out) : p_ := h_
theorem zq4_9 {p_ : Prop} (h_ : p_ := by (with_reducible repeat (first | apply Kd.R_alloc | apply Kd.R_drewN | apply Kd.R_drew)); exact HO409.out) : p_ := h_
theorem zq4_10 {p_ : Prop} (h_ : p_ := by (with_reducible repeat (first | apply Kd.R_alloc | apply Kd.R_drewN | apply Kd.R_drew)); exact HO_5.out) : p_ := h_
theorem zq4_11 {p_ : Prop} (h_ : p_ := by first | (with_reducible assumption) | assumption) : p_ := h_
theorem zq4_12 {p_ : Prop} (h_ : p_ := by first | rfl | (simp; done) | (simp [*]; done)) : p_ := h_
theorem zc_4 {w : World} {g : Nat} {t : TypeId} {cs : Array Value} {v : Value} (h : Aside0 (w.heap[g]? = some (.cells cs t (0, 0)))) (i : Nat) (e : cs[i]? = some v := by rfl) : w.cell? ⟨g, i, none⟩ = some v := (blk_cell h.out i).trans e
theorem zfield_28 (a b c d e f g h i : Value) (W : World) : (Instr.field 28 (.agg #[a, b, c, d, e, f, g, h, i]) 1).run Try.prog W = .ok (.agg #[b, c, d]) W := by kernel_rfl
attribute [local go_sem] zfield_28

def nthOf : Nat → Code → Code
 | 0, c => c
 | n + 1, .seq _ b => nthOf n b
 | _, c => c
noncomputable def tail7 : Code := nthOf 8 (Try.f4.body.getD .skip)
set_option maxHeartbeats 100000000 in
set_option maxRecDepth 100000 in
theorem cenotaphlaw08_StoreOrders.tail (w wc : World) (r : Bool) (Ao37 : Option Addr) (co37 : Nat) (x5_1 : List (S28)) (x14_4 x15_4 : List (S41)) (k k1 kj2 kj32 k4 kj72 : Nat)
  (z0 z1 z2 z3 z6 z7 z8 z9 z10 z11 z12 z13 z16 z17 z18 z19 z20 z21 z22 z23 z24 z25 z26 z27 z28 z29 z30 z31 z32 z33 z34 z35 z36 z37 z38 z39 z40 z41 z42 z43 z44 z45 z46 z47 z48 z49 z50 z51 z52 z53 z54 z55 z56 z57 z58 z59 z60 z61 z62 z63 z64 z65 z66 z67 z68 z69 z70 z71 z72 z73 z74 z75 z76 z77 z78 z79 z80 z81 z82 z83 z84 z85 z86 z87 z88 z89 z90 z91 z92 z93 z94 z95 z96 z97 z98 z99 z100 z101 z102 z103 z104 z105 z106 z107 z108 z109 z110 z111 z112 z113 z114 z115 z116 z117 z118 z119 z120 z121 z122 z123 z124 z125 z126 z127 z128 z129 z130 z131 z132 z133 z134 z135 z136 z137 z138 z139 z140 z141 z142 z143 z144 z145 z146 z147 z148 z149 z150 z151 z152 z153 z154 z155 z156 z157 z158 z159 z160 z161 z162 z163 z164 z165 z166 z167 z168 z169 z170 z171 z172 z173 z174 z175 z176 z177 z178 z179 z180 z181 z182 z183 z184 z185 z186 z187 z188 z189 z190 z191 z192 z193 z194 z195 z196 z197 z198 z199 z200 z201 z202 z203 z204 z205 z206 z207 z208 z209 z210 z211 z212 z213 z214 z215 z216 z217 z218 z219 z220 z221 z222 z223 z224 z225 z226 z227 z228 z229 z230 z231 z232 z233 z234 z235 z236 z237 z238 z239 z240 z241 z242 z243 z244 z245 z246 z247 z248 z249 z250 z251 z252 z253 z254 z255 z256 z257 z258 z259 z260 z261 z262 z263 z264 z265 z266 u14 u15 : Value)
  (HK1 : Aside0 (k1 + 1 ≤ k)) (HJ2 : Aside0 (kj2 + 1 ≤ k1)) (HJ32 : Aside0 (kj32 + 1 ≤ kj2)) (HK4 : Aside0 (k4 + 1 ≤ kj32)) (HJ72 : Aside0 (kj72 + 1 ≤ k4))
  (HO_5 : Aside0 (Kd.R k28 28 wc w.heap.size (fun _ => True) (.slice Ao37 x5_1.length co37) x5_1))
  (HO_14 : Aside0 (Kd.R k41 41 wc w.heap.size (fun k_ => some k_ ≠ (u15 : Value).ownBlock) u14 x14_4))
  (HO_15 : Aside0 (Kd.R k41 41 wc w.heap.size (fun k_ => some k_ ≠ (u14 : Value).ownBlock) u15 x15_4))
  (HB : Aside0 (Below w.heap.size w wc)) (H' : Aside0 ((cenotaphlaw08_StoreOrders.l4 kj72 x5_1 x14_4 x15_4 0) = some r)) :
  Code.wp Try.prog tail7 (bodyPost Try.prog Try.f4 fun e w' => e = .returned (.bool r) ∧ Below w.heap.size w w') ⟨List.toArray (z0 :: z1 :: z2 :: z3 :: .bool false :: .slice Ao37 x5_1.length co37 :: z6 :: z7 :: z8 :: z9 :: z10 :: z11 :: z12 :: z13 :: u14 :: u15 :: z16 :: z17 :: z18 :: z19 :: z20 :: z21 :: z22 :: z23 :: z24 :: z25 :: z26 :: z27 :: z28 :: z29 :: z30 :: z31 :: z32 :: z33 :: z34 :: z35 :: z36 :: z37 :: z38 :: z39 :: z40 :: z41 :: z42 :: z43 :: z44 :: z45 :: z46 :: z47 :: z48 :: z49 :: z50 :: z51 :: z52 :: z53 :: z54 :: z55 :: z56 :: z57 :: z58 :: z59 :: z60 :: z61 :: z62 :: z63 :: z64 :: z65 :: z66 :: z67 :: z68 :: z69 :: z70 :: z71 :: z72 :: z73 :: z74 :: z75 :: z76 :: z77 :: z78 :: z79 :: z80 :: z81 :: z82 :: z83 :: z84 :: z85 :: z86 :: z87 :: z88 :: z89 :: z90 :: z91 :: z92 :: z93 :: z94 :: z95 :: z96 :: z97 :: z98 :: z99 :: z100 :: z101 :: z102 :: z103 :: z104 :: z105 :: z106 :: z107 :: z108 :: z109 :: z110 :: z111 :: z112 :: z113 :: z114 :: z115 :: z116 :: z117 :: z118 :: z119 :: z120 :: z121 :: z122 :: z123 :: z124 :: z125 :: z126 :: z127 :: z128 :: z129 :: z130 :: z131 :: z132 :: z133 :: z134 :: z135 :: z136 :: z137 :: z138 :: z139 :: z140 :: z141 :: z142 :: z143 :: z144 :: z145 :: z146 :: z147 :: z148 :: z149 :: z150 :: z151 :: z152 :: z153 :: z154 :: z155 :: z156 :: z157 :: z158 :: z159 :: z160 :: z161 :: z162 :: z163 :: z164 :: z165 :: z166 :: z167 :: z168 :: z169 :: z170 :: z171 :: z172 :: z173 :: z174 :: z175 :: z176 :: z177 :: z178 :: z179 :: z180 :: z181 :: z182 :: z183 :: z184 :: z185 :: z186 :: z187 :: z188 :: z189 :: z190 :: z191 :: z192 :: z193 :: z194 :: z195 :: z196 :: z197 :: z198 :: z199 :: z200 :: z201 :: z202 :: z203 :: z204 :: z205 :: z206 :: z207 :: z208 :: z209 :: z210 :: z211 :: z212 :: z213 :: z214 :: z215 :: z216 :: z217 :: z218 :: z219 :: z220 :: z221 :: z222 :: z223 :: z224 :: z225 :: z226 :: z227 :: z228 :: z229 :: z230 :: z231 :: z232 :: z233 :: z234 :: z235 :: z236 :: z237 :: z238 :: z239 :: z240 :: z241 :: z242 :: z243 :: z244 :: z245 :: z246 :: z247 :: z248 :: z249 :: z250 :: z251 :: z252 :: z253 :: z254 :: z255 :: z256 :: z257 :: z258 :: z259 :: z260 :: z261 :: z262 :: z263 :: z264 :: z265 :: z266 :: []), []⟩ wc := by
 have hu28 := Try.underlying28
 have hu38 := Try.underlying38
 have hu41 := Try.underlying41
 have hu24 := Try.underlying24
 conv => arg 2; whnf
 go_wp2
 go_loopg [17] kj72 (fun kq v17 w' => ∃ (x17_6 : Int), v17 = .int .i64 x17_6 ∧ Aside0 (cenotaphlaw08_StoreOrders.l4 kq x5_1 x14_4 x15_4 x17_6 = some r) ∧ Aside0 (kq ≤ kj72) ∧ Aside0 (Kd.R k28 28 w' w.heap.size (fun _ => True) (.slice Ao37 x5_1.length co37) x5_1) ∧ Aside0 (Kd.R k41 41 w' w.heap.size (fun k_ => some k_ ≠ (u15 : Value).ownBlock) u14 x14_4) ∧ Aside0 (Kd.R k41 41 w' w.heap.size (fun k_ => some k_ ≠ (u14 : Value).ownBlock) u15 x15_4) ∧ Aside0 (Below w.heap.size w w'))
 case atStart => exact ⟨(0), zq4_12, H', ⟨Nat.le_refl _⟩, ⟨by (with_reducible repeat (first | apply Kd.R_alloc | apply Kd.R_drewN | apply Kd.R_drew)); exact HO_5.out⟩, ⟨by (with_reducible repeat (first | apply Kd.R_alloc | apply Kd.R_drewN | apply Kd.R_drew)); exact HO_14.out⟩, ⟨by (with_reducible repeat (first | apply Kd.R_alloc | apply Kd.R_drewN | apply Kd.R_drew)); exact HO_15.out⟩, ⟨by repeat (first | (with_reducible first | exact HB.out | apply below_alloc | apply pw_below_drewN | apply below_drew1) | exact HB.out)⟩⟩
 case round =>
  clear H'
  (try clear c1); (try clear p2); (try clear c3); (try clear p3); (try clear q3); (try clear hx3); (try clear c4); (try clear p4); (try clear q4); (try clear hx4); (try clear c5); (try clear p5); (try clear q5); (try clear hx5); (try clear hf5); (try clear c6); (try clear p6); (try clear c7); (try clear c8); (try clear c11); (try clear c12); (try clear c16); (try clear p36); (try clear q36); (try clear hx36); (try clear p37); (try clear q37); (try clear hx37); (try clear c38); (try clear c38b0); (try clear c39); (try clear c39b0); (try clear c39b1); (try clear p39); (try clear q39); (try clear hx39); (try clear c40); (try clear c40b0); (try clear c41); (try clear c41b0); (try clear c41b1); (try clear c41b2); (try clear p41); (try clear q41); (try clear hx41); (try clear c42); (try clear c42b0); (try clear c43); (try clear c43b0); (try clear c43b1); (try clear c45); (try clear c45b0); (try clear c46); (try clear c46b0); (try clear c48); (try clear c48b0); (try clear c49); (try clear c49b0); (try clear c50); (try clear p50); (try clear q50); (try clear hx50); (try clear hf50); (try clear c51); (try clear p51); (try clear q51); (try clear hx51); (try clear hf51); (try clear c55); (try clear c56); (try clear c59); (try clear c59b0); (try clear c60); (try clear c60b0); (try clear c63); (try clear c63b0); (try clear p64); (try clear c75); (try clear c80); (try clear hcz30_5); (try clear hcz30_6); (try clear hcz30_7); (try clear hcz30_8); (try clear hfz11_0); (try clear hfz11_1); (try clear hfz11_2); (try clear hfz11_3); (try clear hfz11_4); (try clear hfz11_5); (try clear hfz11_6); (try clear hfz11_7); (try clear hfz11_8); (try clear hfz23_0); (try clear hfz23_1); (try clear hfz23_2); (try clear hfz23_3); (try clear hfz23_4); (try clear hfz23_5); (try clear hfz23_6); (try clear hfz23_7); (try clear hfz23_8); (try clear hfz25_0); (try clear hfz25_1); (try clear hfz25_2); (try clear hfz25_3); (try clear hfz25_4); (try clear hfz25_5); (try clear hfz25_6); (try clear hfz25_7); (try clear hfz25_8); (try clear hfz27_0); (try clear hfz27_1); (try clear hfz27_2); (try clear hfz27_3); (try clear hfz27_4); (try clear hfz27_5); (try clear hfz27_6); (try clear hfz27_7); (try clear hfz27_8); (try clear hfz30_0); (try clear hfz30_1); (try clear hfz30_2); (try clear hfz30_3); (try clear hfz30_4); (try clear hfz30_5); (try clear hfz30_6); (try clear hfz30_7); (try clear hfz30_8); (try clear hx361_0); (try clear hx361_1); (try clear hx361_2); (try clear hx361_3); (try clear hx361_4); (try clear hx361_5); (try clear hx361_6); (try clear hx361_7); (try clear hx361_8); (try clear hx375_0); (try clear hx375_1); (try clear hx375_2); (try clear hx375_3); (try clear hx375_4); (try clear hx375_5); (try clear hx375_6); (try clear hx375_7); (try clear hx375_8); (try clear hx376_0); (try clear hx376_1); (try clear hx376_2); (try clear hx376_3); (try clear hx376_4); (try clear hx376_5); (try clear hx376_6); (try clear hx376_7); (try clear hx376_8); (try clear hx377_0); (try clear hx377_1); (try clear hx377_2); (try clear hx377_3); (try clear hx377_4); (try clear hx377_5); (try clear hx377_6); (try clear hx377_7); (try clear hx377_8); (try clear hx393_0); (try clear hx394_0); (try clear hx394_1); (try clear hx394_2); (try clear hx394_3); (try clear hx394_4); (try clear hx394_5); (try clear hx394_6); (try clear hx394_7); (try clear hx394_8); (try clear hx395_0); (try clear hx395_1); (try clear hx395_2); (try clear hx395_3); (try clear hx395_4); (try clear hx395_5); (try clear hx395_6); (try clear hx395_7); (try clear hx395_8); (try clear hx398_0); (try clear hx398_1); (try clear hx398_2); (try clear hx398_3); (try clear hx398_4); (try clear hx398_5); (try clear hx398_6); (try clear hx398_7); (try clear hx398_8); (try clear hx411_0); (try clear hx411_1); (try clear hx411_2); (try clear hx411_3); (try clear hx411_4); (try clear hx411_5); (try clear hx411_6); (try clear hx411_7); (try clear hx411_8); (try clear hx50_0); (try clear hx50_1); (try clear hx50_2); (try clear hx50_3); (try clear hx50_4); (try clear hx50_5); (try clear hx50_6); (try clear hx50_7); (try clear hx50_8); (try clear hx51_0); (try clear hx51_1); (try clear hx51_2); (try clear hx51_3); (try clear hx51_4); (try clear hx51_5); (try clear hx51_6); (try clear hx51_7); (try clear hx51_8); (try clear p2); (try clear p3); (try clear p36); (try clear p361); (try clear p37); (try clear p375); (try clear p376); (try clear p377); (try clear p39); (try clear p393); (try clear p394); (try clear p395); (try clear p398); (try clear p4); (try clear p41); (try clear p411); (try clear p5); (try clear p50); (try clear p51); (try clear p6); (try clear p64); (try clear q3); (try clear q36); (try clear q361); (try clear q37); (try clear q375); (try clear q376); (try clear q377); (try clear q39); (try clear q393); (try clear q394); (try clear q395); (try clear q398); (try clear q4); (try clear q41); (try clear q411); (try clear q5); (try clear q50); (try clear q51)
  obtain ⟨x17_6, rfl, HA, HK6, HO_5, HO_14, HO_15, HB⟩ := hrel
  cases gk with
  | zero => exact absurd HA.out (by simp [cenotaphlaw08_StoreOrders.l4])
  | succ k6 =>
   have H := HA.out
   clear HA
   simp only [cenotaphlaw08_StoreOrders.l4] at H
   by_cases c81 : x17_6 < (x14_4.length : Int)
   ·rw [if_pos c81] at H
    have c81b0 : decide (x17_6 < (x14_4.length : Int)) = true := decide_eq_true c81
    clear c81
    by_cases c82 : 0 ≤ x17_6
    ·rw [if_pos c82] at H
     have c82b0 : decide (0 ≤ x17_6) = true := decide_eq_true c82
     clear c82
     by_cases c83 : x17_6 < (x15_4.length : Int)
     ·rw [if_pos c83] at H
      have c83b0 : decide (x17_6 < (x15_4.length : Int)) = true := decide_eq_true c83
      clear c83
      by_cases c84 : ((rd_T41 x14_4 x17_6).f0) = ((rd_T41 x15_4 x17_6).f0)
      ·rw [if_pos c84] at H
       have c84b0 : (((rd_T41 x14_4 x17_6).f0) == ((rd_T41 x15_4 x17_6).f0)) = true := beq_iff_eq.mpr c84
       have c84b1 : (((rd_T41 x14_4 x17_6).f0) != ((rd_T41 x15_4 x17_6).f0)) = false := bne_eq_false_iff_eq.mpr c84
       clear c84
       by_cases c85 : (!((((rd_T41 x14_4 x17_6).f1.f0).toList) == (((rd_T41 x15_4 x17_6).f1.f0).toList)) || (!(((rd_T41 x14_4 x17_6).f1.f1) == ((rd_T41 x15_4 x17_6).f1.f1)) || (!(((rd_T41 x14_4 x17_6).f1.f2) == ((rd_T41 x15_4 x17_6).f1.f2))))) = true
       ·rw [if_pos c85] at H
        have c85b0 : (!((((rd_T41 x14_4 x17_6).f1.f0).toList) == (((rd_T41 x15_4 x17_6).f1.f0).toList)) || (!(((rd_T41 x14_4 x17_6).f1.f1) == ((rd_T41 x15_4 x17_6).f1.f1)) || (!(((rd_T41 x14_4 x17_6).f1.f2) == ((rd_T41 x15_4 x17_6).f1.f2))))) = true := c85
        clear c85
        exact absurd H (by simp)
       ·rw [if_neg c85] at H
        have c85b0 : (!((((rd_T41 x14_4 x17_6).f1.f0).toList) == (((rd_T41 x15_4 x17_6).f1.f0).toList)) || (!(((rd_T41 x14_4 x17_6).f1.f1) == ((rd_T41 x15_4 x17_6).f1.f1)) || (!(((rd_T41 x14_4 x17_6).f1.f2) == ((rd_T41 x15_4 x17_6).f1.f2))))) = false := by simpa using c85
        clear c85
        by_cases c86 : (((rd_T41 x14_4 x17_6).f5) != ((rd_T41 x15_4 x17_6).f5)) = true
        ·rw [if_pos c86] at H
         have c86b0 : (((rd_T41 x14_4 x17_6).f5) != ((rd_T41 x15_4 x17_6).f5)) = true := c86
         (try (have c86b1 : decide (((rd_T41 x14_4 x17_6).f5) = ((rd_T41 x15_4 x17_6).f5)) = false := by simpa using c86))
         (try (have c86b2 : (((rd_T41 x14_4 x17_6).f5) == ((rd_T41 x15_4 x17_6).f5)) = false := by simpa using c86))
         (try (have c86b3 : ¬ (((rd_T41 x14_4 x17_6).f5) = ((rd_T41 x15_4 x17_6).f5)) := by simpa using c86))
         clear c86
         exact absurd H (by simp)
        ·rw [if_neg c86] at H
         have c86b0 : (((rd_T41 x14_4 x17_6).f5) != ((rd_T41 x15_4 x17_6).f5)) = false := by simpa using c86
         (try (have c86b1 : decide (((rd_T41 x14_4 x17_6).f5) = ((rd_T41 x15_4 x17_6).f5)) = true := by simpa using c86))
         (try (have c86b2 : (((rd_T41 x14_4 x17_6).f5) == ((rd_T41 x15_4 x17_6).f5)) = true := by simpa using c86))
         clear c86
         by_cases c87 : (((rd_T41 x14_4 x17_6).f2) != ((rd_T41 x15_4 x17_6).f2)) = true
         ·rw [if_pos c87] at H
          exact absurd H (by simp)
         ·rw [if_neg c87] at H
          have c87b0 : (((rd_T41 x14_4 x17_6).f2) != ((rd_T41 x15_4 x17_6).f2)) = false := by simpa using c87
          (try (have c87b1 : decide (((rd_T41 x14_4 x17_6).f2) = ((rd_T41 x15_4 x17_6).f2)) = true := by simpa using c87))
          (try (have c87b2 : (((rd_T41 x14_4 x17_6).f2) == ((rd_T41 x15_4 x17_6).f2)) = true := by simpa using c87))
          clear c87
          have H' := Aside0.mk H
          clear H
          obtain ⟨Ao88, co88, eo88⟩ := Kd.R_slice HO_14.out
          subst eo88
          try go_wp2
          replace HO_5 := Aside0.mk (Kd.R_drew HO_5.out)
          replace HO_14 := Aside0.mk (Kd.R_drew HO_14.out)
          replace HO_15 := Aside0.mk (Kd.R_drew HO_15.out)
          replace HB := Aside0.mk (below_drew1 HB.out)
          have p425 : 0 ≤ (x17_6 : Int) := of_decide_eq_true zq4_11
          have q425 : x17_6 < (x14_4.length : Int) := of_decide_eq_true zq4_11
          obtain ⟨ad425, e425, hx425_0, hx425_1, hx425_2, hx425_3, hx425_4, hx425_5, hx425_6, hx425_7⟩ := at_T41 (Kd.R_reads' HO_14.out).2.2 x17_6 p425 q425
          cases e425
          replace p425 := eq_true p425
          replace q425 := eq_true q425
          obtain ⟨Ao90, co90, eo90⟩ := Kd.R_slice HO_15.out
          (first | subst eo90 | (injection eo90 with f1_ f2_ f3_; have f4_ := f1_.symm; have f5_ := f3_.symm; clear f1_ f2_ f3_; subst f4_; subst f5_))
          have p426 : 0 ≤ (x17_6 : Int) := of_decide_eq_true zq4_11
          have q426 : x17_6 < (x15_4.length : Int) := of_decide_eq_true zq4_11
          obtain ⟨ad426, e426, hx426_0, hx426_1, hx426_2, hx426_3, hx426_4, hx426_5, hx426_6, hx426_7⟩ := at_T41 (Kd.R_reads' HO_15.out).2.2 x17_6 p426 q426
          cases e426
          replace p426 := eq_true p426
          replace q426 := eq_true q426
          have p427 : 0 ≤ (x17_6 : Int) := of_decide_eq_true zq4_11
          have q427 : x17_6 < (x14_4.length : Int) := of_decide_eq_true zq4_11
          obtain ⟨ad427, e427, hx427_0, hx427_1, hx427_2, hx427_3, hx427_4, hx427_5, hx427_6, hx427_7⟩ := at_T41 (Kd.R_reads' HO_14.out).2.2 x17_6 p427 q427
          obtain rfl : ad425 = ad427 := (by injection e427)
          replace p427 := eq_true p427
          replace q427 := eq_true q427
          have p428 : 0 ≤ (x17_6 : Int) := of_decide_eq_true zq4_11
          have q428 : x17_6 < (x15_4.length : Int) := of_decide_eq_true zq4_11
          obtain ⟨ad428, e428, hx428_0, hx428_1, hx428_2, hx428_3, hx428_4, hx428_5, hx428_6, hx428_7⟩ := at_T41 (Kd.R_reads' HO_15.out).2.2 x17_6 p428 q428
          obtain rfl : ad426 = ad428 := (by injection e428)
          replace p428 := eq_true p428
          replace q428 := eq_true q428
          have p429 : 0 ≤ (x17_6 : Int) := of_decide_eq_true zq4_11
          have q429 : x17_6 < (x14_4.length : Int) := of_decide_eq_true zq4_11
          obtain ⟨ad429, e429, hx429_0, hx429_1, hx429_2, hx429_3, hx429_4, hx429_5, hx429_6, hx429_7⟩ := at_T41 (Kd.R_reads' HO_14.out).2.2 x17_6 p429 q429
          obtain rfl : ad425 = ad429 := (by injection e429)
          replace p429 := eq_true p429
          replace q429 := eq_true q429
          have p430 : 0 ≤ (x17_6 : Int) := of_decide_eq_true zq4_11
          have q430 : x17_6 < (x15_4.length : Int) := of_decide_eq_true zq4_11
          obtain ⟨ad430, e430, hx430_0, hx430_1, hx430_2, hx430_3, hx430_4, hx430_5, hx430_6, hx430_7⟩ := at_T41 (Kd.R_reads' HO_15.out).2.2 x17_6 p430 q430
          obtain rfl : ad426 = ad430 := (by injection e430)
          replace p430 := eq_true p430
          replace q430 := eq_true q430
          have p431 : 0 ≤ (x17_6 : Int) := of_decide_eq_true zq4_11
          have q431 : x17_6 < (x14_4.length : Int) := of_decide_eq_true zq4_11
          obtain ⟨ad431, e431, hx431_0, hx431_1, hx431_2, hx431_3, hx431_4, hx431_5, hx431_6, hx431_7⟩ := at_T41 (Kd.R_reads' HO_14.out).2.2 x17_6 p431 q431
          obtain rfl : ad425 = ad431 := (by injection e431)
          replace p431 := eq_true p431
          replace q431 := eq_true q431
          have p432 : 0 ≤ (x17_6 : Int) := of_decide_eq_true zq4_11
          have q432 : x17_6 < (x15_4.length : Int) := of_decide_eq_true zq4_11
          obtain ⟨ad432, e432, hx432_0, hx432_1, hx432_2, hx432_3, hx432_4, hx432_5, hx432_6, hx432_7⟩ := at_T41 (Kd.R_reads' HO_15.out).2.2 x17_6 p432 q432
          obtain rfl : ad426 = ad432 := (by injection e432)
          replace p432 := eq_true p432
          replace q432 := eq_true q432
          refine start_ (n := 50) (S := fun w' => w'.cell? (ad425.add ((x17_6).toNat * 8)) = some (.int .i64 ((rd_T41 x14_4 x17_6).f0)) ∧ w'.cell? ⟨(ad425.add ((x17_6).toNat * 8)).block, (ad425.add ((x17_6).toNat * 8)).off + 1, none⟩ = some (.string ((rd_T41 x14_4 x17_6).f1.f0)) ∧ w'.cell? ⟨(ad425.add ((x17_6).toNat * 8)).block, (ad425.add ((x17_6).toNat * 8)).off + 2, none⟩ = some (.int .i64 ((rd_T41 x14_4 x17_6).f1.f1)) ∧ w'.cell? ⟨(ad425.add ((x17_6).toNat * 8)).block, (ad425.add ((x17_6).toNat * 8)).off + 3, none⟩ = some (.int .i64 ((rd_T41 x14_4 x17_6).f1.f2)) ∧ w'.cell? ⟨(ad425.add ((x17_6).toNat * 8)).block, (ad425.add ((x17_6).toNat * 8)).off + 4, none⟩ = some (.bool ((rd_T41 x14_4 x17_6).f2)) ∧ w'.cell? ⟨(ad425.add ((x17_6).toNat * 8)).block, (ad425.add ((x17_6).toNat * 8)).off + 5, none⟩ = some (.complex .f64 ((rd_T41 x14_4 x17_6).f3).re ((rd_T41 x14_4 x17_6).f3).im) ∧ w'.cell? ⟨(ad425.add ((x17_6).toNat * 8)).block, (ad425.add ((x17_6).toNat * 8)).off + 6, none⟩ = some (.string ((rd_T41 x14_4 x17_6).f4)) ∧ w'.cell? ⟨(ad425.add ((x17_6).toNat * 8)).block, (ad425.add ((x17_6).toNat * 8)).off + 7, none⟩ = some (.bool ((rd_T41 x14_4 x17_6).f5)) ∧ w'.cell? (ad426.add ((x17_6).toNat * 8)) = some (.int .i64 ((rd_T41 x15_4 x17_6).f0)) ∧ w'.cell? ⟨(ad426.add ((x17_6).toNat * 8)).block, (ad426.add ((x17_6).toNat * 8)).off + 1, none⟩ = some (.string ((rd_T41 x15_4 x17_6).f1.f0)) ∧ w'.cell? ⟨(ad426.add ((x17_6).toNat * 8)).block, (ad426.add ((x17_6).toNat * 8)).off + 2, none⟩ = some (.int .i64 ((rd_T41 x15_4 x17_6).f1.f1)) ∧ w'.cell? ⟨(ad426.add ((x17_6).toNat * 8)).block, (ad426.add ((x17_6).toNat * 8)).off + 3, none⟩ = some (.int .i64 ((rd_T41 x15_4 x17_6).f1.f2)) ∧ w'.cell? ⟨(ad426.add ((x17_6).toNat * 8)).block, (ad426.add ((x17_6).toNat * 8)).off + 4, none⟩ = some (.bool ((rd_T41 x15_4 x17_6).f2)) ∧ w'.cell? ⟨(ad426.add ((x17_6).toNat * 8)).block, (ad426.add ((x17_6).toNat * 8)).off + 5, none⟩ = some (.complex .f64 ((rd_T41 x15_4 x17_6).f3).re ((rd_T41 x15_4 x17_6).f3).im) ∧ w'.cell? ⟨(ad426.add ((x17_6).toNat * 8)).block, (ad426.add ((x17_6).toNat * 8)).off + 6, none⟩ = some (.string ((rd_T41 x15_4 x17_6).f4)) ∧ w'.cell? ⟨(ad426.add ((x17_6).toNat * 8)).block, (ad426.add ((x17_6).toNat * 8)).off + 7, none⟩ = some (.bool ((rd_T41 x15_4 x17_6).f5)) ∧ w'.cell? (ad425.add ((x17_6).toNat * 8)) = some (.int .i64 ((rd_T41 x14_4 x17_6).f0)) ∧ w'.cell? ⟨(ad425.add ((x17_6).toNat * 8)).block, (ad425.add ((x17_6).toNat * 8)).off + 1, none⟩ = some (.string ((rd_T41 x14_4 x17_6).f1.f0)) ∧ w'.cell? ⟨(ad425.add ((x17_6).toNat * 8)).block, (ad425.add ((x17_6).toNat * 8)).off + 2, none⟩ = some (.int .i64 ((rd_T41 x14_4 x17_6).f1.f1)) ∧ w'.cell? ⟨(ad425.add ((x17_6).toNat * 8)).block, (ad425.add ((x17_6).toNat * 8)).off + 3, none⟩ = some (.int .i64 ((rd_T41 x14_4 x17_6).f1.f2)) ∧ w'.cell? ⟨(ad425.add ((x17_6).toNat * 8)).block, (ad425.add ((x17_6).toNat * 8)).off + 4, none⟩ = some (.bool ((rd_T41 x14_4 x17_6).f2)) ∧ w'.cell? ⟨(ad425.add ((x17_6).toNat * 8)).block, (ad425.add ((x17_6).toNat * 8)).off + 5, none⟩ = some (.complex .f64 ((rd_T41 x14_4 x17_6).f3).re ((rd_T41 x14_4 x17_6).f3).im) ∧ w'.cell? ⟨(ad425.add ((x17_6).toNat * 8)).block, (ad425.add ((x17_6).toNat * 8)).off + 6, none⟩ = some (.string ((rd_T41 x14_4 x17_6).f4)) ∧ w'.cell? ⟨(ad425.add ((x17_6).toNat * 8)).block, (ad425.add ((x17_6).toNat * 8)).off + 7, none⟩ = some (.bool ((rd_T41 x14_4 x17_6).f5)) ∧ w'.cell? (ad426.add ((x17_6).toNat * 8)) = some (.int .i64 ((rd_T41 x15_4 x17_6).f0)) ∧ w'.cell? ⟨(ad426.add ((x17_6).toNat * 8)).block, (ad426.add ((x17_6).toNat * 8)).off + 1, none⟩ = some (.string ((rd_T41 x15_4 x17_6).f1.f0)) ∧ w'.cell? ⟨(ad426.add ((x17_6).toNat * 8)).block, (ad426.add ((x17_6).toNat * 8)).off + 2, none⟩ = some (.int .i64 ((rd_T41 x15_4 x17_6).f1.f1)) ∧ w'.cell? ⟨(ad426.add ((x17_6).toNat * 8)).block, (ad426.add ((x17_6).toNat * 8)).off + 3, none⟩ = some (.int .i64 ((rd_T41 x15_4 x17_6).f1.f2)) ∧ w'.cell? ⟨(ad426.add ((x17_6).toNat * 8)).block, (ad426.add ((x17_6).toNat * 8)).off + 4, none⟩ = some (.bool ((rd_T41 x15_4 x17_6).f2)) ∧ w'.cell? ⟨(ad426.add ((x17_6).toNat * 8)).block, (ad426.add ((x17_6).toNat * 8)).off + 5, none⟩ = some (.complex .f64 ((rd_T41 x15_4 x17_6).f3).re ((rd_T41 x15_4 x17_6).f3).im) ∧ w'.cell? ⟨(ad426.add ((x17_6).toNat * 8)).block, (ad426.add ((x17_6).toNat * 8)).off + 6, none⟩ = some (.string ((rd_T41 x15_4 x17_6).f4)) ∧ w'.cell? ⟨(ad426.add ((x17_6).toNat * 8)).block, (ad426.add ((x17_6).toNat * 8)).off + 7, none⟩ = some (.bool ((rd_T41 x15_4 x17_6).f5)) ∧ w'.cell? (ad425.add ((x17_6).toNat * 8)) = some (.int .i64 ((rd_T41 x14_4 x17_6).f0)) ∧ w'.cell? ⟨(ad425.add ((x17_6).toNat * 8)).block, (ad425.add ((x17_6).toNat * 8)).off + 1, none⟩ = some (.string ((rd_T41 x14_4 x17_6).f1.f0)) ∧ w'.cell? ⟨(ad425.add ((x17_6).toNat * 8)).block, (ad425.add ((x17_6).toNat * 8)).off + 2, none⟩ = some (.int .i64 ((rd_T41 x14_4 x17_6).f1.f1)) ∧ w'.cell? ⟨(ad425.add ((x17_6).toNat * 8)).block, (ad425.add ((x17_6).toNat * 8)).off + 3, none⟩ = some (.int .i64 ((rd_T41 x14_4 x17_6).f1.f2)) ∧ w'.cell? ⟨(ad425.add ((x17_6).toNat * 8)).block, (ad425.add ((x17_6).toNat * 8)).off + 4, none⟩ = some (.bool ((rd_T41 x14_4 x17_6).f2)) ∧ w'.cell? ⟨(ad425.add ((x17_6).toNat * 8)).block, (ad425.add ((x17_6).toNat * 8)).off + 5, none⟩ = some (.complex .f64 ((rd_T41 x14_4 x17_6).f3).re ((rd_T41 x14_4 x17_6).f3).im) ∧ w'.cell? ⟨(ad425.add ((x17_6).toNat * 8)).block, (ad425.add ((x17_6).toNat * 8)).off + 6, none⟩ = some (.string ((rd_T41 x14_4 x17_6).f4)) ∧ w'.cell? ⟨(ad425.add ((x17_6).toNat * 8)).block, (ad425.add ((x17_6).toNat * 8)).off + 7, none⟩ = some (.bool ((rd_T41 x14_4 x17_6).f5)) ∧ w'.cell? (ad426.add ((x17_6).toNat * 8)) = some (.int .i64 ((rd_T41 x15_4 x17_6).f0)) ∧ w'.cell? ⟨(ad426.add ((x17_6).toNat * 8)).block, (ad426.add ((x17_6).toNat * 8)).off + 1, none⟩ = some (.string ((rd_T41 x15_4 x17_6).f1.f0)) ∧ w'.cell? ⟨(ad426.add ((x17_6).toNat * 8)).block, (ad426.add ((x17_6).toNat * 8)).off + 2, none⟩ = some (.int .i64 ((rd_T41 x15_4 x17_6).f1.f1)) ∧ w'.cell? ⟨(ad426.add ((x17_6).toNat * 8)).block, (ad426.add ((x17_6).toNat * 8)).off + 3, none⟩ = some (.int .i64 ((rd_T41 x15_4 x17_6).f1.f2)) ∧ w'.cell? ⟨(ad426.add ((x17_6).toNat * 8)).block, (ad426.add ((x17_6).toNat * 8)).off + 4, none⟩ = some (.bool ((rd_T41 x15_4 x17_6).f2)) ∧ w'.cell? ⟨(ad426.add ((x17_6).toNat * 8)).block, (ad426.add ((x17_6).toNat * 8)).off + 5, none⟩ = some (.complex .f64 ((rd_T41 x15_4 x17_6).f3).re ((rd_T41 x15_4 x17_6).f3).im) ∧ w'.cell? ⟨(ad426.add ((x17_6).toNat * 8)).block, (ad426.add ((x17_6).toNat * 8)).off + 6, none⟩ = some (.string ((rd_T41 x15_4 x17_6).f4)) ∧ w'.cell? ⟨(ad426.add ((x17_6).toNat * 8)).block, (ad426.add ((x17_6).toNat * 8)).off + 7, none⟩ = some (.bool ((rd_T41 x15_4 x17_6).f5)) ∧ w'.cell? (ad425.add ((x17_6).toNat * 8)) = some (.int .i64 ((rd_T41 x14_4 x17_6).f0)) ∧ w'.cell? ⟨(ad425.add ((x17_6).toNat * 8)).block, (ad425.add ((x17_6).toNat * 8)).off + 1, none⟩ = some (.string ((rd_T41 x14_4 x17_6).f1.f0)) ∧ w'.cell? ⟨(ad425.add ((x17_6).toNat * 8)).block, (ad425.add ((x17_6).toNat * 8)).off + 2, none⟩ = some (.int .i64 ((rd_T41 x14_4 x17_6).f1.f1)) ∧ w'.cell? ⟨(ad425.add ((x17_6).toNat * 8)).block, (ad425.add ((x17_6).toNat * 8)).off + 3, none⟩ = some (.int .i64 ((rd_T41 x14_4 x17_6).f1.f2)) ∧ w'.cell? ⟨(ad425.add ((x17_6).toNat * 8)).block, (ad425.add ((x17_6).toNat * 8)).off + 4, none⟩ = some (.bool ((rd_T41 x14_4 x17_6).f2)) ∧ w'.cell? ⟨(ad425.add ((x17_6).toNat * 8)).block, (ad425.add ((x17_6).toNat * 8)).off + 5, none⟩ = some (.complex .f64 ((rd_T41 x14_4 x17_6).f3).re ((rd_T41 x14_4 x17_6).f3).im) ∧ w'.cell? ⟨(ad425.add ((x17_6).toNat * 8)).block, (ad425.add ((x17_6).toNat * 8)).off + 6, none⟩ = some (.string ((rd_T41 x14_4 x17_6).f4)) ∧ w'.cell? ⟨(ad425.add ((x17_6).toNat * 8)).block, (ad425.add ((x17_6).toNat * 8)).off + 7, none⟩ = some (.bool ((rd_T41 x14_4 x17_6).f5)) ∧ w'.cell? (ad426.add ((x17_6).toNat * 8)) = some (.int .i64 ((rd_T41 x15_4 x17_6).f0)) ∧ w'.cell? ⟨(ad426.add ((x17_6).toNat * 8)).block, (ad426.add ((x17_6).toNat * 8)).off + 1, none⟩ = some (.string ((rd_T41 x15_4 x17_6).f1.f0)) ∧ w'.cell? ⟨(ad426.add ((x17_6).toNat * 8)).block, (ad426.add ((x17_6).toNat * 8)).off + 2, none⟩ = some (.int .i64 ((rd_T41 x15_4 x17_6).f1.f1)) ∧ w'.cell? ⟨(ad426.add ((x17_6).toNat * 8)).block, (ad426.add ((x17_6).toNat * 8)).off + 3, none⟩ = some (.int .i64 ((rd_T41 x15_4 x17_6).f1.f2)) ∧ w'.cell? ⟨(ad426.add ((x17_6).toNat * 8)).block, (ad426.add ((x17_6).toNat * 8)).off + 4, none⟩ = some (.bool ((rd_T41 x15_4 x17_6).f2)) ∧ w'.cell? ⟨(ad426.add ((x17_6).toNat * 8)).block, (ad426.add ((x17_6).toNat * 8)).off + 5, none⟩ = some (.complex .f64 ((rd_T41 x15_4 x17_6).f3).re ((rd_T41 x15_4 x17_6).f3).im) ∧ w'.cell? ⟨(ad426.add ((x17_6).toNat * 8)).block, (ad426.add ((x17_6).toNat * 8)).off + 6, none⟩ = some (.string ((rd_T41 x15_4 x17_6).f4)) ∧ w'.cell? ⟨(ad426.add ((x17_6).toNat * 8)).block, (ad426.add ((x17_6).toNat * 8)).off + 7, none⟩ = some (.bool ((rd_T41 x15_4 x17_6).f5))) (ds := []) #[bF4, bF4, bF4, bF4, bF4, bF4, bF4, bF4, bF4, bF4, bF4, bF4, bF4, bF4, bF4, bF4, bF4, bF4, bF4, bF4, bF4, bF4, bF4, bF4, bF4, bF4, bF4, bF4, bF4, bF4, bF4, bF4, bF4, bF4, bF4, bF4, bF4, bF4, bF4, bF4, bF4, bF4, bF4, bF4, bF4, bF4, bF4, bF4, bF4, bF4] (by kernel_rfl) rfl rfl ⟨hx425_0, hx425_1, hx425_2, hx425_3, hx425_4, hx425_5, hx425_6, hx425_7, hx426_0, hx426_1, hx426_2, hx426_3, hx426_4, hx426_5, hx426_6, hx426_7, hx427_0, hx427_1, hx427_2, hx427_3, hx427_4, hx427_5, hx427_6, hx427_7, hx428_0, hx428_1, hx428_2, hx428_3, hx428_4, hx428_5, hx428_6, hx428_7, hx429_0, hx429_1, hx429_2, hx429_3, hx429_4, hx429_5, hx429_6, hx429_7, hx430_0, hx430_1, hx430_2, hx430_3, hx430_4, hx430_5, hx430_6, hx430_7, hx431_0, hx431_1, hx431_2, hx431_3, hx431_4, hx431_5, hx431_6, hx431_7, hx432_0, hx432_1, hx432_2, hx432_3, hx432_4, hx432_5, hx432_6, hx432_7⟩ (fun hHeld => ?_); refine with_tabW cenotaphlaw08_StoreOrders.tab32 cenotaphlaw08_StoreOrders.bits32 (fun HT_ HW_ => ?_)
          generalize wr.drew = w89 at HO_5 HO_14 HO_15 HB hx425_0 hx425_1 hx425_2 hx425_3 hx425_4 hx425_5 hx425_6 hx425_7 hx426_0 hx426_1 hx426_2 hx426_3 hx426_4 hx426_5 hx426_6 hx426_7 hx427_0 hx427_1 hx427_2 hx427_3 hx427_4 hx427_5 hx427_6 hx427_7 hx428_0 hx428_1 hx428_2 hx428_3 hx428_4 hx428_5 hx428_6 hx428_7 hx429_0 hx429_1 hx429_2 hx429_3 hx429_4 hx429_5 hx429_6 hx429_7 hx430_0 hx430_1 hx430_2 hx430_3 hx430_4 hx430_5 hx430_6 hx430_7 hx431_0 hx431_1 hx431_2 hx431_3 hx431_4 hx431_5 hx431_6 hx431_7 hx432_0 hx432_1 hx432_2 hx432_3 hx432_4 hx432_5 hx432_6 hx432_7 hHeld ⊢
          refine p_ 0 165 (mk_ 50 0x1) ?_
          refine p_ 1 166 (mk_ 50 0x3) ?_
          refine p_ 2 167 (mk_ 50 0x7) ?_
          refine p_ 3 168 (mk_ 50 0xf) ?_
          refine p_ 5 170 (mk_ 50 0x2f) ?_
          refine p_ 6 171 (mk_ 50 0x6f) ?_
          refine p_ 7 172 (mk_ 50 0xef) ?_
          refine p_ 8 173 (mk_ 50 0x1ef) ?_
          refine t_ 4 169 (mk_ 50 0x1ff) hHeld ?_
          refine t_ 9 174 (mk_ 50 0x3ff) hHeld ?_
          refine p_ 10 175 (mk_ 50 0x7ff) ?_
          refine p_ 11 176 (mk_ 50 0xfff) ?_
          refine p_ 12 177 (mk_ 50 0x1fff) ?_
          refine p_ 13 178 (mk_ 50 0x3fff) ?_
          refine p_ 14 179 (mk_ 50 0x7fff) ?_
          refine p_ 15 180 (mk_ 50 0xffff) ?_
          refine p_ 17 182 (mk_ 50 0x2ffff) ?_
          refine p_ 18 183 (mk_ 50 0x6ffff) ?_
          refine p_ 19 184 (mk_ 50 0xeffff) ?_
          refine p_ 20 185 (mk_ 50 0x1effff) ?_
          refine t_ 16 181 (mk_ 50 0x1fffff) hHeld ?_
          refine t_ 21 186 (mk_ 50 0x3fffff) hHeld ?_
          refine p_ 22 187 (mk_ 50 0x7fffff) ?_
          refine p_ 23 188 (mk_ 50 0xffffff) ?_
          refine p_ 24 189 (mk_ 50 0x1ffffff) ?_
          refine p_ 25 190 (mk_ 50 0x3ffffff) ?_
          refine p_ 26 191 (mk_ 50 0x7ffffff) ?_
          refine p_ 27 192 (mk_ 50 0xfffffff) ?_
          refine p_ 28 193 (mk_ 50 0x1fffffff) ?_
          refine p_ 30 195 (mk_ 50 0x5fffffff) ?_
          refine p_ 31 196 (mk_ 50 0xdfffffff) ?_
          refine p_ 32 197 (mk_ 50 0x1dfffffff) ?_
          refine p_ 33 198 (mk_ 50 0x3dfffffff) ?_
          refine t_ 29 194 (mk_ 50 0x3ffffffff) hHeld ?_
          refine t_ 34 199 (mk_ 50 0x7ffffffff) hHeld ?_
          refine p_ 35 200 (mk_ 50 0xfffffffff) ?_
          refine p_ 36 201 (mk_ 50 0x1fffffffff) ?_
          refine p_ 37 202 (mk_ 50 0x3fffffffff) ?_
          refine p_ 38 203 (mk_ 50 0x7fffffffff) ?_
          refine p_ 39 204 (mk_ 50 0xffffffffff) ?_
          refine p_ 40 205 (mk_ 50 0x1ffffffffff) ?_
          refine p_ 41 206 (mk_ 50 0x3ffffffffff) ?_
          refine p_ 43 208 (mk_ 50 0xbffffffffff) ?_
          refine p_ 44 209 (mk_ 50 0x1bffffffffff) ?_
          refine p_ 45 210 (mk_ 50 0x3bffffffffff) ?_
          refine p_ 46 211 (mk_ 50 0x7bffffffffff) ?_
          refine t_ 42 207 (mk_ 50 0x7fffffffffff) hHeld ?_
          refine t_ 47 212 (mk_ 50 0xffffffffffff) hHeld ?_
          refine p_ 48 213 (mk_ 50 0x1ffffffffffff) ?_
          refine p_ 49 214 (mk_ 50 0x3ffffffffffff) ?_
          refine done_ (done_of HT_.out (by kernel_rfl)) ?_
          try go_wp2
          go_roundg k6
          case measure => have := HK1.out; have := HJ2.out; have := HJ32.out; have := HK4.out; have := HJ72.out; have := HK6.out; omega
          case rel => exact ⟨(wrap64 (x17_6 + 1)), zq4_12, H', ⟨by have := HK1.out; have := HJ2.out; have := HJ32.out; have := HK4.out; have := HJ72.out; have := HK6.out; omega⟩, ⟨by (with_reducible repeat (first | apply Kd.R_alloc | apply Kd.R_drewN | apply Kd.R_drew)); exact HO_5.out⟩, ⟨by (with_reducible repeat (first | apply Kd.R_alloc | apply Kd.R_drewN | apply Kd.R_drew)); exact HO_14.out⟩, ⟨by (with_reducible repeat (first | apply Kd.R_alloc | apply Kd.R_drewN | apply Kd.R_drew)); exact HO_15.out⟩, ⟨by repeat (first | (with_reducible first | exact HB.out | apply below_alloc | apply pw_below_drewN | apply below_drew1) | exact HB.out)⟩⟩
      ·rw [if_neg c84] at H
       have c84b0 : (((rd_T41 x14_4 x17_6).f0) == ((rd_T41 x15_4 x17_6).f0)) = false := beq_eq_false_iff_ne.mpr c84
       have c84b1 : (((rd_T41 x14_4 x17_6).f0) != ((rd_T41 x15_4 x17_6).f0)) = true := bne_iff_ne.mpr c84
       exact absurd H (by simp)
     ·rw [if_neg c83] at H
      exact absurd H (by simp)
    ·rw [if_neg c82] at H
     exact absurd H (by simp)
   ·rw [if_neg c81] at H
    have c81b0 : decide (x17_6 < (x14_4.length : Int)) = false := decide_eq_false c81
    clear c81
    have H' := Aside0.mk H
    clear H
    obtain ⟨Ao91, co91, eo91⟩ := Kd.R_slice HO_14.out
    subst eo91
    go_wp2
    go_loopg [18] k6 (fun kq v18 w' => ∃ (x18_7 : Int), v18 = .int .i64 x18_7 ∧ Aside0 (cenotaphlaw08_StoreOrders.l5 kq x5_1 x14_4 x18_7 = some r) ∧ Aside0 (kq ≤ k6) ∧ Aside0 (Kd.R k28 28 w' w.heap.size (fun _ => True) (.slice Ao37 x5_1.length co37) x5_1) ∧ Aside0 (Kd.R k41 41 w' w.heap.size (fun _ => True) (.slice Ao91 x14_4.length co91) x14_4) ∧ Aside0 (Below w.heap.size w w'))
    case atStart => exact ⟨(0), zq4_12, H', ⟨Nat.le_refl _⟩, ⟨by (with_reducible repeat (first | apply Kd.R_alloc | apply Kd.R_drewN | apply Kd.R_drew)); exact HO_5.out⟩, ⟨by (with_reducible repeat (first | apply Kd.R_alloc | apply Kd.R_drewN | apply Kd.R_drew)); exact Kd.R_mono HO_14.out (fun _ hk => trivial)⟩, ⟨by repeat (first | (with_reducible first | exact HB.out | apply below_alloc | apply pw_below_drewN | apply below_drew1) | exact HB.out)⟩⟩
    case round =>
     clear H'
     (try clear p2); (try clear p3); (try clear q3); (try clear p4); (try clear q4); (try clear hx4); (try clear p5); (try clear q5); (try clear hx5); (try clear p6); (try clear c8); (try clear p36); (try clear q36); (try clear p37); (try clear q37); (try clear p39); (try clear q39); (try clear p41); (try clear q41); (try clear p42); (try clear q42); (try clear hx42); (try clear p43); (try clear q43); (try clear hx43); (try clear p50); (try clear q50); (try clear hx50); (try clear p51); (try clear q51); (try clear hx51); (try clear p64); (try clear c81); (try clear c81b0); (try clear c82); (try clear c82b0); (try clear c83); (try clear c83b0); (try clear c84); (try clear c84b0); (try clear c84b1); (try clear c85); (try clear c85b0); (try clear c86); (try clear c86b0); (try clear c86b1); (try clear c86b2); (try clear c87); (try clear c87b0); (try clear c87b1); (try clear c87b2); (try clear hx425_0); (try clear hx425_1); (try clear hx425_2); (try clear hx425_3); (try clear hx425_4); (try clear hx425_5); (try clear hx425_6); (try clear hx425_7); (try clear hx426_0); (try clear hx426_1); (try clear hx426_2); (try clear hx426_3); (try clear hx426_4); (try clear hx426_5); (try clear hx426_6); (try clear hx426_7); (try clear hx427_0); (try clear hx427_1); (try clear hx427_2); (try clear hx427_3); (try clear hx427_4); (try clear hx427_5); (try clear hx427_6); (try clear hx427_7); (try clear hx428_0); (try clear hx428_1); (try clear hx428_2); (try clear hx428_3); (try clear hx428_4); (try clear hx428_5); (try clear hx428_6); (try clear hx428_7); (try clear hx429_0); (try clear hx429_1); (try clear hx429_2); (try clear hx429_3); (try clear hx429_4); (try clear hx429_5); (try clear hx429_6); (try clear hx429_7); (try clear hx430_0); (try clear hx430_1); (try clear hx430_2); (try clear hx430_3); (try clear hx430_4); (try clear hx430_5); (try clear hx430_6); (try clear hx430_7); (try clear hx431_0); (try clear hx431_1); (try clear hx431_2); (try clear hx431_3); (try clear hx431_4); (try clear hx431_5); (try clear hx431_6); (try clear hx431_7); (try clear hx432_0); (try clear hx432_1); (try clear hx432_2); (try clear hx432_3); (try clear hx432_4); (try clear hx432_5); (try clear hx432_6); (try clear hx432_7); (try clear hx50_5); (try clear hx50_6); (try clear hx50_7); (try clear hx50_8); (try clear hx51_0); (try clear hx51_1); (try clear hx51_2); (try clear hx51_3); (try clear hx51_4); (try clear hx51_5); (try clear hx51_6); (try clear hx51_7); (try clear hx51_8); (try clear p2); (try clear p3); (try clear p36); (try clear p361); (try clear p37); (try clear p375); (try clear p376); (try clear p377); (try clear p39); (try clear p393); (try clear p394); (try clear p395); (try clear p398); (try clear p4); (try clear p41); (try clear p411); (try clear p425); (try clear p426); (try clear p427); (try clear p428); (try clear p429); (try clear p430); (try clear p431); (try clear p432); (try clear p5); (try clear p50); (try clear p51); (try clear p6); (try clear p64); (try clear q3); (try clear q36); (try clear q361); (try clear q37); (try clear q375); (try clear q376); (try clear q377); (try clear q39); (try clear q393); (try clear q394); (try clear q395); (try clear q398); (try clear q4); (try clear q41); (try clear q411); (try clear q425); (try clear q426); (try clear q427); (try clear q428); (try clear q429); (try clear q430); (try clear q431); (try clear q432); (try clear q5); (try clear q50); (try clear q51)
     obtain ⟨x18_7, rfl, HA, HK7, HO_5, HO_14, HB⟩ := hrel
     cases gk with
     | zero => exact absurd HA.out (by simp [cenotaphlaw08_StoreOrders.l5])
     | succ k7 =>
      have H := HA.out
      clear HA
      simp only [cenotaphlaw08_StoreOrders.l5] at H
      by_cases c92 : x18_7 < (x5_1.length : Int)
      ·rw [if_pos c92] at H
       have c92b0 : decide (x18_7 < (x5_1.length : Int)) = true := decide_eq_true c92
       clear c92
       by_cases c93 : 0 ≤ x18_7
       ·rw [if_pos c93] at H
        have c93b0 : decide (0 ≤ x18_7) = true := decide_eq_true c93
        clear c93
        replace H := Option.bind_eq_some_iff.mp H
        obtain ⟨⟨t434, t435, t436, t437, t438, t439, t440, t441, t442⟩, A940, H⟩ := H
        try dsimp only at H
        have A94 := Aside0.mk A940
        clear A940
        by_cases c95 : t442 = true
        ·subst c95
         have H1 : ((cenotaphlaw07_From.f t434 t435 t436 t437 t438 t439 t440 t441).bind fun bt445 => ((cenotaphref07_Newer.f k7 ((rd_T28 x5_1 x18_7).f1.f0) ((rd_T28 x5_1 x18_7).f1.f1) ((rd_T28 x5_1 x18_7).f1.f2) bt445.2.1 bt445.2.2.1 bt445.2.2.2.1).bind fun t454 => (if t454 = true then (none) else ((cenotaphlaw07_From.f t434 t435 t436 t437 t438 t439 t440 t441).bind fun bt456 => (if ((((rd_T28 x5_1 x18_7).f1.f0).toList) == bt456.2.1.toList && (((rd_T28 x5_1 x18_7).f1.f1) == bt456.2.2.1 && (((rd_T28 x5_1 x18_7).f1.f2) == bt456.2.2.2.1))) = true then (if (rd_T28 x5_1 x18_7).f5 = true then (if t441 = true then (cenotaphlaw08_StoreOrders.l5 k7 x5_1 x14_4 (wrap64 (x18_7 + 1))) else (none)) else (cenotaphlaw08_StoreOrders.l5 k7 x5_1 x14_4 (wrap64 (x18_7 + 1)))) else (cenotaphlaw08_StoreOrders.l5 k7 x5_1 x14_4 (wrap64 (x18_7 + 1)))))))) = some r := by rw [if_pos rfl] at H; exact H
         clear H
         have H := H1
         clear H1
         replace H := Option.bind_eq_some_iff.mp H
         obtain ⟨⟨t445, t446, t447, t448, t449, t450, t451, t452, t453⟩, A960, H⟩ := H
         try dsimp only at H
         have A96 := Aside0.mk A960
         clear A960
         replace H := Option.bind_eq_some_iff.mp H
         obtain ⟨t454, A970, H⟩ := H
         try dsimp only at H
         have A97 := Aside0.mk A970
         clear A970
         by_cases c98 : t454 = true
         ·subst c98
          have H1 : (none) = some r := by rw [if_pos rfl] at H; exact H
          clear H
          have H := H1
          clear H1
          exact absurd H (by simp)
         ·replace c98 := Bool.eq_false_iff.mpr c98
          subst c98
          have H1 : ((cenotaphlaw07_From.f t434 t435 t436 t437 t438 t439 t440 t441).bind fun bt456 => (if ((((rd_T28 x5_1 x18_7).f1.f0).toList) == bt456.2.1.toList && (((rd_T28 x5_1 x18_7).f1.f1) == bt456.2.2.1 && (((rd_T28 x5_1 x18_7).f1.f2) == bt456.2.2.2.1))) = true then (if (rd_T28 x5_1 x18_7).f5 = true then (if t441 = true then (cenotaphlaw08_StoreOrders.l5 k7 x5_1 x14_4 (wrap64 (x18_7 + 1))) else (none)) else (cenotaphlaw08_StoreOrders.l5 k7 x5_1 x14_4 (wrap64 (x18_7 + 1)))) else (cenotaphlaw08_StoreOrders.l5 k7 x5_1 x14_4 (wrap64 (x18_7 + 1))))) = some r := by rw [if_neg (show ¬ (false = true) by decide)] at H; exact H
          clear H
          have H := H1
          clear H1
          replace H := Option.bind_eq_some_iff.mp H
          obtain ⟨⟨t456, t457, t458, t459, t460, t461, t462, t463, t464⟩, A990, H⟩ := H
          have A99 := Aside0.mk A990
          clear A990
          by_cases c100 : ((((rd_T28 x5_1 x18_7).f1.f0).toList) == t457.toList && (((rd_T28 x5_1 x18_7).f1.f1) == t458 && (((rd_T28 x5_1 x18_7).f1.f2) == t459))) = true
          ·rw [if_pos c100] at H
           have c100b0 : ((((rd_T28 x5_1 x18_7).f1.f0).toList) == t457.toList && (((rd_T28 x5_1 x18_7).f1.f1) == t458 && (((rd_T28 x5_1 x18_7).f1.f2) == t459))) = true := c100
           (try (have c100b1 : decide ((((rd_T28 x5_1 x18_7).f1.f0).toList) = t457.toList && (((rd_T28 x5_1 x18_7).f1.f1) == t458 && (((rd_T28 x5_1 x18_7).f1.f2) == t459))) = true := by simpa using c100))
           (try (have c100b2 : ((((rd_T28 x5_1 x18_7).f1.f0).toList) == t457.toList && (((rd_T28 x5_1 x18_7).f1.f1) == t458 && (((rd_T28 x5_1 x18_7).f1.f2) == t459))) = true := by simpa using c100))
           clear c100
           obtain ⟨bq101, hbq101⟩ : ∃ b_ : Bool, b_ = ((rd_T28 x5_1 x18_7).f5) := ⟨_, rfl⟩
           replace H : (if bq101 = true then (if t441 = true then (cenotaphlaw08_StoreOrders.l5 k7 x5_1 x14_4 (wrap64 (x18_7 + 1))) else (none)) else (cenotaphlaw08_StoreOrders.l5 k7 x5_1 x14_4 (wrap64 (x18_7 + 1)))) = some r := by rw [← hbq101] at H; exact H
           have Nbq101 := Aside0.mk hbq101
           clear hbq101
           by_cases c102 : bq101 = true
           ·subst c102
            have H1 : (if t441 = true then (cenotaphlaw08_StoreOrders.l5 k7 x5_1 x14_4 (wrap64 (x18_7 + 1))) else (none)) = some r := by rw [if_pos rfl] at H; exact H
            clear H
            have H := H1
            clear H1
            by_cases c103 : t441 = true
            ·subst c103
             have H1 : (cenotaphlaw08_StoreOrders.l5 k7 x5_1 x14_4 (wrap64 (x18_7 + 1))) = some r := by rw [if_pos rfl] at H; exact H
             clear H
             have H := H1
             clear H1
             have H' := Aside0.mk H
             clear H
             have p433 : 0 ≤ (x18_7 : Int) := of_decide_eq_true zq4_11
             have q433 : x18_7 < (x5_1.length : Int) := of_decide_eq_true zq4_11
             obtain ⟨ad433, e433, hx433_0, hx433_1, hx433_2, hx433_3, hx433_4, hx433_5, hx433_6, hx433_7, hx433_8⟩ := at_T28 (Kd.R_reads' HO_5.out).2.2 x18_7 p433 q433
             (try rw [← Nbq101.out] at hx433_4)
             (try rw [← Nbq101.out] at hx433_8)
             cases e433
             replace p433 := eq_true p433
             replace q433 := eq_true q433
             try go_wp2_with (first | ((with_reducible refine gate_callee (f := 14) rfl ?_); refine goesL_ (some 228) rfl rfl Try.func14 (by kernel_rfl) rfl #[.slice Ao91 x14_4.length co91, .int .i64 ((rd_T28 x5_1 x18_7).f0)] rfl zq4_3 ?_; (with_reducible refine (store_Get.calls _ _ x14_4 ((rd_T28 x5_1 x18_7).f0) t434 t435 t436 t437 t438 t439 t440 true true _ ?side1 ?side2 A94.out).mono ?_); (case side1 => repeat (first | exact (Kd.R_reads' HO_14.out).2.2 | (with_reducible refine Kd.C_alloc ?_ _) | (with_reducible refine Kd.C_drewN ?_ _) | (with_reducible refine Kd.C_drew ?_))); (case side2 => exact (Kd.R_reads' HO_14.out).2.1); rintro e w104 ⟨rfl, hb⟩; refine ⟨_, rfl, ?_⟩; replace HO_5 := Aside0.mk (Kd.R_below zq4_10 hb); replace HO_14 := Aside0.mk (Kd.R_below zq4_7 hb); replace HB := Aside0.mk (below_step zq4_4 hb); (try clear hb); (try clear hb2); (try clear hk); (try clear hi)) | ((with_reducible refine gate_dst (N := 19) rfl ?_); (try (refine gate_guard (by rfl) ?_; dsimp only)); refine box_event ?hg (N := 19) ?hd (cs := #[.int .i64 0, .string (⟨#[]⟩ : ByteArray), .int .i64 0, .int .i64 0, .bool false, .complex .f64 0 0, .string (⟨#[]⟩ : ByteArray), .bool false]) (t := 41) ?hr ?_; (case hd => rfl); (case hg => rfl); (case hr => first | (go_simp; done) | (go_simp; rfl)); intro gb443 hg w105 hbox hb; replace HO_5 := Aside0.mk (Kd.R_below zq4_10 hb); replace HO_14 := Aside0.mk (Kd.R_below (Kd.R_elderB zq4_7 gb443 (Nat.le_of_eq hg.symm)) hb); have BK443 := Aside0.mk (hbox); have GW443 := Aside0.mk ((zq4_0 : w.heap.size ≤ gb443)); have GE443 := Aside0.mk ((zq4_0 : w.heap.size ≤ gb443)); replace HB := Aside0.mk (below_step zq4_4 hb); clear hb hbox hg; have hcz106_0 : w105.cell? ⟨gb443, 0, none⟩ = some (.int .i64 0) := zc_4 BK443 0; have hcz106_1 : w105.cell? ⟨gb443, 1, none⟩ = some (.string (⟨#[]⟩ : ByteArray)) := zc_4 BK443 1; have hcz106_2 : w105.cell? ⟨gb443, 2, none⟩ = some (.int .i64 0) := zc_4 BK443 2; have hcz106_3 : w105.cell? ⟨gb443, 3, none⟩ = some (.int .i64 0) := zc_4 BK443 3; have hcz106_4 : w105.cell? ⟨gb443, 4, none⟩ = some (.bool false) := zc_4 BK443 4; have hcz106_5 : w105.cell? ⟨gb443, 5, none⟩ = some (.complex .f64 0 0) := zc_4 BK443 5; have hcz106_6 : w105.cell? ⟨gb443, 6, none⟩ = some (.string (⟨#[]⟩ : ByteArray)) := zc_4 BK443 6; have hcz106_7 : w105.cell? ⟨gb443, 7, none⟩ = some (.bool false) := zc_4 BK443 7; have hfz106_0 := blk_frozen BK443.out 0; have hfz106_1 := blk_frozen BK443.out 1; have hfz106_2 := blk_frozen BK443.out 2; have hfz106_3 := blk_frozen BK443.out 3; have hfz106_4 := blk_frozen BK443.out 4; have hfz106_5 := blk_frozen BK443.out 5; have hfz106_6 := blk_frozen BK443.out 6; have hfz106_7 := blk_frozen BK443.out 7))
             have n0_ : Aside0 (Kd.R k28 28 ((((((((w105.setCell ⟨gb443, 0, none⟩ (.int .i64 t434)).setCell ⟨gb443, 1, none⟩ (.string t435)).setCell ⟨gb443, 2, none⟩ (.int .i64 t436)).setCell ⟨gb443, 3, none⟩ (.int .i64 t437)).setCell ⟨gb443, 4, none⟩ (.bool t438)).setCell ⟨gb443, 5, none⟩ (.complex .f64 t439.re t439.im)).setCell ⟨gb443, 6, none⟩ (.string t440)).setCell ⟨gb443, 7, none⟩ (.bool true)) w.heap.size (fun _ => True) (.slice (some ad433) x5_1.length co37) x5_1) := ⟨by (with_reducible repeat (first | apply Kd.R_alloc | apply Kd.R_drewN | apply Kd.R_drew)); exact Kd.R_mono (Kd.R_far (p := ⟨gb443, 7, none⟩) (Kd.R_far (p := ⟨gb443, 6, none⟩) (Kd.R_far (p := ⟨gb443, 5, none⟩) (Kd.R_far (p := ⟨gb443, 4, none⟩) (Kd.R_far (p := ⟨gb443, 3, none⟩) (Kd.R_far (p := ⟨gb443, 2, none⟩) (Kd.R_far (p := ⟨gb443, 1, none⟩) (Kd.R_far (p := ⟨gb443, 0, none⟩) (Kd.R_types HO_5.out BK443.out (by decide)) (fun _ hk => hk.2) (.int .i64 t434)) (fun _ hk => hk.2) (.string t435)) (fun _ hk => hk.2) (.int .i64 t436)) (fun _ hk => hk.2) (.int .i64 t437)) (fun _ hk => hk.2) (.bool t438)) (fun _ hk => hk.2) (.complex .f64 t439.re t439.im)) (fun _ hk => hk.2) (.string t440)) (fun _ hk => hk.2) (.bool true)) (fun _ hk => trivial)⟩
             have n1_ : Aside0 (Kd.R k41 41 ((((((((w105.setCell ⟨gb443, 0, none⟩ (.int .i64 t434)).setCell ⟨gb443, 1, none⟩ (.string t435)).setCell ⟨gb443, 2, none⟩ (.int .i64 t436)).setCell ⟨gb443, 3, none⟩ (.int .i64 t437)).setCell ⟨gb443, 4, none⟩ (.bool t438)).setCell ⟨gb443, 5, none⟩ (.complex .f64 t439.re t439.im)).setCell ⟨gb443, 6, none⟩ (.string t440)).setCell ⟨gb443, 7, none⟩ (.bool true)) w.heap.size (fun k_ => k_ ≠ gb443) (.slice Ao91 x14_4.length co91) x14_4) := ⟨by (with_reducible repeat (first | apply Kd.R_alloc | apply Kd.R_drewN | apply Kd.R_drew)); exact Kd.R_mono (Kd.R_far (p := ⟨gb443, 7, none⟩) (Kd.R_far (p := ⟨gb443, 6, none⟩) (Kd.R_far (p := ⟨gb443, 5, none⟩) (Kd.R_far (p := ⟨gb443, 4, none⟩) (Kd.R_far (p := ⟨gb443, 3, none⟩) (Kd.R_far (p := ⟨gb443, 2, none⟩) (Kd.R_far (p := ⟨gb443, 1, none⟩) (Kd.R_far (p := ⟨gb443, 0, none⟩) (Kd.R_mono HO_14.out (fun k_ hk => (⟨hk, hk.2⟩ : _ ∧ k_ ≠ gb443))) (fun _ hk => hk.2) (.int .i64 t434)) (fun _ hk => hk.2) (.string t435)) (fun _ hk => hk.2) (.int .i64 t436)) (fun _ hk => hk.2) (.int .i64 t437)) (fun _ hk => hk.2) (.bool t438)) (fun _ hk => hk.2) (.complex .f64 t439.re t439.im)) (fun _ hk => hk.2) (.string t440)) (fun _ hk => hk.2) (.bool true)) (fun _ hk => hk.1.2)⟩
             have n2_ : Aside0 (((((((((w105.setCell ⟨gb443, 0, none⟩ (.int .i64 t434)).setCell ⟨gb443, 1, none⟩ (.string t435)).setCell ⟨gb443, 2, none⟩ (.int .i64 t436)).setCell ⟨gb443, 3, none⟩ (.int .i64 t437)).setCell ⟨gb443, 4, none⟩ (.bool t438)).setCell ⟨gb443, 5, none⟩ (.complex .f64 t439.re t439.im)).setCell ⟨gb443, 6, none⟩ (.string t440)).setCell ⟨gb443, 7, none⟩ (.bool true)).heap[gb443]? = some (.cells #[.int .i64 t434, .string t435, .int .i64 t436, .int .i64 t437, .bool t438, .complex .f64 t439.re t439.im, .string t440, .bool true] 41 (0, 0))) := ⟨by (with_reducible repeat (first | refine blk_drewN ?_ _ | refine blk_drew ?_ | refine blk_alloc ?_ _)); refine blk_put (cs := #[.int .i64 t434, .string t435, .int .i64 t436, .int .i64 t437, .bool t438, .complex .f64 t439.re t439.im, .string t440, .bool false]) ?_ 7 _ rfl; (with_reducible repeat (first | refine blk_drewN ?_ _ | refine blk_drew ?_ | refine blk_alloc ?_ _)); refine blk_put (cs := #[.int .i64 t434, .string t435, .int .i64 t436, .int .i64 t437, .bool t438, .complex .f64 t439.re t439.im, .string (⟨#[]⟩ : ByteArray), .bool false]) ?_ 6 _ rfl; (with_reducible repeat (first | refine blk_drewN ?_ _ | refine blk_drew ?_ | refine blk_alloc ?_ _)); refine blk_put (cs := #[.int .i64 t434, .string t435, .int .i64 t436, .int .i64 t437, .bool t438, .complex .f64 0 0, .string (⟨#[]⟩ : ByteArray), .bool false]) ?_ 5 _ rfl; (with_reducible repeat (first | refine blk_drewN ?_ _ | refine blk_drew ?_ | refine blk_alloc ?_ _)); refine blk_put (cs := #[.int .i64 t434, .string t435, .int .i64 t436, .int .i64 t437, .bool false, .complex .f64 0 0, .string (⟨#[]⟩ : ByteArray), .bool false]) ?_ 4 _ rfl; (with_reducible repeat (first | refine blk_drewN ?_ _ | refine blk_drew ?_ | refine blk_alloc ?_ _)); refine blk_put (cs := #[.int .i64 t434, .string t435, .int .i64 t436, .int .i64 0, .bool false, .complex .f64 0 0, .string (⟨#[]⟩ : ByteArray), .bool false]) ?_ 3 _ rfl; (with_reducible repeat (first | refine blk_drewN ?_ _ | refine blk_drew ?_ | refine blk_alloc ?_ _)); refine blk_put (cs := #[.int .i64 t434, .string t435, .int .i64 0, .int .i64 0, .bool false, .complex .f64 0 0, .string (⟨#[]⟩ : ByteArray), .bool false]) ?_ 2 _ rfl; (with_reducible repeat (first | refine blk_drewN ?_ _ | refine blk_drew ?_ | refine blk_alloc ?_ _)); refine blk_put (cs := #[.int .i64 t434, .string (⟨#[]⟩ : ByteArray), .int .i64 0, .int .i64 0, .bool false, .complex .f64 0 0, .string (⟨#[]⟩ : ByteArray), .bool false]) ?_ 1 _ rfl; (with_reducible repeat (first | refine blk_drewN ?_ _ | refine blk_drew ?_ | refine blk_alloc ?_ _)); refine blk_put (cs := #[.int .i64 0, .string (⟨#[]⟩ : ByteArray), .int .i64 0, .int .i64 0, .bool false, .complex .f64 0 0, .string (⟨#[]⟩ : ByteArray), .bool false]) ?_ 0 _ rfl; (with_reducible repeat (first | refine blk_drewN ?_ _ | refine blk_drew ?_ | refine blk_alloc ?_ _)); exact BK443.out⟩
             have n3_ : Aside0 (Below w.heap.size w ((((((((w105.setCell ⟨gb443, 0, none⟩ (.int .i64 t434)).setCell ⟨gb443, 1, none⟩ (.string t435)).setCell ⟨gb443, 2, none⟩ (.int .i64 t436)).setCell ⟨gb443, 3, none⟩ (.int .i64 t437)).setCell ⟨gb443, 4, none⟩ (.bool t438)).setCell ⟨gb443, 5, none⟩ (.complex .f64 t439.re t439.im)).setCell ⟨gb443, 6, none⟩ (.string t440)).setCell ⟨gb443, 7, none⟩ (.bool true))) := ⟨by repeat (first | (with_reducible first | exact HB.out | apply below_alloc | apply pw_below_drewN | apply below_drew1 | refine below_set ?_ GE443.out) | exact HB.out)⟩
             (try clear HO_5)
             (try clear HO_14)
             (try clear BK443)
             (try clear HB)
             generalize ((((((((w105.setCell ⟨gb443, 0, none⟩ (.int .i64 t434)).setCell ⟨gb443, 1, none⟩ (.string t435)).setCell ⟨gb443, 2, none⟩ (.int .i64 t436)).setCell ⟨gb443, 3, none⟩ (.int .i64 t437)).setCell ⟨gb443, 4, none⟩ (.bool t438)).setCell ⟨gb443, 5, none⟩ (.complex .f64 t439.re t439.im)).setCell ⟨gb443, 6, none⟩ (.string t440)).setCell ⟨gb443, 7, none⟩ (.bool true)) = w107 at n0_ n1_ n2_ n3_ ⊢
             have HO_5 := n0_
             have HO_14 := n1_
             have BK443 := n2_
             have HB := n3_
             clear n0_ n1_ n2_ n3_
             replace HO_5 := Aside0.mk (Kd.R_drew HO_5.out)
             replace HO_14 := Aside0.mk (Kd.R_drew HO_14.out)
             replace BK443 := Aside0.mk (blk_drew BK443.out)
             replace HB := Aside0.mk (below_drew1 HB.out)
             have p444 : 0 ≤ (x18_7 : Int) := of_decide_eq_true zq4_11
             have q444 : x18_7 < (x5_1.length : Int) := of_decide_eq_true zq4_11
             obtain ⟨ad444, e444, hx444_0, hx444_1, hx444_2, hx444_3, hx444_4, hx444_5, hx444_6, hx444_7, hx444_8⟩ := at_T28 (Kd.R_reads' HO_5.out).2.2 x18_7 p444 q444
             (try rw [← Nbq101.out] at hx444_4)
             (try rw [← Nbq101.out] at hx444_8)
             obtain rfl : ad433 = ad444 := (by injection e444)
             replace p444 := eq_true p444
             replace q444 := eq_true q444
             have p455 : 0 ≤ (x18_7 : Int) := of_decide_eq_true zq4_11
             have q455 : x18_7 < (x5_1.length : Int) := of_decide_eq_true zq4_11
             obtain ⟨ad455, e455, hx455_0, hx455_1, hx455_2, hx455_3, hx455_4, hx455_5, hx455_6, hx455_7, hx455_8⟩ := at_T28 (Kd.R_reads' HO_5.out).2.2 x18_7 p455 q455
             (try rw [← Nbq101.out] at hx455_4)
             (try rw [← Nbq101.out] at hx455_8)
             obtain rfl : ad433 = ad455 := (by injection e455)
             replace p455 := eq_true p455
             replace q455 := eq_true q455
             have p465 : 0 ≤ (x18_7 : Int) := of_decide_eq_true zq4_11
             have q465 : x18_7 < (x5_1.length : Int) := of_decide_eq_true zq4_11
             obtain ⟨ad465, e465, hx465_0, hx465_1, hx465_2, hx465_3, hx465_4, hx465_5, hx465_6, hx465_7, hx465_8⟩ := at_T28 (Kd.R_reads' HO_5.out).2.2 x18_7 p465 q465
             (try rw [← Nbq101.out] at hx465_4)
             (try rw [← Nbq101.out] at hx465_8)
             obtain rfl : ad433 = ad465 := (by injection e465)
             replace p465 := eq_true p465
             replace q465 := eq_true q465
             refine start_ (n := 36) (S := fun w' => w'.cell? ⟨gb443, 0, none⟩ = some (.int .i64 t434) ∧ w'.cell? ⟨gb443, 1, none⟩ = some (.string t435) ∧ w'.cell? ⟨gb443, 2, none⟩ = some (.int .i64 t436) ∧ w'.cell? ⟨gb443, 3, none⟩ = some (.int .i64 t437) ∧ w'.cell? ⟨gb443, 4, none⟩ = some (.bool t438) ∧ w'.cell? ⟨gb443, 5, none⟩ = some (.complex .f64 t439.re t439.im) ∧ w'.cell? ⟨gb443, 6, none⟩ = some (.string t440) ∧ w'.cell? ⟨gb443, 7, none⟩ = some (.bool true) ∧ w'.cell? (ad433.add ((x18_7).toNat * 9)) = some (.int .i64 ((rd_T28 x5_1 x18_7).f0)) ∧ w'.cell? ⟨(ad433.add ((x18_7).toNat * 9)).block, (ad433.add ((x18_7).toNat * 9)).off + 1, none⟩ = some (.string ((rd_T28 x5_1 x18_7).f1.f0)) ∧ w'.cell? ⟨(ad433.add ((x18_7).toNat * 9)).block, (ad433.add ((x18_7).toNat * 9)).off + 2, none⟩ = some (.int .i64 ((rd_T28 x5_1 x18_7).f1.f1)) ∧ w'.cell? ⟨(ad433.add ((x18_7).toNat * 9)).block, (ad433.add ((x18_7).toNat * 9)).off + 3, none⟩ = some (.int .i64 ((rd_T28 x5_1 x18_7).f1.f2)) ∧ w'.cell? ⟨(ad433.add ((x18_7).toNat * 9)).block, (ad433.add ((x18_7).toNat * 9)).off + 4, none⟩ = some (.bool ((rd_T28 x5_1 x18_7).f2)) ∧ w'.cell? ⟨(ad433.add ((x18_7).toNat * 9)).block, (ad433.add ((x18_7).toNat * 9)).off + 5, none⟩ = some (.int .i64 ((rd_T28 x5_1 x18_7).f3.f0)) ∧ w'.cell? ⟨(ad433.add ((x18_7).toNat * 9)).block, (ad433.add ((x18_7).toNat * 9)).off + 6, none⟩ = some (.int .i64 ((rd_T28 x5_1 x18_7).f3.f1)) ∧ w'.cell? ⟨(ad433.add ((x18_7).toNat * 9)).block, (ad433.add ((x18_7).toNat * 9)).off + 7, none⟩ = some (.string ((rd_T28 x5_1 x18_7).f4)) ∧ w'.cell? ⟨(ad433.add ((x18_7).toNat * 9)).block, (ad433.add ((x18_7).toNat * 9)).off + 8, none⟩ = some (.bool true) ∧ w'.cell? (ad433.add ((x18_7).toNat * 9)) = some (.int .i64 ((rd_T28 x5_1 x18_7).f0)) ∧ w'.cell? ⟨(ad433.add ((x18_7).toNat * 9)).block, (ad433.add ((x18_7).toNat * 9)).off + 1, none⟩ = some (.string ((rd_T28 x5_1 x18_7).f1.f0)) ∧ w'.cell? ⟨(ad433.add ((x18_7).toNat * 9)).block, (ad433.add ((x18_7).toNat * 9)).off + 2, none⟩ = some (.int .i64 ((rd_T28 x5_1 x18_7).f1.f1)) ∧ w'.cell? ⟨(ad433.add ((x18_7).toNat * 9)).block, (ad433.add ((x18_7).toNat * 9)).off + 3, none⟩ = some (.int .i64 ((rd_T28 x5_1 x18_7).f1.f2)) ∧ w'.cell? ⟨(ad433.add ((x18_7).toNat * 9)).block, (ad433.add ((x18_7).toNat * 9)).off + 4, none⟩ = some (.bool ((rd_T28 x5_1 x18_7).f2)) ∧ w'.cell? ⟨(ad433.add ((x18_7).toNat * 9)).block, (ad433.add ((x18_7).toNat * 9)).off + 5, none⟩ = some (.int .i64 ((rd_T28 x5_1 x18_7).f3.f0)) ∧ w'.cell? ⟨(ad433.add ((x18_7).toNat * 9)).block, (ad433.add ((x18_7).toNat * 9)).off + 6, none⟩ = some (.int .i64 ((rd_T28 x5_1 x18_7).f3.f1)) ∧ w'.cell? ⟨(ad433.add ((x18_7).toNat * 9)).block, (ad433.add ((x18_7).toNat * 9)).off + 7, none⟩ = some (.string ((rd_T28 x5_1 x18_7).f4)) ∧ w'.cell? ⟨(ad433.add ((x18_7).toNat * 9)).block, (ad433.add ((x18_7).toNat * 9)).off + 8, none⟩ = some (.bool true) ∧ w'.cell? (ad433.add ((x18_7).toNat * 9)) = some (.int .i64 ((rd_T28 x5_1 x18_7).f0)) ∧ w'.cell? ⟨(ad433.add ((x18_7).toNat * 9)).block, (ad433.add ((x18_7).toNat * 9)).off + 1, none⟩ = some (.string ((rd_T28 x5_1 x18_7).f1.f0)) ∧ w'.cell? ⟨(ad433.add ((x18_7).toNat * 9)).block, (ad433.add ((x18_7).toNat * 9)).off + 2, none⟩ = some (.int .i64 ((rd_T28 x5_1 x18_7).f1.f1)) ∧ w'.cell? ⟨(ad433.add ((x18_7).toNat * 9)).block, (ad433.add ((x18_7).toNat * 9)).off + 3, none⟩ = some (.int .i64 ((rd_T28 x5_1 x18_7).f1.f2)) ∧ w'.cell? ⟨(ad433.add ((x18_7).toNat * 9)).block, (ad433.add ((x18_7).toNat * 9)).off + 4, none⟩ = some (.bool ((rd_T28 x5_1 x18_7).f2)) ∧ w'.cell? ⟨(ad433.add ((x18_7).toNat * 9)).block, (ad433.add ((x18_7).toNat * 9)).off + 5, none⟩ = some (.int .i64 ((rd_T28 x5_1 x18_7).f3.f0)) ∧ w'.cell? ⟨(ad433.add ((x18_7).toNat * 9)).block, (ad433.add ((x18_7).toNat * 9)).off + 6, none⟩ = some (.int .i64 ((rd_T28 x5_1 x18_7).f3.f1)) ∧ w'.cell? ⟨(ad433.add ((x18_7).toNat * 9)).block, (ad433.add ((x18_7).toNat * 9)).off + 7, none⟩ = some (.string ((rd_T28 x5_1 x18_7).f4)) ∧ w'.cell? ⟨(ad433.add ((x18_7).toNat * 9)).block, (ad433.add ((x18_7).toNat * 9)).off + 8, none⟩ = some (.bool true)) (ds := []) #[bF4, bF4, bF4, bF4, bF4, bF4, bF4, bF4, bF4, bF4, bF4, bF4, bF4, bF4, bF4, bF4, bF4, bF4, bF4, bF4, bF4, bF4, bF4, bF4, bF4, bF4, bF4, bF4, bF4, bF4, bF4, bF4, bF4, bF4, bF4, bF4] (by kernel_rfl) rfl rfl ⟨zc_4 BK443 0, zc_4 BK443 1, zc_4 BK443 2, zc_4 BK443 3, zc_4 BK443 4, zc_4 BK443 5, zc_4 BK443 6, zc_4 BK443 7, hx444_0, hx444_1, hx444_2, hx444_3, hx444_4, hx444_5, hx444_6, hx444_7, hx444_8, hx455_0, hx455_1, hx455_2, hx455_3, hx455_4, hx455_5, hx455_6, hx455_7, hx455_8, hx465_0, hx465_1, hx465_2, hx465_3, hx465_4, hx465_5, hx465_6, hx465_7, hx465_8⟩ (fun hHeld => ?_); refine with_tabW cenotaphlaw08_StoreOrders.tab38 cenotaphlaw08_StoreOrders.bits38 (fun HT_ HW_ => ?_)
             generalize w107.drew = w108 at HO_5 HO_14 BK443 HB hx444_0 hx444_1 hx444_2 hx444_3 hx444_4 hx444_5 hx444_6 hx444_7 hx444_8 hx455_0 hx455_1 hx455_2 hx455_3 hx455_4 hx455_5 hx455_6 hx455_7 hx455_8 hx465_0 hx465_1 hx465_2 hx465_3 hx465_4 hx465_5 hx465_6 hx465_7 hx465_8 hHeld ⊢
             refine p_ 0 231 (mk_ 36 0x1) ?_
             refine p_ 1 232 (mk_ 36 0x3) ?_
             refine p_ 2 233 (mk_ 36 0x7) ?_
             refine p_ 3 234 (mk_ 36 0xf) ?_
             refine p_ 4 235 (mk_ 36 0x1f) ?_
             refine p_ 5 236 (mk_ 36 0x3f) ?_
             refine p_ 6 237 (mk_ 36 0x7f) ?_
             refine t_ 7 238 (mk_ 36 0xff) hHeld ?_
             refine t_ 8 239 (mk_ 36 0x1ff) hHeld ?_
             refine one_ (i := 9) (N := some 240) #[bT4, bT4, bT4, bT4, bT4, bT4, bT4, bT4, bT4, bT4, bF4, bF4, bF4, bF4, bF4, bF4, bF4, bF4, bF4, bF4, bF4, bF4, bF4, bF4, bF4, bF4, bF4, bF4, bF4, bF4, bF4, bF4, bF4, bF4, bF4, bF4] rfl rfl (one_of HT_.out (by kernel_rfl)) (by decide) (fun K hK => ?_)
             refine goes_ Try.func20 (by kernel_rfl) rfl #[.agg #[.int .i64 t434, .string t435, .int .i64 t436, .int .i64 t437, .bool t438, .complex .f64 t439.re t439.im, .string t440, .bool true]] (by rfl) rfl rfl zq4_3 ?_
             with_reducible refine (cenotaphlaw07_From.calls t434 t435 t436 t437 t438 t439 t440 true t445 t446 t447 t448 t449 t450 t451 t452 t453 _ A96.out).mono ?_
             rintro e w109 ⟨rfl, hb⟩
             have HS8_ := (hb.cell (World.block_lt_of_cell? _ _ (hHeld.2.2.2.2.2.2.2.2.1))).trans (hHeld.2.2.2.2.2.2.2.2.1)
             have HS9_ := (hb.cell (World.block_lt_of_cell? _ _ (hHeld.2.2.2.2.2.2.2.2.2.1))).trans (hHeld.2.2.2.2.2.2.2.2.2.1)
             have HS10_ := (hb.cell (World.block_lt_of_cell? _ _ (hHeld.2.2.2.2.2.2.2.2.2.2.1))).trans (hHeld.2.2.2.2.2.2.2.2.2.2.1)
             have HS11_ := (hb.cell (World.block_lt_of_cell? _ _ (hHeld.2.2.2.2.2.2.2.2.2.2.2.1))).trans (hHeld.2.2.2.2.2.2.2.2.2.2.2.1)
             have HS12_ := (hb.cell (World.block_lt_of_cell? _ _ (hHeld.2.2.2.2.2.2.2.2.2.2.2.2.1))).trans (hHeld.2.2.2.2.2.2.2.2.2.2.2.2.1)
             have HS13_ := (hb.cell (World.block_lt_of_cell? _ _ (hHeld.2.2.2.2.2.2.2.2.2.2.2.2.2.1))).trans (hHeld.2.2.2.2.2.2.2.2.2.2.2.2.2.1)
             have HS14_ := (hb.cell (World.block_lt_of_cell? _ _ (hHeld.2.2.2.2.2.2.2.2.2.2.2.2.2.2.1))).trans (hHeld.2.2.2.2.2.2.2.2.2.2.2.2.2.2.1)
             have HS15_ := (hb.cell (World.block_lt_of_cell? _ _ (hHeld.2.2.2.2.2.2.2.2.2.2.2.2.2.2.2.1))).trans (hHeld.2.2.2.2.2.2.2.2.2.2.2.2.2.2.2.1)
             have HS16_ := (hb.cell (World.block_lt_of_cell? _ _ (hHeld.2.2.2.2.2.2.2.2.2.2.2.2.2.2.2.2.1))).trans (hHeld.2.2.2.2.2.2.2.2.2.2.2.2.2.2.2.2.1)
             have HS17_ := (hb.cell (World.block_lt_of_cell? _ _ (hHeld.2.2.2.2.2.2.2.2.2.2.2.2.2.2.2.2.2.1))).trans (hHeld.2.2.2.2.2.2.2.2.2.2.2.2.2.2.2.2.2.1)
             have HS18_ := (hb.cell (World.block_lt_of_cell? _ _ (hHeld.2.2.2.2.2.2.2.2.2.2.2.2.2.2.2.2.2.2.1))).trans (hHeld.2.2.2.2.2.2.2.2.2.2.2.2.2.2.2.2.2.2.1)
             have HS19_ := (hb.cell (World.block_lt_of_cell? _ _ (hHeld.2.2.2.2.2.2.2.2.2.2.2.2.2.2.2.2.2.2.2.1))).trans (hHeld.2.2.2.2.2.2.2.2.2.2.2.2.2.2.2.2.2.2.2.1)
             have HS20_ := (hb.cell (World.block_lt_of_cell? _ _ (hHeld.2.2.2.2.2.2.2.2.2.2.2.2.2.2.2.2.2.2.2.2.1))).trans (hHeld.2.2.2.2.2.2.2.2.2.2.2.2.2.2.2.2.2.2.2.2.1)
             have HS21_ := (hb.cell (World.block_lt_of_cell? _ _ (hHeld.2.2.2.2.2.2.2.2.2.2.2.2.2.2.2.2.2.2.2.2.2.1))).trans (hHeld.2.2.2.2.2.2.2.2.2.2.2.2.2.2.2.2.2.2.2.2.2.1)
             have HS22_ := (hb.cell (World.block_lt_of_cell? _ _ (hHeld.2.2.2.2.2.2.2.2.2.2.2.2.2.2.2.2.2.2.2.2.2.2.1))).trans (hHeld.2.2.2.2.2.2.2.2.2.2.2.2.2.2.2.2.2.2.2.2.2.2.1)
             have HS23_ := (hb.cell (World.block_lt_of_cell? _ _ (hHeld.2.2.2.2.2.2.2.2.2.2.2.2.2.2.2.2.2.2.2.2.2.2.2.1))).trans (hHeld.2.2.2.2.2.2.2.2.2.2.2.2.2.2.2.2.2.2.2.2.2.2.2.1)
             have HS24_ := (hb.cell (World.block_lt_of_cell? _ _ (hHeld.2.2.2.2.2.2.2.2.2.2.2.2.2.2.2.2.2.2.2.2.2.2.2.2.1))).trans (hHeld.2.2.2.2.2.2.2.2.2.2.2.2.2.2.2.2.2.2.2.2.2.2.2.2.1)
             have HS25_ := (hb.cell (World.block_lt_of_cell? _ _ (hHeld.2.2.2.2.2.2.2.2.2.2.2.2.2.2.2.2.2.2.2.2.2.2.2.2.2.1))).trans (hHeld.2.2.2.2.2.2.2.2.2.2.2.2.2.2.2.2.2.2.2.2.2.2.2.2.2.1)
             have HS26_ := (hb.cell (World.block_lt_of_cell? _ _ (hHeld.2.2.2.2.2.2.2.2.2.2.2.2.2.2.2.2.2.2.2.2.2.2.2.2.2.2.1))).trans (hHeld.2.2.2.2.2.2.2.2.2.2.2.2.2.2.2.2.2.2.2.2.2.2.2.2.2.2.1)
             have HS27_ := (hb.cell (World.block_lt_of_cell? _ _ (hHeld.2.2.2.2.2.2.2.2.2.2.2.2.2.2.2.2.2.2.2.2.2.2.2.2.2.2.2.1))).trans (hHeld.2.2.2.2.2.2.2.2.2.2.2.2.2.2.2.2.2.2.2.2.2.2.2.2.2.2.2.1)
             have HS28_ := (hb.cell (World.block_lt_of_cell? _ _ (hHeld.2.2.2.2.2.2.2.2.2.2.2.2.2.2.2.2.2.2.2.2.2.2.2.2.2.2.2.2.1))).trans (hHeld.2.2.2.2.2.2.2.2.2.2.2.2.2.2.2.2.2.2.2.2.2.2.2.2.2.2.2.2.1)
             have HS29_ := (hb.cell (World.block_lt_of_cell? _ _ (hHeld.2.2.2.2.2.2.2.2.2.2.2.2.2.2.2.2.2.2.2.2.2.2.2.2.2.2.2.2.2.1))).trans (hHeld.2.2.2.2.2.2.2.2.2.2.2.2.2.2.2.2.2.2.2.2.2.2.2.2.2.2.2.2.2.1)
             have HS30_ := (hb.cell (World.block_lt_of_cell? _ _ (hHeld.2.2.2.2.2.2.2.2.2.2.2.2.2.2.2.2.2.2.2.2.2.2.2.2.2.2.2.2.2.2.1))).trans (hHeld.2.2.2.2.2.2.2.2.2.2.2.2.2.2.2.2.2.2.2.2.2.2.2.2.2.2.2.2.2.2.1)
             have HS31_ := (hb.cell (World.block_lt_of_cell? _ _ (hHeld.2.2.2.2.2.2.2.2.2.2.2.2.2.2.2.2.2.2.2.2.2.2.2.2.2.2.2.2.2.2.2.1))).trans (hHeld.2.2.2.2.2.2.2.2.2.2.2.2.2.2.2.2.2.2.2.2.2.2.2.2.2.2.2.2.2.2.2.1)
             have HS32_ := (hb.cell (World.block_lt_of_cell? _ _ (hHeld.2.2.2.2.2.2.2.2.2.2.2.2.2.2.2.2.2.2.2.2.2.2.2.2.2.2.2.2.2.2.2.2.1))).trans (hHeld.2.2.2.2.2.2.2.2.2.2.2.2.2.2.2.2.2.2.2.2.2.2.2.2.2.2.2.2.2.2.2.2.1)
             have HS33_ := (hb.cell (World.block_lt_of_cell? _ _ (hHeld.2.2.2.2.2.2.2.2.2.2.2.2.2.2.2.2.2.2.2.2.2.2.2.2.2.2.2.2.2.2.2.2.2.1))).trans (hHeld.2.2.2.2.2.2.2.2.2.2.2.2.2.2.2.2.2.2.2.2.2.2.2.2.2.2.2.2.2.2.2.2.2.1)
             have HS34_ := (hb.cell (World.block_lt_of_cell? _ _ (hHeld.2.2.2.2.2.2.2.2.2.2.2.2.2.2.2.2.2.2.2.2.2.2.2.2.2.2.2.2.2.2.2.2.2.2))).trans (hHeld.2.2.2.2.2.2.2.2.2.2.2.2.2.2.2.2.2.2.2.2.2.2.2.2.2.2.2.2.2.2.2.2.2.2)
             refine ⟨_, rfl, ?_⟩
             replace HO_5 := Aside0.mk (Kd.R_below zq4_10 hb)
             replace HO_14 := Aside0.mk (Kd.R_below zq4_7 hb)
             replace BK443 := Aside0.mk (blk_below (g := gb443) (o := .cells #[.int .i64 t434, .string t435, .int .i64 t436, .int .i64 t437, .bool t438, .complex .f64 t439.re t439.im, .string t440, .bool true] 41 (0, 0)) zq4_5 hb)
             replace HB := Aside0.mk (below_step zq4_2 hb)
             (try clear hb)
             (try clear hb2)
             (try clear hk)
             (try clear hi)
             refine hK.out _ _ ⟨zc_4 BK443 0, zc_4 BK443 1, zc_4 BK443 2, zc_4 BK443 3, zc_4 BK443 4, zc_4 BK443 5, zc_4 BK443 6, zc_4 BK443 7, HS8_, HS9_, HS10_, HS11_, HS12_, HS13_, HS14_, HS15_, HS16_, HS17_, HS18_, HS19_, HS20_, HS21_, HS22_, HS23_, HS24_, HS25_, HS26_, HS27_, HS28_, HS29_, HS30_, HS31_, HS32_, HS33_, HS34_⟩ (fun hHeld => ?_)
             clear hK K
             refine norm_ (a' := ?_) ?_ ?_
             rotate_left
             ·show Act.put _ (some 240) _ = _
              simp only [Act.put, List.setIfInBounds_toArray, List.set_cons_zero, List.set_cons_succ, i64_w, i32_w]
              rfl
             refine p_ 10 241 (mk_ 36 0x7ff) ?_
             refine one_ (i := 11) (N := some 242) #[bT4, bT4, bT4, bT4, bT4, bT4, bT4, bT4, bT4, bT4, bT4, bT4, bF4, bF4, bF4, bF4, bF4, bF4, bF4, bF4, bF4, bF4, bF4, bF4, bF4, bF4, bF4, bF4, bF4, bF4, bF4, bF4, bF4, bF4, bF4, bF4] rfl rfl (one_of HT_.out (by kernel_rfl)) (by decide) (fun K hK => ?_)
             refine goes_ Try.func24 (by kernel_rfl) rfl #[.agg #[.string ((rd_T28 x5_1 x18_7).f1.f0), .int .i64 ((rd_T28 x5_1 x18_7).f1.f1), .int .i64 ((rd_T28 x5_1 x18_7).f1.f2)], .agg #[.string t446, .int .i64 t447, .int .i64 t448]] (by rfl) rfl rfl zq4_3 ?_
             with_reducible refine (cenotaphref07_Newer.calls k7 ((rd_T28 x5_1 x18_7).f1.f0) ((rd_T28 x5_1 x18_7).f1.f1) ((rd_T28 x5_1 x18_7).f1.f2) t446 t447 t448 false _ A97.out).mono ?_
             rintro e w110 ⟨rfl, hb⟩
             have HS8_ := (hb.cell (World.block_lt_of_cell? _ _ (hHeld.2.2.2.2.2.2.2.2.1))).trans (hHeld.2.2.2.2.2.2.2.2.1)
             have HS9_ := (hb.cell (World.block_lt_of_cell? _ _ (hHeld.2.2.2.2.2.2.2.2.2.1))).trans (hHeld.2.2.2.2.2.2.2.2.2.1)
             have HS10_ := (hb.cell (World.block_lt_of_cell? _ _ (hHeld.2.2.2.2.2.2.2.2.2.2.1))).trans (hHeld.2.2.2.2.2.2.2.2.2.2.1)
             have HS11_ := (hb.cell (World.block_lt_of_cell? _ _ (hHeld.2.2.2.2.2.2.2.2.2.2.2.1))).trans (hHeld.2.2.2.2.2.2.2.2.2.2.2.1)
             have HS12_ := (hb.cell (World.block_lt_of_cell? _ _ (hHeld.2.2.2.2.2.2.2.2.2.2.2.2.1))).trans (hHeld.2.2.2.2.2.2.2.2.2.2.2.2.1)
             have HS13_ := (hb.cell (World.block_lt_of_cell? _ _ (hHeld.2.2.2.2.2.2.2.2.2.2.2.2.2.1))).trans (hHeld.2.2.2.2.2.2.2.2.2.2.2.2.2.1)
             have HS14_ := (hb.cell (World.block_lt_of_cell? _ _ (hHeld.2.2.2.2.2.2.2.2.2.2.2.2.2.2.1))).trans (hHeld.2.2.2.2.2.2.2.2.2.2.2.2.2.2.1)
             have HS15_ := (hb.cell (World.block_lt_of_cell? _ _ (hHeld.2.2.2.2.2.2.2.2.2.2.2.2.2.2.2.1))).trans (hHeld.2.2.2.2.2.2.2.2.2.2.2.2.2.2.2.1)
             have HS16_ := (hb.cell (World.block_lt_of_cell? _ _ (hHeld.2.2.2.2.2.2.2.2.2.2.2.2.2.2.2.2.1))).trans (hHeld.2.2.2.2.2.2.2.2.2.2.2.2.2.2.2.2.1)
             have HS17_ := (hb.cell (World.block_lt_of_cell? _ _ (hHeld.2.2.2.2.2.2.2.2.2.2.2.2.2.2.2.2.2.1))).trans (hHeld.2.2.2.2.2.2.2.2.2.2.2.2.2.2.2.2.2.1)
             have HS18_ := (hb.cell (World.block_lt_of_cell? _ _ (hHeld.2.2.2.2.2.2.2.2.2.2.2.2.2.2.2.2.2.2.1))).trans (hHeld.2.2.2.2.2.2.2.2.2.2.2.2.2.2.2.2.2.2.1)
             have HS19_ := (hb.cell (World.block_lt_of_cell? _ _ (hHeld.2.2.2.2.2.2.2.2.2.2.2.2.2.2.2.2.2.2.2.1))).trans (hHeld.2.2.2.2.2.2.2.2.2.2.2.2.2.2.2.2.2.2.2.1)
             have HS20_ := (hb.cell (World.block_lt_of_cell? _ _ (hHeld.2.2.2.2.2.2.2.2.2.2.2.2.2.2.2.2.2.2.2.2.1))).trans (hHeld.2.2.2.2.2.2.2.2.2.2.2.2.2.2.2.2.2.2.2.2.1)
             have HS21_ := (hb.cell (World.block_lt_of_cell? _ _ (hHeld.2.2.2.2.2.2.2.2.2.2.2.2.2.2.2.2.2.2.2.2.2.1))).trans (hHeld.2.2.2.2.2.2.2.2.2.2.2.2.2.2.2.2.2.2.2.2.2.1)
             have HS22_ := (hb.cell (World.block_lt_of_cell? _ _ (hHeld.2.2.2.2.2.2.2.2.2.2.2.2.2.2.2.2.2.2.2.2.2.2.1))).trans (hHeld.2.2.2.2.2.2.2.2.2.2.2.2.2.2.2.2.2.2.2.2.2.2.1)
             have HS23_ := (hb.cell (World.block_lt_of_cell? _ _ (hHeld.2.2.2.2.2.2.2.2.2.2.2.2.2.2.2.2.2.2.2.2.2.2.2.1))).trans (hHeld.2.2.2.2.2.2.2.2.2.2.2.2.2.2.2.2.2.2.2.2.2.2.2.1)
             have HS24_ := (hb.cell (World.block_lt_of_cell? _ _ (hHeld.2.2.2.2.2.2.2.2.2.2.2.2.2.2.2.2.2.2.2.2.2.2.2.2.1))).trans (hHeld.2.2.2.2.2.2.2.2.2.2.2.2.2.2.2.2.2.2.2.2.2.2.2.2.1)
             have HS25_ := (hb.cell (World.block_lt_of_cell? _ _ (hHeld.2.2.2.2.2.2.2.2.2.2.2.2.2.2.2.2.2.2.2.2.2.2.2.2.2.1))).trans (hHeld.2.2.2.2.2.2.2.2.2.2.2.2.2.2.2.2.2.2.2.2.2.2.2.2.2.1)
             have HS26_ := (hb.cell (World.block_lt_of_cell? _ _ (hHeld.2.2.2.2.2.2.2.2.2.2.2.2.2.2.2.2.2.2.2.2.2.2.2.2.2.2.1))).trans (hHeld.2.2.2.2.2.2.2.2.2.2.2.2.2.2.2.2.2.2.2.2.2.2.2.2.2.2.1)
             have HS27_ := (hb.cell (World.block_lt_of_cell? _ _ (hHeld.2.2.2.2.2.2.2.2.2.2.2.2.2.2.2.2.2.2.2.2.2.2.2.2.2.2.2.1))).trans (hHeld.2.2.2.2.2.2.2.2.2.2.2.2.2.2.2.2.2.2.2.2.2.2.2.2.2.2.2.1)
             have HS28_ := (hb.cell (World.block_lt_of_cell? _ _ (hHeld.2.2.2.2.2.2.2.2.2.2.2.2.2.2.2.2.2.2.2.2.2.2.2.2.2.2.2.2.1))).trans (hHeld.2.2.2.2.2.2.2.2.2.2.2.2.2.2.2.2.2.2.2.2.2.2.2.2.2.2.2.2.1)
             have HS29_ := (hb.cell (World.block_lt_of_cell? _ _ (hHeld.2.2.2.2.2.2.2.2.2.2.2.2.2.2.2.2.2.2.2.2.2.2.2.2.2.2.2.2.2.1))).trans (hHeld.2.2.2.2.2.2.2.2.2.2.2.2.2.2.2.2.2.2.2.2.2.2.2.2.2.2.2.2.2.1)
             have HS30_ := (hb.cell (World.block_lt_of_cell? _ _ (hHeld.2.2.2.2.2.2.2.2.2.2.2.2.2.2.2.2.2.2.2.2.2.2.2.2.2.2.2.2.2.2.1))).trans (hHeld.2.2.2.2.2.2.2.2.2.2.2.2.2.2.2.2.2.2.2.2.2.2.2.2.2.2.2.2.2.2.1)
             have HS31_ := (hb.cell (World.block_lt_of_cell? _ _ (hHeld.2.2.2.2.2.2.2.2.2.2.2.2.2.2.2.2.2.2.2.2.2.2.2.2.2.2.2.2.2.2.2.1))).trans (hHeld.2.2.2.2.2.2.2.2.2.2.2.2.2.2.2.2.2.2.2.2.2.2.2.2.2.2.2.2.2.2.2.1)
             have HS32_ := (hb.cell (World.block_lt_of_cell? _ _ (hHeld.2.2.2.2.2.2.2.2.2.2.2.2.2.2.2.2.2.2.2.2.2.2.2.2.2.2.2.2.2.2.2.2.1))).trans (hHeld.2.2.2.2.2.2.2.2.2.2.2.2.2.2.2.2.2.2.2.2.2.2.2.2.2.2.2.2.2.2.2.2.1)
             have HS33_ := (hb.cell (World.block_lt_of_cell? _ _ (hHeld.2.2.2.2.2.2.2.2.2.2.2.2.2.2.2.2.2.2.2.2.2.2.2.2.2.2.2.2.2.2.2.2.2.1))).trans (hHeld.2.2.2.2.2.2.2.2.2.2.2.2.2.2.2.2.2.2.2.2.2.2.2.2.2.2.2.2.2.2.2.2.2.1)
             have HS34_ := (hb.cell (World.block_lt_of_cell? _ _ (hHeld.2.2.2.2.2.2.2.2.2.2.2.2.2.2.2.2.2.2.2.2.2.2.2.2.2.2.2.2.2.2.2.2.2.2))).trans (hHeld.2.2.2.2.2.2.2.2.2.2.2.2.2.2.2.2.2.2.2.2.2.2.2.2.2.2.2.2.2.2.2.2.2.2)
             refine ⟨_, rfl, ?_⟩
             replace HO_5 := Aside0.mk (Kd.R_below zq4_10 hb)
             replace HO_14 := Aside0.mk (Kd.R_below zq4_7 hb)
             replace BK443 := Aside0.mk (blk_below (g := gb443) (o := .cells #[.int .i64 t434, .string t435, .int .i64 t436, .int .i64 t437, .bool t438, .complex .f64 t439.re t439.im, .string t440, .bool true] 41 (0, 0)) zq4_5 hb)
             replace HB := Aside0.mk (below_step zq4_2 hb)
             (try clear hb)
             (try clear hb2)
             (try clear hk)
             (try clear hi)
             refine hK.out _ _ ⟨zc_4 BK443 0, zc_4 BK443 1, zc_4 BK443 2, zc_4 BK443 3, zc_4 BK443 4, zc_4 BK443 5, zc_4 BK443 6, zc_4 BK443 7, HS8_, HS9_, HS10_, HS11_, HS12_, HS13_, HS14_, HS15_, HS16_, HS17_, HS18_, HS19_, HS20_, HS21_, HS22_, HS23_, HS24_, HS25_, HS26_, HS27_, HS28_, HS29_, HS30_, HS31_, HS32_, HS33_, HS34_⟩ (fun hHeld => ?_)
             clear hK K
             refine norm_ (a' := ?_) ?_ ?_
             rotate_left
             ·show Act.put _ (some 242) _ = _
              simp only [Act.put, List.setIfInBounds_toArray, List.set_cons_zero, List.set_cons_succ, i64_w, i32_w]
              rfl
             refine p_ 12 243 (mk_ 36 0x1fff) ?_
             refine p_ 13 244 (mk_ 36 0x3fff) ?_
             refine p_ 14 245 (mk_ 36 0x7fff) ?_
             refine p_ 15 246 (mk_ 36 0xffff) ?_
             refine p_ 16 247 (mk_ 36 0x1ffff) ?_
             refine p_ 17 248 (mk_ 36 0x3ffff) ?_
             refine t_ 18 249 (mk_ 36 0x7ffff) hHeld ?_
             refine t_ 19 250 (mk_ 36 0xfffff) hHeld ?_
             refine one_ (i := 20) (N := some 251) #[bT4, bT4, bT4, bT4, bT4, bT4, bT4, bT4, bT4, bT4, bT4, bT4, bT4, bT4, bT4, bT4, bT4, bT4, bT4, bT4, bT4, bF4, bF4, bF4, bF4, bF4, bF4, bF4, bF4, bF4, bF4, bF4, bF4, bF4, bF4, bF4] rfl rfl (one_of HT_.out (by kernel_rfl)) (by decide) (fun K hK => ?_)
             refine goes_ Try.func20 (by kernel_rfl) rfl #[.agg #[.int .i64 t434, .string t435, .int .i64 t436, .int .i64 t437, .bool t438, .complex .f64 t439.re t439.im, .string t440, .bool true]] (by rfl) rfl rfl zq4_3 ?_
             with_reducible refine (cenotaphlaw07_From.calls t434 t435 t436 t437 t438 t439 t440 true t456 t457 t458 t459 t460 t461 t462 t463 t464 _ A99.out).mono ?_
             rintro e w111 ⟨rfl, hb⟩
             have HS8_ := (hb.cell (World.block_lt_of_cell? _ _ (hHeld.2.2.2.2.2.2.2.2.1))).trans (hHeld.2.2.2.2.2.2.2.2.1)
             have HS9_ := (hb.cell (World.block_lt_of_cell? _ _ (hHeld.2.2.2.2.2.2.2.2.2.1))).trans (hHeld.2.2.2.2.2.2.2.2.2.1)
             have HS10_ := (hb.cell (World.block_lt_of_cell? _ _ (hHeld.2.2.2.2.2.2.2.2.2.2.1))).trans (hHeld.2.2.2.2.2.2.2.2.2.2.1)
             have HS11_ := (hb.cell (World.block_lt_of_cell? _ _ (hHeld.2.2.2.2.2.2.2.2.2.2.2.1))).trans (hHeld.2.2.2.2.2.2.2.2.2.2.2.1)
             have HS12_ := (hb.cell (World.block_lt_of_cell? _ _ (hHeld.2.2.2.2.2.2.2.2.2.2.2.2.1))).trans (hHeld.2.2.2.2.2.2.2.2.2.2.2.2.1)
             have HS13_ := (hb.cell (World.block_lt_of_cell? _ _ (hHeld.2.2.2.2.2.2.2.2.2.2.2.2.2.1))).trans (hHeld.2.2.2.2.2.2.2.2.2.2.2.2.2.1)
             have HS14_ := (hb.cell (World.block_lt_of_cell? _ _ (hHeld.2.2.2.2.2.2.2.2.2.2.2.2.2.2.1))).trans (hHeld.2.2.2.2.2.2.2.2.2.2.2.2.2.2.1)
             have HS15_ := (hb.cell (World.block_lt_of_cell? _ _ (hHeld.2.2.2.2.2.2.2.2.2.2.2.2.2.2.2.1))).trans (hHeld.2.2.2.2.2.2.2.2.2.2.2.2.2.2.2.1)
             have HS16_ := (hb.cell (World.block_lt_of_cell? _ _ (hHeld.2.2.2.2.2.2.2.2.2.2.2.2.2.2.2.2.1))).trans (hHeld.2.2.2.2.2.2.2.2.2.2.2.2.2.2.2.2.1)
             have HS17_ := (hb.cell (World.block_lt_of_cell? _ _ (hHeld.2.2.2.2.2.2.2.2.2.2.2.2.2.2.2.2.2.1))).trans (hHeld.2.2.2.2.2.2.2.2.2.2.2.2.2.2.2.2.2.1)
             have HS18_ := (hb.cell (World.block_lt_of_cell? _ _ (hHeld.2.2.2.2.2.2.2.2.2.2.2.2.2.2.2.2.2.2.1))).trans (hHeld.2.2.2.2.2.2.2.2.2.2.2.2.2.2.2.2.2.2.1)
             have HS19_ := (hb.cell (World.block_lt_of_cell? _ _ (hHeld.2.2.2.2.2.2.2.2.2.2.2.2.2.2.2.2.2.2.2.1))).trans (hHeld.2.2.2.2.2.2.2.2.2.2.2.2.2.2.2.2.2.2.2.1)
             have HS20_ := (hb.cell (World.block_lt_of_cell? _ _ (hHeld.2.2.2.2.2.2.2.2.2.2.2.2.2.2.2.2.2.2.2.2.1))).trans (hHeld.2.2.2.2.2.2.2.2.2.2.2.2.2.2.2.2.2.2.2.2.1)
             have HS21_ := (hb.cell (World.block_lt_of_cell? _ _ (hHeld.2.2.2.2.2.2.2.2.2.2.2.2.2.2.2.2.2.2.2.2.2.1))).trans (hHeld.2.2.2.2.2.2.2.2.2.2.2.2.2.2.2.2.2.2.2.2.2.1)
             have HS22_ := (hb.cell (World.block_lt_of_cell? _ _ (hHeld.2.2.2.2.2.2.2.2.2.2.2.2.2.2.2.2.2.2.2.2.2.2.1))).trans (hHeld.2.2.2.2.2.2.2.2.2.2.2.2.2.2.2.2.2.2.2.2.2.2.1)
             have HS23_ := (hb.cell (World.block_lt_of_cell? _ _ (hHeld.2.2.2.2.2.2.2.2.2.2.2.2.2.2.2.2.2.2.2.2.2.2.2.1))).trans (hHeld.2.2.2.2.2.2.2.2.2.2.2.2.2.2.2.2.2.2.2.2.2.2.2.1)
             have HS24_ := (hb.cell (World.block_lt_of_cell? _ _ (hHeld.2.2.2.2.2.2.2.2.2.2.2.2.2.2.2.2.2.2.2.2.2.2.2.2.1))).trans (hHeld.2.2.2.2.2.2.2.2.2.2.2.2.2.2.2.2.2.2.2.2.2.2.2.2.1)
             have HS25_ := (hb.cell (World.block_lt_of_cell? _ _ (hHeld.2.2.2.2.2.2.2.2.2.2.2.2.2.2.2.2.2.2.2.2.2.2.2.2.2.1))).trans (hHeld.2.2.2.2.2.2.2.2.2.2.2.2.2.2.2.2.2.2.2.2.2.2.2.2.2.1)
             have HS26_ := (hb.cell (World.block_lt_of_cell? _ _ (hHeld.2.2.2.2.2.2.2.2.2.2.2.2.2.2.2.2.2.2.2.2.2.2.2.2.2.2.1))).trans (hHeld.2.2.2.2.2.2.2.2.2.2.2.2.2.2.2.2.2.2.2.2.2.2.2.2.2.2.1)
             have HS27_ := (hb.cell (World.block_lt_of_cell? _ _ (hHeld.2.2.2.2.2.2.2.2.2.2.2.2.2.2.2.2.2.2.2.2.2.2.2.2.2.2.2.1))).trans (hHeld.2.2.2.2.2.2.2.2.2.2.2.2.2.2.2.2.2.2.2.2.2.2.2.2.2.2.2.1)
             have HS28_ := (hb.cell (World.block_lt_of_cell? _ _ (hHeld.2.2.2.2.2.2.2.2.2.2.2.2.2.2.2.2.2.2.2.2.2.2.2.2.2.2.2.2.1))).trans (hHeld.2.2.2.2.2.2.2.2.2.2.2.2.2.2.2.2.2.2.2.2.2.2.2.2.2.2.2.2.1)
             have HS29_ := (hb.cell (World.block_lt_of_cell? _ _ (hHeld.2.2.2.2.2.2.2.2.2.2.2.2.2.2.2.2.2.2.2.2.2.2.2.2.2.2.2.2.2.1))).trans (hHeld.2.2.2.2.2.2.2.2.2.2.2.2.2.2.2.2.2.2.2.2.2.2.2.2.2.2.2.2.2.1)
             have HS30_ := (hb.cell (World.block_lt_of_cell? _ _ (hHeld.2.2.2.2.2.2.2.2.2.2.2.2.2.2.2.2.2.2.2.2.2.2.2.2.2.2.2.2.2.2.1))).trans (hHeld.2.2.2.2.2.2.2.2.2.2.2.2.2.2.2.2.2.2.2.2.2.2.2.2.2.2.2.2.2.2.1)
             have HS31_ := (hb.cell (World.block_lt_of_cell? _ _ (hHeld.2.2.2.2.2.2.2.2.2.2.2.2.2.2.2.2.2.2.2.2.2.2.2.2.2.2.2.2.2.2.2.1))).trans (hHeld.2.2.2.2.2.2.2.2.2.2.2.2.2.2.2.2.2.2.2.2.2.2.2.2.2.2.2.2.2.2.2.1)
             have HS32_ := (hb.cell (World.block_lt_of_cell? _ _ (hHeld.2.2.2.2.2.2.2.2.2.2.2.2.2.2.2.2.2.2.2.2.2.2.2.2.2.2.2.2.2.2.2.2.1))).trans (hHeld.2.2.2.2.2.2.2.2.2.2.2.2.2.2.2.2.2.2.2.2.2.2.2.2.2.2.2.2.2.2.2.2.1)
             have HS33_ := (hb.cell (World.block_lt_of_cell? _ _ (hHeld.2.2.2.2.2.2.2.2.2.2.2.2.2.2.2.2.2.2.2.2.2.2.2.2.2.2.2.2.2.2.2.2.2.1))).trans (hHeld.2.2.2.2.2.2.2.2.2.2.2.2.2.2.2.2.2.2.2.2.2.2.2.2.2.2.2.2.2.2.2.2.2.1)
             have HS34_ := (hb.cell (World.block_lt_of_cell? _ _ (hHeld.2.2.2.2.2.2.2.2.2.2.2.2.2.2.2.2.2.2.2.2.2.2.2.2.2.2.2.2.2.2.2.2.2.2))).trans (hHeld.2.2.2.2.2.2.2.2.2.2.2.2.2.2.2.2.2.2.2.2.2.2.2.2.2.2.2.2.2.2.2.2.2.2)
             refine ⟨_, rfl, ?_⟩
             replace HO_5 := Aside0.mk (Kd.R_below zq4_10 hb)
             replace HO_14 := Aside0.mk (Kd.R_below zq4_7 hb)
             replace BK443 := Aside0.mk (blk_below (g := gb443) (o := .cells #[.int .i64 t434, .string t435, .int .i64 t436, .int .i64 t437, .bool t438, .complex .f64 t439.re t439.im, .string t440, .bool true] 41 (0, 0)) zq4_5 hb)
             replace HB := Aside0.mk (below_step zq4_2 hb)
             (try clear hb)
             (try clear hb2)
             (try clear hk)
             (try clear hi)
             refine hK.out _ _ ⟨zc_4 BK443 0, zc_4 BK443 1, zc_4 BK443 2, zc_4 BK443 3, zc_4 BK443 4, zc_4 BK443 5, zc_4 BK443 6, zc_4 BK443 7, HS8_, HS9_, HS10_, HS11_, HS12_, HS13_, HS14_, HS15_, HS16_, HS17_, HS18_, HS19_, HS20_, HS21_, HS22_, HS23_, HS24_, HS25_, HS26_, HS27_, HS28_, HS29_, HS30_, HS31_, HS32_, HS33_, HS34_⟩ (fun hHeld => ?_)
             clear hK K
             refine norm_ (a' := ?_) ?_ ?_
             rotate_left
             ·show Act.put _ (some 251) _ = _
              simp only [Act.put, List.setIfInBounds_toArray, List.set_cons_zero, List.set_cons_succ, i64_w, i32_w]
              rfl
             refine p_ 21 252 (mk_ 36 0x3fffff) ?_
             refine p_ 22 253 (mk_ 36 0x7fffff) ?_
             refine p_ 23 254 (mk_ 36 0xffffff) ?_
             refine p_ 24 255 (mk_ 36 0x1ffffff) ?_
             refine p_ 25 256 (mk_ 36 0x3ffffff) ?_
             refine p_ 26 257 (mk_ 36 0x7ffffff) ?_
             refine p_ 27 258 (mk_ 36 0xfffffff) ?_
             refine t_ 28 259 (mk_ 36 0x1fffffff) hHeld ?_
             refine p_ 29 260 (mk_ 36 0x3fffffff) ?_
             refine p_ 30 261 (mk_ 36 0x7fffffff) ?_
             refine p_ 31 262 (mk_ 36 0xffffffff) ?_
             refine t_ 32 263 (mk_ 36 0x1ffffffff) hHeld ?_
             refine p_ 33 264 (mk_ 36 0x3ffffffff) ?_
             refine p_ 34 265 (mk_ 36 0x7ffffffff) ?_
             refine p_ 35 266 (mk_ 36 0xfffffffff) ?_
             refine done_ (done_of HT_.out (by kernel_rfl)) ?_
             try go_wp2
             go_roundg k7
             case measure => have := HK1.out; have := HJ2.out; have := HJ32.out; have := HK4.out; have := HJ72.out; have := HK6.out; have := HK7.out; omega
             case rel => exact ⟨(wrap64 (x18_7 + 1)), zq4_12, H', ⟨by have := HK1.out; have := HJ2.out; have := HJ32.out; have := HK4.out; have := HJ72.out; have := HK6.out; have := HK7.out; omega⟩, ⟨by (with_reducible repeat (first | apply Kd.R_alloc | apply Kd.R_drewN | apply Kd.R_drew)); exact HO_5.out⟩, ⟨by (with_reducible repeat (first | apply Kd.R_alloc | apply Kd.R_drewN | apply Kd.R_drew)); exact Kd.R_mono HO_14.out (fun _ hk => trivial)⟩, ⟨by repeat (first | (with_reducible first | exact HB.out | apply below_alloc | apply pw_below_drewN | apply below_drew1 | refine below_set ?_ GE443.out) | exact HB.out)⟩⟩
            ·replace c103 := Bool.eq_false_iff.mpr c103
             subst c103
             have H1 : (none) = some r := by rw [if_neg (show ¬ (false = true) by decide)] at H; exact H
             clear H
             have H := H1
             clear H1
             exact absurd H (by simp)
           ·replace c102 := Bool.eq_false_iff.mpr c102
            subst c102
            have H1 : (cenotaphlaw08_StoreOrders.l5 k7 x5_1 x14_4 (wrap64 (x18_7 + 1))) = some r := by rw [if_neg (show ¬ (false = true) by decide)] at H; exact H
            clear H
            have H := H1
            clear H1
            have H' := Aside0.mk H
            clear H
            have p433 : 0 ≤ (x18_7 : Int) := of_decide_eq_true zq4_11
            have q433 : x18_7 < (x5_1.length : Int) := of_decide_eq_true zq4_11
            obtain ⟨ad433, e433, hx433_0, hx433_1, hx433_2, hx433_3, hx433_4, hx433_5, hx433_6, hx433_7, hx433_8⟩ := at_T28 (Kd.R_reads' HO_5.out).2.2 x18_7 p433 q433
            (try rw [← Nbq101.out] at hx433_4)
            (try rw [← Nbq101.out] at hx433_8)
            cases e433
            replace p433 := eq_true p433
            replace q433 := eq_true q433
            try go_wp2_with (first | ((with_reducible refine gate_callee (f := 14) rfl ?_); refine goesL_ (some 228) rfl rfl Try.func14 (by kernel_rfl) rfl #[.slice Ao91 x14_4.length co91, .int .i64 ((rd_T28 x5_1 x18_7).f0)] rfl zq4_3 ?_; (with_reducible refine (store_Get.calls _ _ x14_4 ((rd_T28 x5_1 x18_7).f0) t434 t435 t436 t437 t438 t439 t440 t441 true _ ?side1 ?side2 A94.out).mono ?_); (case side1 => repeat (first | exact (Kd.R_reads' HO_14.out).2.2 | (with_reducible refine Kd.C_alloc ?_ _) | (with_reducible refine Kd.C_drewN ?_ _) | (with_reducible refine Kd.C_drew ?_))); (case side2 => exact (Kd.R_reads' HO_14.out).2.1); rintro e w112 ⟨rfl, hb⟩; refine ⟨_, rfl, ?_⟩; replace HO_5 := Aside0.mk (Kd.R_below zq4_10 hb); replace HO_14 := Aside0.mk (Kd.R_below zq4_7 hb); replace HB := Aside0.mk (below_step zq4_4 hb); (try clear hb); (try clear hb2); (try clear hk); (try clear hi)) | ((with_reducible refine gate_dst (N := 19) rfl ?_); (try (refine gate_guard (by rfl) ?_; dsimp only)); refine box_event ?hg (N := 19) ?hd (cs := #[.int .i64 0, .string (⟨#[]⟩ : ByteArray), .int .i64 0, .int .i64 0, .bool false, .complex .f64 0 0, .string (⟨#[]⟩ : ByteArray), .bool false]) (t := 41) ?hr ?_; (case hd => rfl); (case hg => rfl); (case hr => first | (go_simp; done) | (go_simp; rfl)); intro gb443 hg w113 hbox hb; replace HO_5 := Aside0.mk (Kd.R_below zq4_10 hb); replace HO_14 := Aside0.mk (Kd.R_below (Kd.R_elderB zq4_7 gb443 (Nat.le_of_eq hg.symm)) hb); have BK443 := Aside0.mk (hbox); have GW443 := Aside0.mk ((zq4_0 : w.heap.size ≤ gb443)); have GE443 := Aside0.mk ((zq4_0 : w.heap.size ≤ gb443)); replace HB := Aside0.mk (below_step zq4_4 hb); clear hb hbox hg; have hcz114_0 : w113.cell? ⟨gb443, 0, none⟩ = some (.int .i64 0) := zc_4 BK443 0; have hcz114_1 : w113.cell? ⟨gb443, 1, none⟩ = some (.string (⟨#[]⟩ : ByteArray)) := zc_4 BK443 1; have hcz114_2 : w113.cell? ⟨gb443, 2, none⟩ = some (.int .i64 0) := zc_4 BK443 2; have hcz114_3 : w113.cell? ⟨gb443, 3, none⟩ = some (.int .i64 0) := zc_4 BK443 3; have hcz114_4 : w113.cell? ⟨gb443, 4, none⟩ = some (.bool false) := zc_4 BK443 4; have hcz114_5 : w113.cell? ⟨gb443, 5, none⟩ = some (.complex .f64 0 0) := zc_4 BK443 5; have hcz114_6 : w113.cell? ⟨gb443, 6, none⟩ = some (.string (⟨#[]⟩ : ByteArray)) := zc_4 BK443 6; have hcz114_7 : w113.cell? ⟨gb443, 7, none⟩ = some (.bool false) := zc_4 BK443 7; have hfz114_0 := blk_frozen BK443.out 0; have hfz114_1 := blk_frozen BK443.out 1; have hfz114_2 := blk_frozen BK443.out 2; have hfz114_3 := blk_frozen BK443.out 3; have hfz114_4 := blk_frozen BK443.out 4; have hfz114_5 := blk_frozen BK443.out 5; have hfz114_6 := blk_frozen BK443.out 6; have hfz114_7 := blk_frozen BK443.out 7))
            have n0_ : Aside0 (Kd.R k28 28 ((((((((w113.setCell ⟨gb443, 0, none⟩ (.int .i64 t434)).setCell ⟨gb443, 1, none⟩ (.string t435)).setCell ⟨gb443, 2, none⟩ (.int .i64 t436)).setCell ⟨gb443, 3, none⟩ (.int .i64 t437)).setCell ⟨gb443, 4, none⟩ (.bool t438)).setCell ⟨gb443, 5, none⟩ (.complex .f64 t439.re t439.im)).setCell ⟨gb443, 6, none⟩ (.string t440)).setCell ⟨gb443, 7, none⟩ (.bool t441)) w.heap.size (fun _ => True) (.slice (some ad433) x5_1.length co37) x5_1) := ⟨by (with_reducible repeat (first | apply Kd.R_alloc | apply Kd.R_drewN | apply Kd.R_drew)); exact Kd.R_mono (Kd.R_far (p := ⟨gb443, 7, none⟩) (Kd.R_far (p := ⟨gb443, 6, none⟩) (Kd.R_far (p := ⟨gb443, 5, none⟩) (Kd.R_far (p := ⟨gb443, 4, none⟩) (Kd.R_far (p := ⟨gb443, 3, none⟩) (Kd.R_far (p := ⟨gb443, 2, none⟩) (Kd.R_far (p := ⟨gb443, 1, none⟩) (Kd.R_far (p := ⟨gb443, 0, none⟩) (Kd.R_types HO_5.out BK443.out (by decide)) (fun _ hk => hk.2) (.int .i64 t434)) (fun _ hk => hk.2) (.string t435)) (fun _ hk => hk.2) (.int .i64 t436)) (fun _ hk => hk.2) (.int .i64 t437)) (fun _ hk => hk.2) (.bool t438)) (fun _ hk => hk.2) (.complex .f64 t439.re t439.im)) (fun _ hk => hk.2) (.string t440)) (fun _ hk => hk.2) (.bool t441)) (fun _ hk => trivial)⟩
            have n1_ : Aside0 (Kd.R k41 41 ((((((((w113.setCell ⟨gb443, 0, none⟩ (.int .i64 t434)).setCell ⟨gb443, 1, none⟩ (.string t435)).setCell ⟨gb443, 2, none⟩ (.int .i64 t436)).setCell ⟨gb443, 3, none⟩ (.int .i64 t437)).setCell ⟨gb443, 4, none⟩ (.bool t438)).setCell ⟨gb443, 5, none⟩ (.complex .f64 t439.re t439.im)).setCell ⟨gb443, 6, none⟩ (.string t440)).setCell ⟨gb443, 7, none⟩ (.bool t441)) w.heap.size (fun k_ => k_ ≠ gb443) (.slice Ao91 x14_4.length co91) x14_4) := ⟨by (with_reducible repeat (first | apply Kd.R_alloc | apply Kd.R_drewN | apply Kd.R_drew)); exact Kd.R_mono (Kd.R_far (p := ⟨gb443, 7, none⟩) (Kd.R_far (p := ⟨gb443, 6, none⟩) (Kd.R_far (p := ⟨gb443, 5, none⟩) (Kd.R_far (p := ⟨gb443, 4, none⟩) (Kd.R_far (p := ⟨gb443, 3, none⟩) (Kd.R_far (p := ⟨gb443, 2, none⟩) (Kd.R_far (p := ⟨gb443, 1, none⟩) (Kd.R_far (p := ⟨gb443, 0, none⟩) (Kd.R_mono HO_14.out (fun k_ hk => (⟨hk, hk.2⟩ : _ ∧ k_ ≠ gb443))) (fun _ hk => hk.2) (.int .i64 t434)) (fun _ hk => hk.2) (.string t435)) (fun _ hk => hk.2) (.int .i64 t436)) (fun _ hk => hk.2) (.int .i64 t437)) (fun _ hk => hk.2) (.bool t438)) (fun _ hk => hk.2) (.complex .f64 t439.re t439.im)) (fun _ hk => hk.2) (.string t440)) (fun _ hk => hk.2) (.bool t441)) (fun _ hk => hk.1.2)⟩
            have n2_ : Aside0 (((((((((w113.setCell ⟨gb443, 0, none⟩ (.int .i64 t434)).setCell ⟨gb443, 1, none⟩ (.string t435)).setCell ⟨gb443, 2, none⟩ (.int .i64 t436)).setCell ⟨gb443, 3, none⟩ (.int .i64 t437)).setCell ⟨gb443, 4, none⟩ (.bool t438)).setCell ⟨gb443, 5, none⟩ (.complex .f64 t439.re t439.im)).setCell ⟨gb443, 6, none⟩ (.string t440)).setCell ⟨gb443, 7, none⟩ (.bool t441)).heap[gb443]? = some (.cells #[.int .i64 t434, .string t435, .int .i64 t436, .int .i64 t437, .bool t438, .complex .f64 t439.re t439.im, .string t440, .bool t441] 41 (0, 0))) := ⟨by (with_reducible repeat (first | refine blk_drewN ?_ _ | refine blk_drew ?_ | refine blk_alloc ?_ _)); refine blk_put (cs := #[.int .i64 t434, .string t435, .int .i64 t436, .int .i64 t437, .bool t438, .complex .f64 t439.re t439.im, .string t440, .bool false]) ?_ 7 _ rfl; (with_reducible repeat (first | refine blk_drewN ?_ _ | refine blk_drew ?_ | refine blk_alloc ?_ _)); refine blk_put (cs := #[.int .i64 t434, .string t435, .int .i64 t436, .int .i64 t437, .bool t438, .complex .f64 t439.re t439.im, .string (⟨#[]⟩ : ByteArray), .bool false]) ?_ 6 _ rfl; (with_reducible repeat (first | refine blk_drewN ?_ _ | refine blk_drew ?_ | refine blk_alloc ?_ _)); refine blk_put (cs := #[.int .i64 t434, .string t435, .int .i64 t436, .int .i64 t437, .bool t438, .complex .f64 0 0, .string (⟨#[]⟩ : ByteArray), .bool false]) ?_ 5 _ rfl; (with_reducible repeat (first | refine blk_drewN ?_ _ | refine blk_drew ?_ | refine blk_alloc ?_ _)); refine blk_put (cs := #[.int .i64 t434, .string t435, .int .i64 t436, .int .i64 t437, .bool false, .complex .f64 0 0, .string (⟨#[]⟩ : ByteArray), .bool false]) ?_ 4 _ rfl; (with_reducible repeat (first | refine blk_drewN ?_ _ | refine blk_drew ?_ | refine blk_alloc ?_ _)); refine blk_put (cs := #[.int .i64 t434, .string t435, .int .i64 t436, .int .i64 0, .bool false, .complex .f64 0 0, .string (⟨#[]⟩ : ByteArray), .bool false]) ?_ 3 _ rfl; (with_reducible repeat (first | refine blk_drewN ?_ _ | refine blk_drew ?_ | refine blk_alloc ?_ _)); refine blk_put (cs := #[.int .i64 t434, .string t435, .int .i64 0, .int .i64 0, .bool false, .complex .f64 0 0, .string (⟨#[]⟩ : ByteArray), .bool false]) ?_ 2 _ rfl; (with_reducible repeat (first | refine blk_drewN ?_ _ | refine blk_drew ?_ | refine blk_alloc ?_ _)); refine blk_put (cs := #[.int .i64 t434, .string (⟨#[]⟩ : ByteArray), .int .i64 0, .int .i64 0, .bool false, .complex .f64 0 0, .string (⟨#[]⟩ : ByteArray), .bool false]) ?_ 1 _ rfl; (with_reducible repeat (first | refine blk_drewN ?_ _ | refine blk_drew ?_ | refine blk_alloc ?_ _)); refine blk_put (cs := #[.int .i64 0, .string (⟨#[]⟩ : ByteArray), .int .i64 0, .int .i64 0, .bool false, .complex .f64 0 0, .string (⟨#[]⟩ : ByteArray), .bool false]) ?_ 0 _ rfl; (with_reducible repeat (first | refine blk_drewN ?_ _ | refine blk_drew ?_ | refine blk_alloc ?_ _)); exact BK443.out⟩
            have n3_ : Aside0 (Below w.heap.size w ((((((((w113.setCell ⟨gb443, 0, none⟩ (.int .i64 t434)).setCell ⟨gb443, 1, none⟩ (.string t435)).setCell ⟨gb443, 2, none⟩ (.int .i64 t436)).setCell ⟨gb443, 3, none⟩ (.int .i64 t437)).setCell ⟨gb443, 4, none⟩ (.bool t438)).setCell ⟨gb443, 5, none⟩ (.complex .f64 t439.re t439.im)).setCell ⟨gb443, 6, none⟩ (.string t440)).setCell ⟨gb443, 7, none⟩ (.bool t441))) := ⟨by repeat (first | (with_reducible first | exact HB.out | apply below_alloc | apply pw_below_drewN | apply below_drew1 | refine below_set ?_ GE443.out) | exact HB.out)⟩
            (try clear HO_5)
            (try clear HO_14)
            (try clear BK443)
            (try clear HB)
            generalize ((((((((w113.setCell ⟨gb443, 0, none⟩ (.int .i64 t434)).setCell ⟨gb443, 1, none⟩ (.string t435)).setCell ⟨gb443, 2, none⟩ (.int .i64 t436)).setCell ⟨gb443, 3, none⟩ (.int .i64 t437)).setCell ⟨gb443, 4, none⟩ (.bool t438)).setCell ⟨gb443, 5, none⟩ (.complex .f64 t439.re t439.im)).setCell ⟨gb443, 6, none⟩ (.string t440)).setCell ⟨gb443, 7, none⟩ (.bool t441)) = w115 at n0_ n1_ n2_ n3_ ⊢
            have HO_5 := n0_
            have HO_14 := n1_
            have BK443 := n2_
            have HB := n3_
            clear n0_ n1_ n2_ n3_
            replace HO_5 := Aside0.mk (Kd.R_drew HO_5.out)
            replace HO_14 := Aside0.mk (Kd.R_drew HO_14.out)
            replace BK443 := Aside0.mk (blk_drew BK443.out)
            replace HB := Aside0.mk (below_drew1 HB.out)
            have p444 : 0 ≤ (x18_7 : Int) := of_decide_eq_true zq4_11
            have q444 : x18_7 < (x5_1.length : Int) := of_decide_eq_true zq4_11
            obtain ⟨ad444, e444, hx444_0, hx444_1, hx444_2, hx444_3, hx444_4, hx444_5, hx444_6, hx444_7, hx444_8⟩ := at_T28 (Kd.R_reads' HO_5.out).2.2 x18_7 p444 q444
            (try rw [← Nbq101.out] at hx444_4)
            (try rw [← Nbq101.out] at hx444_8)
            obtain rfl : ad433 = ad444 := (by injection e444)
            replace p444 := eq_true p444
            replace q444 := eq_true q444
            have p455 : 0 ≤ (x18_7 : Int) := of_decide_eq_true zq4_11
            have q455 : x18_7 < (x5_1.length : Int) := of_decide_eq_true zq4_11
            obtain ⟨ad455, e455, hx455_0, hx455_1, hx455_2, hx455_3, hx455_4, hx455_5, hx455_6, hx455_7, hx455_8⟩ := at_T28 (Kd.R_reads' HO_5.out).2.2 x18_7 p455 q455
            (try rw [← Nbq101.out] at hx455_4)
            (try rw [← Nbq101.out] at hx455_8)
            obtain rfl : ad433 = ad455 := (by injection e455)
            replace p455 := eq_true p455
            replace q455 := eq_true q455
            have p465 : 0 ≤ (x18_7 : Int) := of_decide_eq_true zq4_11
            have q465 : x18_7 < (x5_1.length : Int) := of_decide_eq_true zq4_11
            obtain ⟨ad465, e465, hx465_0, hx465_1, hx465_2, hx465_3, hx465_4, hx465_5, hx465_6, hx465_7, hx465_8⟩ := at_T28 (Kd.R_reads' HO_5.out).2.2 x18_7 p465 q465
            (try rw [← Nbq101.out] at hx465_4)
            (try rw [← Nbq101.out] at hx465_8)
            obtain rfl : ad433 = ad465 := (by injection e465)
            replace p465 := eq_true p465
            replace q465 := eq_true q465
            refine start_ (n := 36) (S := fun w' => w'.cell? ⟨gb443, 0, none⟩ = some (.int .i64 t434) ∧ w'.cell? ⟨gb443, 1, none⟩ = some (.string t435) ∧ w'.cell? ⟨gb443, 2, none⟩ = some (.int .i64 t436) ∧ w'.cell? ⟨gb443, 3, none⟩ = some (.int .i64 t437) ∧ w'.cell? ⟨gb443, 4, none⟩ = some (.bool t438) ∧ w'.cell? ⟨gb443, 5, none⟩ = some (.complex .f64 t439.re t439.im) ∧ w'.cell? ⟨gb443, 6, none⟩ = some (.string t440) ∧ w'.cell? ⟨gb443, 7, none⟩ = some (.bool t441) ∧ w'.cell? (ad433.add ((x18_7).toNat * 9)) = some (.int .i64 ((rd_T28 x5_1 x18_7).f0)) ∧ w'.cell? ⟨(ad433.add ((x18_7).toNat * 9)).block, (ad433.add ((x18_7).toNat * 9)).off + 1, none⟩ = some (.string ((rd_T28 x5_1 x18_7).f1.f0)) ∧ w'.cell? ⟨(ad433.add ((x18_7).toNat * 9)).block, (ad433.add ((x18_7).toNat * 9)).off + 2, none⟩ = some (.int .i64 ((rd_T28 x5_1 x18_7).f1.f1)) ∧ w'.cell? ⟨(ad433.add ((x18_7).toNat * 9)).block, (ad433.add ((x18_7).toNat * 9)).off + 3, none⟩ = some (.int .i64 ((rd_T28 x5_1 x18_7).f1.f2)) ∧ w'.cell? ⟨(ad433.add ((x18_7).toNat * 9)).block, (ad433.add ((x18_7).toNat * 9)).off + 4, none⟩ = some (.bool ((rd_T28 x5_1 x18_7).f2)) ∧ w'.cell? ⟨(ad433.add ((x18_7).toNat * 9)).block, (ad433.add ((x18_7).toNat * 9)).off + 5, none⟩ = some (.int .i64 ((rd_T28 x5_1 x18_7).f3.f0)) ∧ w'.cell? ⟨(ad433.add ((x18_7).toNat * 9)).block, (ad433.add ((x18_7).toNat * 9)).off + 6, none⟩ = some (.int .i64 ((rd_T28 x5_1 x18_7).f3.f1)) ∧ w'.cell? ⟨(ad433.add ((x18_7).toNat * 9)).block, (ad433.add ((x18_7).toNat * 9)).off + 7, none⟩ = some (.string ((rd_T28 x5_1 x18_7).f4)) ∧ w'.cell? ⟨(ad433.add ((x18_7).toNat * 9)).block, (ad433.add ((x18_7).toNat * 9)).off + 8, none⟩ = some (.bool false) ∧ w'.cell? (ad433.add ((x18_7).toNat * 9)) = some (.int .i64 ((rd_T28 x5_1 x18_7).f0)) ∧ w'.cell? ⟨(ad433.add ((x18_7).toNat * 9)).block, (ad433.add ((x18_7).toNat * 9)).off + 1, none⟩ = some (.string ((rd_T28 x5_1 x18_7).f1.f0)) ∧ w'.cell? ⟨(ad433.add ((x18_7).toNat * 9)).block, (ad433.add ((x18_7).toNat * 9)).off + 2, none⟩ = some (.int .i64 ((rd_T28 x5_1 x18_7).f1.f1)) ∧ w'.cell? ⟨(ad433.add ((x18_7).toNat * 9)).block, (ad433.add ((x18_7).toNat * 9)).off + 3, none⟩ = some (.int .i64 ((rd_T28 x5_1 x18_7).f1.f2)) ∧ w'.cell? ⟨(ad433.add ((x18_7).toNat * 9)).block, (ad433.add ((x18_7).toNat * 9)).off + 4, none⟩ = some (.bool ((rd_T28 x5_1 x18_7).f2)) ∧ w'.cell? ⟨(ad433.add ((x18_7).toNat * 9)).block, (ad433.add ((x18_7).toNat * 9)).off + 5, none⟩ = some (.int .i64 ((rd_T28 x5_1 x18_7).f3.f0)) ∧ w'.cell? ⟨(ad433.add ((x18_7).toNat * 9)).block, (ad433.add ((x18_7).toNat * 9)).off + 6, none⟩ = some (.int .i64 ((rd_T28 x5_1 x18_7).f3.f1)) ∧ w'.cell? ⟨(ad433.add ((x18_7).toNat * 9)).block, (ad433.add ((x18_7).toNat * 9)).off + 7, none⟩ = some (.string ((rd_T28 x5_1 x18_7).f4)) ∧ w'.cell? ⟨(ad433.add ((x18_7).toNat * 9)).block, (ad433.add ((x18_7).toNat * 9)).off + 8, none⟩ = some (.bool false) ∧ w'.cell? (ad433.add ((x18_7).toNat * 9)) = some (.int .i64 ((rd_T28 x5_1 x18_7).f0)) ∧ w'.cell? ⟨(ad433.add ((x18_7).toNat * 9)).block, (ad433.add ((x18_7).toNat * 9)).off + 1, none⟩ = some (.string ((rd_T28 x5_1 x18_7).f1.f0)) ∧ w'.cell? ⟨(ad433.add ((x18_7).toNat * 9)).block, (ad433.add ((x18_7).toNat * 9)).off + 2, none⟩ = some (.int .i64 ((rd_T28 x5_1 x18_7).f1.f1)) ∧ w'.cell? ⟨(ad433.add ((x18_7).toNat * 9)).block, (ad433.add ((x18_7).toNat * 9)).off + 3, none⟩ = some (.int .i64 ((rd_T28 x5_1 x18_7).f1.f2)) ∧ w'.cell? ⟨(ad433.add ((x18_7).toNat * 9)).block, (ad433.add ((x18_7).toNat * 9)).off + 4, none⟩ = some (.bool ((rd_T28 x5_1 x18_7).f2)) ∧ w'.cell? ⟨(ad433.add ((x18_7).toNat * 9)).block, (ad433.add ((x18_7).toNat * 9)).off + 5, none⟩ = some (.int .i64 ((rd_T28 x5_1 x18_7).f3.f0)) ∧ w'.cell? ⟨(ad433.add ((x18_7).toNat * 9)).block, (ad433.add ((x18_7).toNat * 9)).off + 6, none⟩ = some (.int .i64 ((rd_T28 x5_1 x18_7).f3.f1)) ∧ w'.cell? ⟨(ad433.add ((x18_7).toNat * 9)).block, (ad433.add ((x18_7).toNat * 9)).off + 7, none⟩ = some (.string ((rd_T28 x5_1 x18_7).f4)) ∧ w'.cell? ⟨(ad433.add ((x18_7).toNat * 9)).block, (ad433.add ((x18_7).toNat * 9)).off + 8, none⟩ = some (.bool false)) (ds := []) #[bF4, bF4, bF4, bF4, bF4, bF4, bF4, bF4, bF4, bF4, bF4, bF4, bF4, bF4, bF4, bF4, bF4, bF4, bF4, bF4, bF4, bF4, bF4, bF4, bF4, bF4, bF4, bF4, bF4, bF4, bF4, bF4, bF4, bF4, bF4, bF4] (by kernel_rfl) rfl rfl ⟨zc_4 BK443 0, zc_4 BK443 1, zc_4 BK443 2, zc_4 BK443 3, zc_4 BK443 4, zc_4 BK443 5, zc_4 BK443 6, zc_4 BK443 7, hx444_0, hx444_1, hx444_2, hx444_3, hx444_4, hx444_5, hx444_6, hx444_7, hx444_8, hx455_0, hx455_1, hx455_2, hx455_3, hx455_4, hx455_5, hx455_6, hx455_7, hx455_8, hx465_0, hx465_1, hx465_2, hx465_3, hx465_4, hx465_5, hx465_6, hx465_7, hx465_8⟩ (fun hHeld => ?_); refine with_tabW cenotaphlaw08_StoreOrders.tab38 cenotaphlaw08_StoreOrders.bits38 (fun HT_ HW_ => ?_)
            generalize w115.drew = w116 at HO_5 HO_14 BK443 HB hx444_0 hx444_1 hx444_2 hx444_3 hx444_4 hx444_5 hx444_6 hx444_7 hx444_8 hx455_0 hx455_1 hx455_2 hx455_3 hx455_4 hx455_5 hx455_6 hx455_7 hx455_8 hx465_0 hx465_1 hx465_2 hx465_3 hx465_4 hx465_5 hx465_6 hx465_7 hx465_8 hHeld ⊢
            refine p_ 0 231 (mk_ 36 0x1) ?_
            refine p_ 1 232 (mk_ 36 0x3) ?_
            refine p_ 2 233 (mk_ 36 0x7) ?_
            refine p_ 3 234 (mk_ 36 0xf) ?_
            refine p_ 4 235 (mk_ 36 0x1f) ?_
            refine p_ 5 236 (mk_ 36 0x3f) ?_
            refine p_ 6 237 (mk_ 36 0x7f) ?_
            refine t_ 7 238 (mk_ 36 0xff) hHeld ?_
            refine t_ 8 239 (mk_ 36 0x1ff) hHeld ?_
            refine one_ (i := 9) (N := some 240) #[bT4, bT4, bT4, bT4, bT4, bT4, bT4, bT4, bT4, bT4, bF4, bF4, bF4, bF4, bF4, bF4, bF4, bF4, bF4, bF4, bF4, bF4, bF4, bF4, bF4, bF4, bF4, bF4, bF4, bF4, bF4, bF4, bF4, bF4, bF4, bF4] rfl rfl (one_of HT_.out (by kernel_rfl)) (by decide) (fun K hK => ?_)
            refine goes_ Try.func20 (by kernel_rfl) rfl #[.agg #[.int .i64 t434, .string t435, .int .i64 t436, .int .i64 t437, .bool t438, .complex .f64 t439.re t439.im, .string t440, .bool t441]] (by rfl) rfl rfl zq4_3 ?_
            with_reducible refine (cenotaphlaw07_From.calls t434 t435 t436 t437 t438 t439 t440 t441 t445 t446 t447 t448 t449 t450 t451 t452 t453 _ A96.out).mono ?_
            rintro e w117 ⟨rfl, hb⟩
            have HS8_ := (hb.cell (World.block_lt_of_cell? _ _ (hHeld.2.2.2.2.2.2.2.2.1))).trans (hHeld.2.2.2.2.2.2.2.2.1)
            have HS9_ := (hb.cell (World.block_lt_of_cell? _ _ (hHeld.2.2.2.2.2.2.2.2.2.1))).trans (hHeld.2.2.2.2.2.2.2.2.2.1)
            have HS10_ := (hb.cell (World.block_lt_of_cell? _ _ (hHeld.2.2.2.2.2.2.2.2.2.2.1))).trans (hHeld.2.2.2.2.2.2.2.2.2.2.1)
            have HS11_ := (hb.cell (World.block_lt_of_cell? _ _ (hHeld.2.2.2.2.2.2.2.2.2.2.2.1))).trans (hHeld.2.2.2.2.2.2.2.2.2.2.2.1)
            have HS12_ := (hb.cell (World.block_lt_of_cell? _ _ (hHeld.2.2.2.2.2.2.2.2.2.2.2.2.1))).trans (hHeld.2.2.2.2.2.2.2.2.2.2.2.2.1)
            have HS13_ := (hb.cell (World.block_lt_of_cell? _ _ (hHeld.2.2.2.2.2.2.2.2.2.2.2.2.2.1))).trans (hHeld.2.2.2.2.2.2.2.2.2.2.2.2.2.1)
            have HS14_ := (hb.cell (World.block_lt_of_cell? _ _ (hHeld.2.2.2.2.2.2.2.2.2.2.2.2.2.2.1))).trans (hHeld.2.2.2.2.2.2.2.2.2.2.2.2.2.2.1)
            have HS15_ := (hb.cell (World.block_lt_of_cell? _ _ (hHeld.2.2.2.2.2.2.2.2.2.2.2.2.2.2.2.1))).trans (hHeld.2.2.2.2.2.2.2.2.2.2.2.2.2.2.2.1)
            have HS16_ := (hb.cell (World.block_lt_of_cell? _ _ (hHeld.2.2.2.2.2.2.2.2.2.2.2.2.2.2.2.2.1))).trans (hHeld.2.2.2.2.2.2.2.2.2.2.2.2.2.2.2.2.1)
            have HS17_ := (hb.cell (World.block_lt_of_cell? _ _ (hHeld.2.2.2.2.2.2.2.2.2.2.2.2.2.2.2.2.2.1))).trans (hHeld.2.2.2.2.2.2.2.2.2.2.2.2.2.2.2.2.2.1)
            have HS18_ := (hb.cell (World.block_lt_of_cell? _ _ (hHeld.2.2.2.2.2.2.2.2.2.2.2.2.2.2.2.2.2.2.1))).trans (hHeld.2.2.2.2.2.2.2.2.2.2.2.2.2.2.2.2.2.2.1)
            have HS19_ := (hb.cell (World.block_lt_of_cell? _ _ (hHeld.2.2.2.2.2.2.2.2.2.2.2.2.2.2.2.2.2.2.2.1))).trans (hHeld.2.2.2.2.2.2.2.2.2.2.2.2.2.2.2.2.2.2.2.1)
            have HS20_ := (hb.cell (World.block_lt_of_cell? _ _ (hHeld.2.2.2.2.2.2.2.2.2.2.2.2.2.2.2.2.2.2.2.2.1))).trans (hHeld.2.2.2.2.2.2.2.2.2.2.2.2.2.2.2.2.2.2.2.2.1)
            have HS21_ := (hb.cell (World.block_lt_of_cell? _ _ (hHeld.2.2.2.2.2.2.2.2.2.2.2.2.2.2.2.2.2.2.2.2.2.1))).trans (hHeld.2.2.2.2.2.2.2.2.2.2.2.2.2.2.2.2.2.2.2.2.2.1)
            have HS22_ := (hb.cell (World.block_lt_of_cell? _ _ (hHeld.2.2.2.2.2.2.2.2.2.2.2.2.2.2.2.2.2.2.2.2.2.2.1))).trans (hHeld.2.2.2.2.2.2.2.2.2.2.2.2.2.2.2.2.2.2.2.2.2.2.1)
            have HS23_ := (hb.cell (World.block_lt_of_cell? _ _ (hHeld.2.2.2.2.2.2.2.2.2.2.2.2.2.2.2.2.2.2.2.2.2.2.2.1))).trans (hHeld.2.2.2.2.2.2.2.2.2.2.2.2.2.2.2.2.2.2.2.2.2.2.2.1)
            have HS24_ := (hb.cell (World.block_lt_of_cell? _ _ (hHeld.2.2.2.2.2.2.2.2.2.2.2.2.2.2.2.2.2.2.2.2.2.2.2.2.1))).trans (hHeld.2.2.2.2.2.2.2.2.2.2.2.2.2.2.2.2.2.2.2.2.2.2.2.2.1)
            have HS25_ := (hb.cell (World.block_lt_of_cell? _ _ (hHeld.2.2.2.2.2.2.2.2.2.2.2.2.2.2.2.2.2.2.2.2.2.2.2.2.2.1))).trans (hHeld.2.2.2.2.2.2.2.2.2.2.2.2.2.2.2.2.2.2.2.2.2.2.2.2.2.1)
            have HS26_ := (hb.cell (World.block_lt_of_cell? _ _ (hHeld.2.2.2.2.2.2.2.2.2.2.2.2.2.2.2.2.2.2.2.2.2.2.2.2.2.2.1))).trans (hHeld.2.2.2.2.2.2.2.2.2.2.2.2.2.2.2.2.2.2.2.2.2.2.2.2.2.2.1)
            have HS27_ := (hb.cell (World.block_lt_of_cell? _ _ (hHeld.2.2.2.2.2.2.2.2.2.2.2.2.2.2.2.2.2.2.2.2.2.2.2.2.2.2.2.1))).trans (hHeld.2.2.2.2.2.2.2.2.2.2.2.2.2.2.2.2.2.2.2.2.2.2.2.2.2.2.2.1)
            have HS28_ := (hb.cell (World.block_lt_of_cell? _ _ (hHeld.2.2.2.2.2.2.2.2.2.2.2.2.2.2.2.2.2.2.2.2.2.2.2.2.2.2.2.2.1))).trans (hHeld.2.2.2.2.2.2.2.2.2.2.2.2.2.2.2.2.2.2.2.2.2.2.2.2.2.2.2.2.1)
            have HS29_ := (hb.cell (World.block_lt_of_cell? _ _ (hHeld.2.2.2.2.2.2.2.2.2.2.2.2.2.2.2.2.2.2.2.2.2.2.2.2.2.2.2.2.2.1))).trans (hHeld.2.2.2.2.2.2.2.2.2.2.2.2.2.2.2.2.2.2.2.2.2.2.2.2.2.2.2.2.2.1)
            have HS30_ := (hb.cell (World.block_lt_of_cell? _ _ (hHeld.2.2.2.2.2.2.2.2.2.2.2.2.2.2.2.2.2.2.2.2.2.2.2.2.2.2.2.2.2.2.1))).trans (hHeld.2.2.2.2.2.2.2.2.2.2.2.2.2.2.2.2.2.2.2.2.2.2.2.2.2.2.2.2.2.2.1)
            have HS31_ := (hb.cell (World.block_lt_of_cell? _ _ (hHeld.2.2.2.2.2.2.2.2.2.2.2.2.2.2.2.2.2.2.2.2.2.2.2.2.2.2.2.2.2.2.2.1))).trans (hHeld.2.2.2.2.2.2.2.2.2.2.2.2.2.2.2.2.2.2.2.2.2.2.2.2.2.2.2.2.2.2.2.1)
            have HS32_ := (hb.cell (World.block_lt_of_cell? _ _ (hHeld.2.2.2.2.2.2.2.2.2.2.2.2.2.2.2.2.2.2.2.2.2.2.2.2.2.2.2.2.2.2.2.2.1))).trans (hHeld.2.2.2.2.2.2.2.2.2.2.2.2.2.2.2.2.2.2.2.2.2.2.2.2.2.2.2.2.2.2.2.2.1)
            have HS33_ := (hb.cell (World.block_lt_of_cell? _ _ (hHeld.2.2.2.2.2.2.2.2.2.2.2.2.2.2.2.2.2.2.2.2.2.2.2.2.2.2.2.2.2.2.2.2.2.1))).trans (hHeld.2.2.2.2.2.2.2.2.2.2.2.2.2.2.2.2.2.2.2.2.2.2.2.2.2.2.2.2.2.2.2.2.2.1)
            have HS34_ := (hb.cell (World.block_lt_of_cell? _ _ (hHeld.2.2.2.2.2.2.2.2.2.2.2.2.2.2.2.2.2.2.2.2.2.2.2.2.2.2.2.2.2.2.2.2.2.2))).trans (hHeld.2.2.2.2.2.2.2.2.2.2.2.2.2.2.2.2.2.2.2.2.2.2.2.2.2.2.2.2.2.2.2.2.2.2)
            refine ⟨_, rfl, ?_⟩
            replace HO_5 := Aside0.mk (Kd.R_below zq4_10 hb)
            replace HO_14 := Aside0.mk (Kd.R_below zq4_7 hb)
            replace BK443 := Aside0.mk (blk_below (g := gb443) (o := .cells #[.int .i64 t434, .string t435, .int .i64 t436, .int .i64 t437, .bool t438, .complex .f64 t439.re t439.im, .string t440, .bool t441] 41 (0, 0)) zq4_5 hb)
            replace HB := Aside0.mk (below_step zq4_2 hb)
            (try clear hb)
            (try clear hb2)
            (try clear hk)
            (try clear hi)
            refine hK.out _ _ ⟨zc_4 BK443 0, zc_4 BK443 1, zc_4 BK443 2, zc_4 BK443 3, zc_4 BK443 4, zc_4 BK443 5, zc_4 BK443 6, zc_4 BK443 7, HS8_, HS9_, HS10_, HS11_, HS12_, HS13_, HS14_, HS15_, HS16_, HS17_, HS18_, HS19_, HS20_, HS21_, HS22_, HS23_, HS24_, HS25_, HS26_, HS27_, HS28_, HS29_, HS30_, HS31_, HS32_, HS33_, HS34_⟩ (fun hHeld => ?_)
            clear hK K
            refine norm_ (a' := ?_) ?_ ?_
            rotate_left
            ·show Act.put _ (some 240) _ = _
             simp only [Act.put, List.setIfInBounds_toArray, List.set_cons_zero, List.set_cons_succ, i64_w, i32_w]
             rfl
            refine p_ 10 241 (mk_ 36 0x7ff) ?_
            refine one_ (i := 11) (N := some 242) #[bT4, bT4, bT4, bT4, bT4, bT4, bT4, bT4, bT4, bT4, bT4, bT4, bF4, bF4, bF4, bF4, bF4, bF4, bF4, bF4, bF4, bF4, bF4, bF4, bF4, bF4, bF4, bF4, bF4, bF4, bF4, bF4, bF4, bF4, bF4, bF4] rfl rfl (one_of HT_.out (by kernel_rfl)) (by decide) (fun K hK => ?_)
            refine goes_ Try.func24 (by kernel_rfl) rfl #[.agg #[.string ((rd_T28 x5_1 x18_7).f1.f0), .int .i64 ((rd_T28 x5_1 x18_7).f1.f1), .int .i64 ((rd_T28 x5_1 x18_7).f1.f2)], .agg #[.string t446, .int .i64 t447, .int .i64 t448]] (by rfl) rfl rfl zq4_3 ?_
            with_reducible refine (cenotaphref07_Newer.calls k7 ((rd_T28 x5_1 x18_7).f1.f0) ((rd_T28 x5_1 x18_7).f1.f1) ((rd_T28 x5_1 x18_7).f1.f2) t446 t447 t448 false _ A97.out).mono ?_
            rintro e w118 ⟨rfl, hb⟩
            have HS8_ := (hb.cell (World.block_lt_of_cell? _ _ (hHeld.2.2.2.2.2.2.2.2.1))).trans (hHeld.2.2.2.2.2.2.2.2.1)
            have HS9_ := (hb.cell (World.block_lt_of_cell? _ _ (hHeld.2.2.2.2.2.2.2.2.2.1))).trans (hHeld.2.2.2.2.2.2.2.2.2.1)
            have HS10_ := (hb.cell (World.block_lt_of_cell? _ _ (hHeld.2.2.2.2.2.2.2.2.2.2.1))).trans (hHeld.2.2.2.2.2.2.2.2.2.2.1)
            have HS11_ := (hb.cell (World.block_lt_of_cell? _ _ (hHeld.2.2.2.2.2.2.2.2.2.2.2.1))).trans (hHeld.2.2.2.2.2.2.2.2.2.2.2.1)
            have HS12_ := (hb.cell (World.block_lt_of_cell? _ _ (hHeld.2.2.2.2.2.2.2.2.2.2.2.2.1))).trans (hHeld.2.2.2.2.2.2.2.2.2.2.2.2.1)
            have HS13_ := (hb.cell (World.block_lt_of_cell? _ _ (hHeld.2.2.2.2.2.2.2.2.2.2.2.2.2.1))).trans (hHeld.2.2.2.2.2.2.2.2.2.2.2.2.2.1)
            have HS14_ := (hb.cell (World.block_lt_of_cell? _ _ (hHeld.2.2.2.2.2.2.2.2.2.2.2.2.2.2.1))).trans (hHeld.2.2.2.2.2.2.2.2.2.2.2.2.2.2.1)
            have HS15_ := (hb.cell (World.block_lt_of_cell? _ _ (hHeld.2.2.2.2.2.2.2.2.2.2.2.2.2.2.2.1))).trans (hHeld.2.2.2.2.2.2.2.2.2.2.2.2.2.2.2.1)
            have HS16_ := (hb.cell (World.block_lt_of_cell? _ _ (hHeld.2.2.2.2.2.2.2.2.2.2.2.2.2.2.2.2.1))).trans (hHeld.2.2.2.2.2.2.2.2.2.2.2.2.2.2.2.2.1)
            have HS17_ := (hb.cell (World.block_lt_of_cell? _ _ (hHeld.2.2.2.2.2.2.2.2.2.2.2.2.2.2.2.2.2.1))).trans (hHeld.2.2.2.2.2.2.2.2.2.2.2.2.2.2.2.2.2.1)
            have HS18_ := (hb.cell (World.block_lt_of_cell? _ _ (hHeld.2.2.2.2.2.2.2.2.2.2.2.2.2.2.2.2.2.2.1))).trans (hHeld.2.2.2.2.2.2.2.2.2.2.2.2.2.2.2.2.2.2.1)
            have HS19_ := (hb.cell (World.block_lt_of_cell? _ _ (hHeld.2.2.2.2.2.2.2.2.2.2.2.2.2.2.2.2.2.2.2.1))).trans (hHeld.2.2.2.2.2.2.2.2.2.2.2.2.2.2.2.2.2.2.2.1)
            have HS20_ := (hb.cell (World.block_lt_of_cell? _ _ (hHeld.2.2.2.2.2.2.2.2.2.2.2.2.2.2.2.2.2.2.2.2.1))).trans (hHeld.2.2.2.2.2.2.2.2.2.2.2.2.2.2.2.2.2.2.2.2.1)
            have HS21_ := (hb.cell (World.block_lt_of_cell? _ _ (hHeld.2.2.2.2.2.2.2.2.2.2.2.2.2.2.2.2.2.2.2.2.2.1))).trans (hHeld.2.2.2.2.2.2.2.2.2.2.2.2.2.2.2.2.2.2.2.2.2.1)
            have HS22_ := (hb.cell (World.block_lt_of_cell? _ _ (hHeld.2.2.2.2.2.2.2.2.2.2.2.2.2.2.2.2.2.2.2.2.2.2.1))).trans (hHeld.2.2.2.2.2.2.2.2.2.2.2.2.2.2.2.2.2.2.2.2.2.2.1)
            have HS23_ := (hb.cell (World.block_lt_of_cell? _ _ (hHeld.2.2.2.2.2.2.2.2.2.2.2.2.2.2.2.2.2.2.2.2.2.2.2.1))).trans (hHeld.2.2.2.2.2.2.2.2.2.2.2.2.2.2.2.2.2.2.2.2.2.2.2.1)
            have HS24_ := (hb.cell (World.block_lt_of_cell? _ _ (hHeld.2.2.2.2.2.2.2.2.2.2.2.2.2.2.2.2.2.2.2.2.2.2.2.2.1))).trans (hHeld.2.2.2.2.2.2.2.2.2.2.2.2.2.2.2.2.2.2.2.2.2.2.2.2.1)
            have HS25_ := (hb.cell (World.block_lt_of_cell? _ _ (hHeld.2.2.2.2.2.2.2.2.2.2.2.2.2.2.2.2.2.2.2.2.2.2.2.2.2.1))).trans (hHeld.2.2.2.2.2.2.2.2.2.2.2.2.2.2.2.2.2.2.2.2.2.2.2.2.2.1)
            have HS26_ := (hb.cell (World.block_lt_of_cell? _ _ (hHeld.2.2.2.2.2.2.2.2.2.2.2.2.2.2.2.2.2.2.2.2.2.2.2.2.2.2.1))).trans (hHeld.2.2.2.2.2.2.2.2.2.2.2.2.2.2.2.2.2.2.2.2.2.2.2.2.2.2.1)
            have HS27_ := (hb.cell (World.block_lt_of_cell? _ _ (hHeld.2.2.2.2.2.2.2.2.2.2.2.2.2.2.2.2.2.2.2.2.2.2.2.2.2.2.2.1))).trans (hHeld.2.2.2.2.2.2.2.2.2.2.2.2.2.2.2.2.2.2.2.2.2.2.2.2.2.2.2.1)
            have HS28_ := (hb.cell (World.block_lt_of_cell? _ _ (hHeld.2.2.2.2.2.2.2.2.2.2.2.2.2.2.2.2.2.2.2.2.2.2.2.2.2.2.2.2.1))).trans (hHeld.2.2.2.2.2.2.2.2.2.2.2.2.2.2.2.2.2.2.2.2.2.2.2.2.2.2.2.2.1)
            have HS29_ := (hb.cell (World.block_lt_of_cell? _ _ (hHeld.2.2.2.2.2.2.2.2.2.2.2.2.2.2.2.2.2.2.2.2.2.2.2.2.2.2.2.2.2.1))).trans (hHeld.2.2.2.2.2.2.2.2.2.2.2.2.2.2.2.2.2.2.2.2.2.2.2.2.2.2.2.2.2.1)
            have HS30_ := (hb.cell (World.block_lt_of_cell? _ _ (hHeld.2.2.2.2.2.2.2.2.2.2.2.2.2.2.2.2.2.2.2.2.2.2.2.2.2.2.2.2.2.2.1))).trans (hHeld.2.2.2.2.2.2.2.2.2.2.2.2.2.2.2.2.2.2.2.2.2.2.2.2.2.2.2.2.2.2.1)
            have HS31_ := (hb.cell (World.block_lt_of_cell? _ _ (hHeld.2.2.2.2.2.2.2.2.2.2.2.2.2.2.2.2.2.2.2.2.2.2.2.2.2.2.2.2.2.2.2.1))).trans (hHeld.2.2.2.2.2.2.2.2.2.2.2.2.2.2.2.2.2.2.2.2.2.2.2.2.2.2.2.2.2.2.2.1)
            have HS32_ := (hb.cell (World.block_lt_of_cell? _ _ (hHeld.2.2.2.2.2.2.2.2.2.2.2.2.2.2.2.2.2.2.2.2.2.2.2.2.2.2.2.2.2.2.2.2.1))).trans (hHeld.2.2.2.2.2.2.2.2.2.2.2.2.2.2.2.2.2.2.2.2.2.2.2.2.2.2.2.2.2.2.2.2.1)
            have HS33_ := (hb.cell (World.block_lt_of_cell? _ _ (hHeld.2.2.2.2.2.2.2.2.2.2.2.2.2.2.2.2.2.2.2.2.2.2.2.2.2.2.2.2.2.2.2.2.2.1))).trans (hHeld.2.2.2.2.2.2.2.2.2.2.2.2.2.2.2.2.2.2.2.2.2.2.2.2.2.2.2.2.2.2.2.2.2.1)
            have HS34_ := (hb.cell (World.block_lt_of_cell? _ _ (hHeld.2.2.2.2.2.2.2.2.2.2.2.2.2.2.2.2.2.2.2.2.2.2.2.2.2.2.2.2.2.2.2.2.2.2))).trans (hHeld.2.2.2.2.2.2.2.2.2.2.2.2.2.2.2.2.2.2.2.2.2.2.2.2.2.2.2.2.2.2.2.2.2.2)
            refine ⟨_, rfl, ?_⟩
            replace HO_5 := Aside0.mk (Kd.R_below zq4_10 hb)
            replace HO_14 := Aside0.mk (Kd.R_below zq4_7 hb)
            replace BK443 := Aside0.mk (blk_below (g := gb443) (o := .cells #[.int .i64 t434, .string t435, .int .i64 t436, .int .i64 t437, .bool t438, .complex .f64 t439.re t439.im, .string t440, .bool t441] 41 (0, 0)) zq4_5 hb)
            replace HB := Aside0.mk (below_step zq4_2 hb)
            (try clear hb)
            (try clear hb2)
            (try clear hk)
            (try clear hi)
            refine hK.out _ _ ⟨zc_4 BK443 0, zc_4 BK443 1, zc_4 BK443 2, zc_4 BK443 3, zc_4 BK443 4, zc_4 BK443 5, zc_4 BK443 6, zc_4 BK443 7, HS8_, HS9_, HS10_, HS11_, HS12_, HS13_, HS14_, HS15_, HS16_, HS17_, HS18_, HS19_, HS20_, HS21_, HS22_, HS23_, HS24_, HS25_, HS26_, HS27_, HS28_, HS29_, HS30_, HS31_, HS32_, HS33_, HS34_⟩ (fun hHeld => ?_)
            clear hK K
            refine norm_ (a' := ?_) ?_ ?_
            rotate_left
            ·show Act.put _ (some 242) _ = _
             simp only [Act.put, List.setIfInBounds_toArray, List.set_cons_zero, List.set_cons_succ, i64_w, i32_w]
             rfl
            refine p_ 12 243 (mk_ 36 0x1fff) ?_
            refine p_ 13 244 (mk_ 36 0x3fff) ?_
            refine p_ 14 245 (mk_ 36 0x7fff) ?_
            refine p_ 15 246 (mk_ 36 0xffff) ?_
            refine p_ 16 247 (mk_ 36 0x1ffff) ?_
            refine p_ 17 248 (mk_ 36 0x3ffff) ?_
            refine t_ 18 249 (mk_ 36 0x7ffff) hHeld ?_
            refine t_ 19 250 (mk_ 36 0xfffff) hHeld ?_
            refine one_ (i := 20) (N := some 251) #[bT4, bT4, bT4, bT4, bT4, bT4, bT4, bT4, bT4, bT4, bT4, bT4, bT4, bT4, bT4, bT4, bT4, bT4, bT4, bT4, bT4, bF4, bF4, bF4, bF4, bF4, bF4, bF4, bF4, bF4, bF4, bF4, bF4, bF4, bF4, bF4] rfl rfl (one_of HT_.out (by kernel_rfl)) (by decide) (fun K hK => ?_)
            refine goes_ Try.func20 (by kernel_rfl) rfl #[.agg #[.int .i64 t434, .string t435, .int .i64 t436, .int .i64 t437, .bool t438, .complex .f64 t439.re t439.im, .string t440, .bool t441]] (by rfl) rfl rfl zq4_3 ?_
            with_reducible refine (cenotaphlaw07_From.calls t434 t435 t436 t437 t438 t439 t440 t441 t456 t457 t458 t459 t460 t461 t462 t463 t464 _ A99.out).mono ?_
            rintro e w119 ⟨rfl, hb⟩
            have HS8_ := (hb.cell (World.block_lt_of_cell? _ _ (hHeld.2.2.2.2.2.2.2.2.1))).trans (hHeld.2.2.2.2.2.2.2.2.1)
            have HS9_ := (hb.cell (World.block_lt_of_cell? _ _ (hHeld.2.2.2.2.2.2.2.2.2.1))).trans (hHeld.2.2.2.2.2.2.2.2.2.1)
            have HS10_ := (hb.cell (World.block_lt_of_cell? _ _ (hHeld.2.2.2.2.2.2.2.2.2.2.1))).trans (hHeld.2.2.2.2.2.2.2.2.2.2.1)
            have HS11_ := (hb.cell (World.block_lt_of_cell? _ _ (hHeld.2.2.2.2.2.2.2.2.2.2.2.1))).trans (hHeld.2.2.2.2.2.2.2.2.2.2.2.1)
            have HS12_ := (hb.cell (World.block_lt_of_cell? _ _ (hHeld.2.2.2.2.2.2.2.2.2.2.2.2.1))).trans (hHeld.2.2.2.2.2.2.2.2.2.2.2.2.1)
            have HS13_ := (hb.cell (World.block_lt_of_cell? _ _ (hHeld.2.2.2.2.2.2.2.2.2.2.2.2.2.1))).trans (hHeld.2.2.2.2.2.2.2.2.2.2.2.2.2.1)
            have HS14_ := (hb.cell (World.block_lt_of_cell? _ _ (hHeld.2.2.2.2.2.2.2.2.2.2.2.2.2.2.1))).trans (hHeld.2.2.2.2.2.2.2.2.2.2.2.2.2.2.1)
            have HS15_ := (hb.cell (World.block_lt_of_cell? _ _ (hHeld.2.2.2.2.2.2.2.2.2.2.2.2.2.2.2.1))).trans (hHeld.2.2.2.2.2.2.2.2.2.2.2.2.2.2.2.1)
            have HS16_ := (hb.cell (World.block_lt_of_cell? _ _ (hHeld.2.2.2.2.2.2.2.2.2.2.2.2.2.2.2.2.1))).trans (hHeld.2.2.2.2.2.2.2.2.2.2.2.2.2.2.2.2.1)
            have HS17_ := (hb.cell (World.block_lt_of_cell? _ _ (hHeld.2.2.2.2.2.2.2.2.2.2.2.2.2.2.2.2.2.1))).trans (hHeld.2.2.2.2.2.2.2.2.2.2.2.2.2.2.2.2.2.1)
            have HS18_ := (hb.cell (World.block_lt_of_cell? _ _ (hHeld.2.2.2.2.2.2.2.2.2.2.2.2.2.2.2.2.2.2.1))).trans (hHeld.2.2.2.2.2.2.2.2.2.2.2.2.2.2.2.2.2.2.1)
            have HS19_ := (hb.cell (World.block_lt_of_cell? _ _ (hHeld.2.2.2.2.2.2.2.2.2.2.2.2.2.2.2.2.2.2.2.1))).trans (hHeld.2.2.2.2.2.2.2.2.2.2.2.2.2.2.2.2.2.2.2.1)
            have HS20_ := (hb.cell (World.block_lt_of_cell? _ _ (hHeld.2.2.2.2.2.2.2.2.2.2.2.2.2.2.2.2.2.2.2.2.1))).trans (hHeld.2.2.2.2.2.2.2.2.2.2.2.2.2.2.2.2.2.2.2.2.1)
            have HS21_ := (hb.cell (World.block_lt_of_cell? _ _ (hHeld.2.2.2.2.2.2.2.2.2.2.2.2.2.2.2.2.2.2.2.2.2.1))).trans (hHeld.2.2.2.2.2.2.2.2.2.2.2.2.2.2.2.2.2.2.2.2.2.1)
            have HS22_ := (hb.cell (World.block_lt_of_cell? _ _ (hHeld.2.2.2.2.2.2.2.2.2.2.2.2.2.2.2.2.2.2.2.2.2.2.1))).trans (hHeld.2.2.2.2.2.2.2.2.2.2.2.2.2.2.2.2.2.2.2.2.2.2.1)
            have HS23_ := (hb.cell (World.block_lt_of_cell? _ _ (hHeld.2.2.2.2.2.2.2.2.2.2.2.2.2.2.2.2.2.2.2.2.2.2.2.1))).trans (hHeld.2.2.2.2.2.2.2.2.2.2.2.2.2.2.2.2.2.2.2.2.2.2.2.1)
            have HS24_ := (hb.cell (World.block_lt_of_cell? _ _ (hHeld.2.2.2.2.2.2.2.2.2.2.2.2.2.2.2.2.2.2.2.2.2.2.2.2.1))).trans (hHeld.2.2.2.2.2.2.2.2.2.2.2.2.2.2.2.2.2.2.2.2.2.2.2.2.1)
            have HS25_ := (hb.cell (World.block_lt_of_cell? _ _ (hHeld.2.2.2.2.2.2.2.2.2.2.2.2.2.2.2.2.2.2.2.2.2.2.2.2.2.1))).trans (hHeld.2.2.2.2.2.2.2.2.2.2.2.2.2.2.2.2.2.2.2.2.2.2.2.2.2.1)
            have HS26_ := (hb.cell (World.block_lt_of_cell? _ _ (hHeld.2.2.2.2.2.2.2.2.2.2.2.2.2.2.2.2.2.2.2.2.2.2.2.2.2.2.1))).trans (hHeld.2.2.2.2.2.2.2.2.2.2.2.2.2.2.2.2.2.2.2.2.2.2.2.2.2.2.1)
            have HS27_ := (hb.cell (World.block_lt_of_cell? _ _ (hHeld.2.2.2.2.2.2.2.2.2.2.2.2.2.2.2.2.2.2.2.2.2.2.2.2.2.2.2.1))).trans (hHeld.2.2.2.2.2.2.2.2.2.2.2.2.2.2.2.2.2.2.2.2.2.2.2.2.2.2.2.1)
            have HS28_ := (hb.cell (World.block_lt_of_cell? _ _ (hHeld.2.2.2.2.2.2.2.2.2.2.2.2.2.2.2.2.2.2.2.2.2.2.2.2.2.2.2.2.1))).trans (hHeld.2.2.2.2.2.2.2.2.2.2.2.2.2.2.2.2.2.2.2.2.2.2.2.2.2.2.2.2.1)
            have HS29_ := (hb.cell (World.block_lt_of_cell? _ _ (hHeld.2.2.2.2.2.2.2.2.2.2.2.2.2.2.2.2.2.2.2.2.2.2.2.2.2.2.2.2.2.1))).trans (hHeld.2.2.2.2.2.2.2.2.2.2.2.2.2.2.2.2.2.2.2.2.2.2.2.2.2.2.2.2.2.1)
            have HS30_ := (hb.cell (World.block_lt_of_cell? _ _ (hHeld.2.2.2.2.2.2.2.2.2.2.2.2.2.2.2.2.2.2.2.2.2.2.2.2.2.2.2.2.2.2.1))).trans (hHeld.2.2.2.2.2.2.2.2.2.2.2.2.2.2.2.2.2.2.2.2.2.2.2.2.2.2.2.2.2.2.1)
            have HS31_ := (hb.cell (World.block_lt_of_cell? _ _ (hHeld.2.2.2.2.2.2.2.2.2.2.2.2.2.2.2.2.2.2.2.2.2.2.2.2.2.2.2.2.2.2.2.1))).trans (hHeld.2.2.2.2.2.2.2.2.2.2.2.2.2.2.2.2.2.2.2.2.2.2.2.2.2.2.2.2.2.2.2.1)
            have HS32_ := (hb.cell (World.block_lt_of_cell? _ _ (hHeld.2.2.2.2.2.2.2.2.2.2.2.2.2.2.2.2.2.2.2.2.2.2.2.2.2.2.2.2.2.2.2.2.1))).trans (hHeld.2.2.2.2.2.2.2.2.2.2.2.2.2.2.2.2.2.2.2.2.2.2.2.2.2.2.2.2.2.2.2.2.1)
            have HS33_ := (hb.cell (World.block_lt_of_cell? _ _ (hHeld.2.2.2.2.2.2.2.2.2.2.2.2.2.2.2.2.2.2.2.2.2.2.2.2.2.2.2.2.2.2.2.2.2.1))).trans (hHeld.2.2.2.2.2.2.2.2.2.2.2.2.2.2.2.2.2.2.2.2.2.2.2.2.2.2.2.2.2.2.2.2.2.1)
            have HS34_ := (hb.cell (World.block_lt_of_cell? _ _ (hHeld.2.2.2.2.2.2.2.2.2.2.2.2.2.2.2.2.2.2.2.2.2.2.2.2.2.2.2.2.2.2.2.2.2.2))).trans (hHeld.2.2.2.2.2.2.2.2.2.2.2.2.2.2.2.2.2.2.2.2.2.2.2.2.2.2.2.2.2.2.2.2.2.2)
            refine ⟨_, rfl, ?_⟩
            replace HO_5 := Aside0.mk (Kd.R_below zq4_10 hb)
            replace HO_14 := Aside0.mk (Kd.R_below zq4_7 hb)
            replace BK443 := Aside0.mk (blk_below (g := gb443) (o := .cells #[.int .i64 t434, .string t435, .int .i64 t436, .int .i64 t437, .bool t438, .complex .f64 t439.re t439.im, .string t440, .bool t441] 41 (0, 0)) zq4_5 hb)
            replace HB := Aside0.mk (below_step zq4_2 hb)
            (try clear hb)
            (try clear hb2)
            (try clear hk)
            (try clear hi)
            refine hK.out _ _ ⟨zc_4 BK443 0, zc_4 BK443 1, zc_4 BK443 2, zc_4 BK443 3, zc_4 BK443 4, zc_4 BK443 5, zc_4 BK443 6, zc_4 BK443 7, HS8_, HS9_, HS10_, HS11_, HS12_, HS13_, HS14_, HS15_, HS16_, HS17_, HS18_, HS19_, HS20_, HS21_, HS22_, HS23_, HS24_, HS25_, HS26_, HS27_, HS28_, HS29_, HS30_, HS31_, HS32_, HS33_, HS34_⟩ (fun hHeld => ?_)
            clear hK K
            refine norm_ (a' := ?_) ?_ ?_
            rotate_left
            ·show Act.put _ (some 251) _ = _
             simp only [Act.put, List.setIfInBounds_toArray, List.set_cons_zero, List.set_cons_succ, i64_w, i32_w]
             rfl
            refine p_ 21 252 (mk_ 36 0x3fffff) ?_
            refine p_ 22 253 (mk_ 36 0x7fffff) ?_
            refine p_ 23 254 (mk_ 36 0xffffff) ?_
            refine p_ 24 255 (mk_ 36 0x1ffffff) ?_
            refine p_ 25 256 (mk_ 36 0x3ffffff) ?_
            refine p_ 26 257 (mk_ 36 0x7ffffff) ?_
            refine p_ 27 258 (mk_ 36 0xfffffff) ?_
            refine t_ 28 259 (mk_ 36 0x1fffffff) hHeld ?_
            refine p_ 29 260 (mk_ 36 0x3fffffff) ?_
            refine p_ 30 261 (mk_ 36 0x7fffffff) ?_
            refine u_ 31 262 (mk_ 36 0xffffffff) ?_
            refine u_ 32 263 (mk_ 36 0x1ffffffff) ?_
            refine u_ 33 264 (mk_ 36 0x3ffffffff) ?_
            refine p_ 34 265 (mk_ 36 0x7ffffffff) ?_
            refine p_ 35 266 (mk_ 36 0xfffffffff) ?_
            refine done_ (done_of HT_.out (by kernel_rfl)) ?_
            try go_wp2
            go_roundg k7
            case measure => have := HK1.out; have := HJ2.out; have := HJ32.out; have := HK4.out; have := HJ72.out; have := HK6.out; have := HK7.out; omega
            case rel => exact ⟨(wrap64 (x18_7 + 1)), zq4_12, H', ⟨by have := HK1.out; have := HJ2.out; have := HJ32.out; have := HK4.out; have := HJ72.out; have := HK6.out; have := HK7.out; omega⟩, ⟨by (with_reducible repeat (first | apply Kd.R_alloc | apply Kd.R_drewN | apply Kd.R_drew)); exact HO_5.out⟩, ⟨by (with_reducible repeat (first | apply Kd.R_alloc | apply Kd.R_drewN | apply Kd.R_drew)); exact Kd.R_mono HO_14.out (fun _ hk => trivial)⟩, ⟨by repeat (first | (with_reducible first | exact HB.out | apply below_alloc | apply pw_below_drewN | apply below_drew1 | refine below_set ?_ GE443.out) | exact HB.out)⟩⟩
          ·rw [if_neg c100] at H
           have c100b0 : ((((rd_T28 x5_1 x18_7).f1.f0).toList) == t457.toList && (((rd_T28 x5_1 x18_7).f1.f1) == t458 && (((rd_T28 x5_1 x18_7).f1.f2) == t459))) = false := by simpa using c100
           (try (have c100b1 : decide ((((rd_T28 x5_1 x18_7).f1.f0).toList) = t457.toList && (((rd_T28 x5_1 x18_7).f1.f1) == t458 && (((rd_T28 x5_1 x18_7).f1.f2) == t459))) = false := by simpa using c100))
           (try (have c100b2 : ((((rd_T28 x5_1 x18_7).f1.f0).toList) == t457.toList && (((rd_T28 x5_1 x18_7).f1.f1) == t458 && (((rd_T28 x5_1 x18_7).f1.f2) == t459))) = false := by simpa using c100))
           (try (have c100b3 : ¬ ((((rd_T28 x5_1 x18_7).f1.f0).toList) = t457.toList && (((rd_T28 x5_1 x18_7).f1.f1) == t458 && (((rd_T28 x5_1 x18_7).f1.f2) == t459))) := by simpa using c100))
           clear c100
           have H' := Aside0.mk H
           clear H
           have p433 : 0 ≤ (x18_7 : Int) := of_decide_eq_true zq4_11
           have q433 : x18_7 < (x5_1.length : Int) := of_decide_eq_true zq4_11
           obtain ⟨ad433, e433, hx433_0, hx433_1, hx433_2, hx433_3, hx433_4, hx433_5, hx433_6, hx433_7, hx433_8⟩ := at_T28 (Kd.R_reads' HO_5.out).2.2 x18_7 p433 q433
           cases e433
           replace p433 := eq_true p433
           replace q433 := eq_true q433
           try go_wp2_with (first | ((with_reducible refine gate_callee (f := 14) rfl ?_); refine goesL_ (some 228) rfl rfl Try.func14 (by kernel_rfl) rfl #[.slice Ao91 x14_4.length co91, .int .i64 ((rd_T28 x5_1 x18_7).f0)] rfl zq4_3 ?_; (with_reducible refine (store_Get.calls _ _ x14_4 ((rd_T28 x5_1 x18_7).f0) t434 t435 t436 t437 t438 t439 t440 t441 true _ ?side1 ?side2 A94.out).mono ?_); (case side1 => repeat (first | exact (Kd.R_reads' HO_14.out).2.2 | (with_reducible refine Kd.C_alloc ?_ _) | (with_reducible refine Kd.C_drewN ?_ _) | (with_reducible refine Kd.C_drew ?_))); (case side2 => exact (Kd.R_reads' HO_14.out).2.1); rintro e w120 ⟨rfl, hb⟩; refine ⟨_, rfl, ?_⟩; replace HO_5 := Aside0.mk (Kd.R_below zq4_10 hb); replace HO_14 := Aside0.mk (Kd.R_below zq4_7 hb); replace HB := Aside0.mk (below_step zq4_4 hb); (try clear hb); (try clear hb2); (try clear hk); (try clear hi)) | ((with_reducible refine gate_dst (N := 19) rfl ?_); (try (refine gate_guard (by rfl) ?_; dsimp only)); refine box_event ?hg (N := 19) ?hd (cs := #[.int .i64 0, .string (⟨#[]⟩ : ByteArray), .int .i64 0, .int .i64 0, .bool false, .complex .f64 0 0, .string (⟨#[]⟩ : ByteArray), .bool false]) (t := 41) ?hr ?_; (case hd => rfl); (case hg => rfl); (case hr => first | (go_simp; done) | (go_simp; rfl)); intro gb443 hg w121 hbox hb; replace HO_5 := Aside0.mk (Kd.R_below zq4_10 hb); replace HO_14 := Aside0.mk (Kd.R_below (Kd.R_elderB zq4_7 gb443 (Nat.le_of_eq hg.symm)) hb); have BK443 := Aside0.mk (hbox); have GW443 := Aside0.mk ((zq4_0 : w.heap.size ≤ gb443)); have GE443 := Aside0.mk ((zq4_0 : w.heap.size ≤ gb443)); replace HB := Aside0.mk (below_step zq4_4 hb); clear hb hbox hg; have hcz122_0 : w121.cell? ⟨gb443, 0, none⟩ = some (.int .i64 0) := zc_4 BK443 0; have hcz122_1 : w121.cell? ⟨gb443, 1, none⟩ = some (.string (⟨#[]⟩ : ByteArray)) := zc_4 BK443 1; have hcz122_2 : w121.cell? ⟨gb443, 2, none⟩ = some (.int .i64 0) := zc_4 BK443 2; have hcz122_3 : w121.cell? ⟨gb443, 3, none⟩ = some (.int .i64 0) := zc_4 BK443 3; have hcz122_4 : w121.cell? ⟨gb443, 4, none⟩ = some (.bool false) := zc_4 BK443 4; have hcz122_5 : w121.cell? ⟨gb443, 5, none⟩ = some (.complex .f64 0 0) := zc_4 BK443 5; have hcz122_6 : w121.cell? ⟨gb443, 6, none⟩ = some (.string (⟨#[]⟩ : ByteArray)) := zc_4 BK443 6; have hcz122_7 : w121.cell? ⟨gb443, 7, none⟩ = some (.bool false) := zc_4 BK443 7; have hfz122_0 := blk_frozen BK443.out 0; have hfz122_1 := blk_frozen BK443.out 1; have hfz122_2 := blk_frozen BK443.out 2; have hfz122_3 := blk_frozen BK443.out 3; have hfz122_4 := blk_frozen BK443.out 4; have hfz122_5 := blk_frozen BK443.out 5; have hfz122_6 := blk_frozen BK443.out 6; have hfz122_7 := blk_frozen BK443.out 7))
           have n0_ : Aside0 (Kd.R k28 28 ((((((((w121.setCell ⟨gb443, 0, none⟩ (.int .i64 t434)).setCell ⟨gb443, 1, none⟩ (.string t435)).setCell ⟨gb443, 2, none⟩ (.int .i64 t436)).setCell ⟨gb443, 3, none⟩ (.int .i64 t437)).setCell ⟨gb443, 4, none⟩ (.bool t438)).setCell ⟨gb443, 5, none⟩ (.complex .f64 t439.re t439.im)).setCell ⟨gb443, 6, none⟩ (.string t440)).setCell ⟨gb443, 7, none⟩ (.bool t441)) w.heap.size (fun _ => True) (.slice (some ad433) x5_1.length co37) x5_1) := ⟨by (with_reducible repeat (first | apply Kd.R_alloc | apply Kd.R_drewN | apply Kd.R_drew)); exact Kd.R_mono (Kd.R_far (p := ⟨gb443, 7, none⟩) (Kd.R_far (p := ⟨gb443, 6, none⟩) (Kd.R_far (p := ⟨gb443, 5, none⟩) (Kd.R_far (p := ⟨gb443, 4, none⟩) (Kd.R_far (p := ⟨gb443, 3, none⟩) (Kd.R_far (p := ⟨gb443, 2, none⟩) (Kd.R_far (p := ⟨gb443, 1, none⟩) (Kd.R_far (p := ⟨gb443, 0, none⟩) (Kd.R_types HO_5.out BK443.out (by decide)) (fun _ hk => hk.2) (.int .i64 t434)) (fun _ hk => hk.2) (.string t435)) (fun _ hk => hk.2) (.int .i64 t436)) (fun _ hk => hk.2) (.int .i64 t437)) (fun _ hk => hk.2) (.bool t438)) (fun _ hk => hk.2) (.complex .f64 t439.re t439.im)) (fun _ hk => hk.2) (.string t440)) (fun _ hk => hk.2) (.bool t441)) (fun _ hk => trivial)⟩
           have n1_ : Aside0 (Kd.R k41 41 ((((((((w121.setCell ⟨gb443, 0, none⟩ (.int .i64 t434)).setCell ⟨gb443, 1, none⟩ (.string t435)).setCell ⟨gb443, 2, none⟩ (.int .i64 t436)).setCell ⟨gb443, 3, none⟩ (.int .i64 t437)).setCell ⟨gb443, 4, none⟩ (.bool t438)).setCell ⟨gb443, 5, none⟩ (.complex .f64 t439.re t439.im)).setCell ⟨gb443, 6, none⟩ (.string t440)).setCell ⟨gb443, 7, none⟩ (.bool t441)) w.heap.size (fun k_ => k_ ≠ gb443) (.slice Ao91 x14_4.length co91) x14_4) := ⟨by (with_reducible repeat (first | apply Kd.R_alloc | apply Kd.R_drewN | apply Kd.R_drew)); exact Kd.R_mono (Kd.R_far (p := ⟨gb443, 7, none⟩) (Kd.R_far (p := ⟨gb443, 6, none⟩) (Kd.R_far (p := ⟨gb443, 5, none⟩) (Kd.R_far (p := ⟨gb443, 4, none⟩) (Kd.R_far (p := ⟨gb443, 3, none⟩) (Kd.R_far (p := ⟨gb443, 2, none⟩) (Kd.R_far (p := ⟨gb443, 1, none⟩) (Kd.R_far (p := ⟨gb443, 0, none⟩) (Kd.R_mono HO_14.out (fun k_ hk => (⟨hk, hk.2⟩ : _ ∧ k_ ≠ gb443))) (fun _ hk => hk.2) (.int .i64 t434)) (fun _ hk => hk.2) (.string t435)) (fun _ hk => hk.2) (.int .i64 t436)) (fun _ hk => hk.2) (.int .i64 t437)) (fun _ hk => hk.2) (.bool t438)) (fun _ hk => hk.2) (.complex .f64 t439.re t439.im)) (fun _ hk => hk.2) (.string t440)) (fun _ hk => hk.2) (.bool t441)) (fun _ hk => hk.1.2)⟩
           have n2_ : Aside0 (((((((((w121.setCell ⟨gb443, 0, none⟩ (.int .i64 t434)).setCell ⟨gb443, 1, none⟩ (.string t435)).setCell ⟨gb443, 2, none⟩ (.int .i64 t436)).setCell ⟨gb443, 3, none⟩ (.int .i64 t437)).setCell ⟨gb443, 4, none⟩ (.bool t438)).setCell ⟨gb443, 5, none⟩ (.complex .f64 t439.re t439.im)).setCell ⟨gb443, 6, none⟩ (.string t440)).setCell ⟨gb443, 7, none⟩ (.bool t441)).heap[gb443]? = some (.cells #[.int .i64 t434, .string t435, .int .i64 t436, .int .i64 t437, .bool t438, .complex .f64 t439.re t439.im, .string t440, .bool t441] 41 (0, 0))) := ⟨by (with_reducible repeat (first | refine blk_drewN ?_ _ | refine blk_drew ?_ | refine blk_alloc ?_ _)); refine blk_put (cs := #[.int .i64 t434, .string t435, .int .i64 t436, .int .i64 t437, .bool t438, .complex .f64 t439.re t439.im, .string t440, .bool false]) ?_ 7 _ rfl; (with_reducible repeat (first | refine blk_drewN ?_ _ | refine blk_drew ?_ | refine blk_alloc ?_ _)); refine blk_put (cs := #[.int .i64 t434, .string t435, .int .i64 t436, .int .i64 t437, .bool t438, .complex .f64 t439.re t439.im, .string (⟨#[]⟩ : ByteArray), .bool false]) ?_ 6 _ rfl; (with_reducible repeat (first | refine blk_drewN ?_ _ | refine blk_drew ?_ | refine blk_alloc ?_ _)); refine blk_put (cs := #[.int .i64 t434, .string t435, .int .i64 t436, .int .i64 t437, .bool t438, .complex .f64 0 0, .string (⟨#[]⟩ : ByteArray), .bool false]) ?_ 5 _ rfl; (with_reducible repeat (first | refine blk_drewN ?_ _ | refine blk_drew ?_ | refine blk_alloc ?_ _)); refine blk_put (cs := #[.int .i64 t434, .string t435, .int .i64 t436, .int .i64 t437, .bool false, .complex .f64 0 0, .string (⟨#[]⟩ : ByteArray), .bool false]) ?_ 4 _ rfl; (with_reducible repeat (first | refine blk_drewN ?_ _ | refine blk_drew ?_ | refine blk_alloc ?_ _)); refine blk_put (cs := #[.int .i64 t434, .string t435, .int .i64 t436, .int .i64 0, .bool false, .complex .f64 0 0, .string (⟨#[]⟩ : ByteArray), .bool false]) ?_ 3 _ rfl; (with_reducible repeat (first | refine blk_drewN ?_ _ | refine blk_drew ?_ | refine blk_alloc ?_ _)); refine blk_put (cs := #[.int .i64 t434, .string t435, .int .i64 0, .int .i64 0, .bool false, .complex .f64 0 0, .string (⟨#[]⟩ : ByteArray), .bool false]) ?_ 2 _ rfl; (with_reducible repeat (first | refine blk_drewN ?_ _ | refine blk_drew ?_ | refine blk_alloc ?_ _)); refine blk_put (cs := #[.int .i64 t434, .string (⟨#[]⟩ : ByteArray), .int .i64 0, .int .i64 0, .bool false, .complex .f64 0 0, .string (⟨#[]⟩ : ByteArray), .bool false]) ?_ 1 _ rfl; (with_reducible repeat (first | refine blk_drewN ?_ _ | refine blk_drew ?_ | refine blk_alloc ?_ _)); refine blk_put (cs := #[.int .i64 0, .string (⟨#[]⟩ : ByteArray), .int .i64 0, .int .i64 0, .bool false, .complex .f64 0 0, .string (⟨#[]⟩ : ByteArray), .bool false]) ?_ 0 _ rfl; (with_reducible repeat (first | refine blk_drewN ?_ _ | refine blk_drew ?_ | refine blk_alloc ?_ _)); exact BK443.out⟩
           have n3_ : Aside0 (Below w.heap.size w ((((((((w121.setCell ⟨gb443, 0, none⟩ (.int .i64 t434)).setCell ⟨gb443, 1, none⟩ (.string t435)).setCell ⟨gb443, 2, none⟩ (.int .i64 t436)).setCell ⟨gb443, 3, none⟩ (.int .i64 t437)).setCell ⟨gb443, 4, none⟩ (.bool t438)).setCell ⟨gb443, 5, none⟩ (.complex .f64 t439.re t439.im)).setCell ⟨gb443, 6, none⟩ (.string t440)).setCell ⟨gb443, 7, none⟩ (.bool t441))) := ⟨by repeat (first | (with_reducible first | exact HB.out | apply below_alloc | apply pw_below_drewN | apply below_drew1 | refine below_set ?_ GE443.out) | exact HB.out)⟩
           (try clear HO_5)
           (try clear HO_14)
           (try clear BK443)
           (try clear HB)
           generalize ((((((((w121.setCell ⟨gb443, 0, none⟩ (.int .i64 t434)).setCell ⟨gb443, 1, none⟩ (.string t435)).setCell ⟨gb443, 2, none⟩ (.int .i64 t436)).setCell ⟨gb443, 3, none⟩ (.int .i64 t437)).setCell ⟨gb443, 4, none⟩ (.bool t438)).setCell ⟨gb443, 5, none⟩ (.complex .f64 t439.re t439.im)).setCell ⟨gb443, 6, none⟩ (.string t440)).setCell ⟨gb443, 7, none⟩ (.bool t441)) = w123 at n0_ n1_ n2_ n3_ ⊢
           have HO_5 := n0_
           have HO_14 := n1_
           have BK443 := n2_
           have HB := n3_
           clear n0_ n1_ n2_ n3_
           replace HO_5 := Aside0.mk (Kd.R_drew HO_5.out)
           replace HO_14 := Aside0.mk (Kd.R_drew HO_14.out)
           replace BK443 := Aside0.mk (blk_drew BK443.out)
           replace HB := Aside0.mk (below_drew1 HB.out)
           have p444 : 0 ≤ (x18_7 : Int) := of_decide_eq_true zq4_11
           have q444 : x18_7 < (x5_1.length : Int) := of_decide_eq_true zq4_11
           obtain ⟨ad444, e444, hx444_0, hx444_1, hx444_2, hx444_3, hx444_4, hx444_5, hx444_6, hx444_7, hx444_8⟩ := at_T28 (Kd.R_reads' HO_5.out).2.2 x18_7 p444 q444
           obtain rfl : ad433 = ad444 := (by injection e444)
           replace p444 := eq_true p444
           replace q444 := eq_true q444
           have p455 : 0 ≤ (x18_7 : Int) := of_decide_eq_true zq4_11
           have q455 : x18_7 < (x5_1.length : Int) := of_decide_eq_true zq4_11
           obtain ⟨ad455, e455, hx455_0, hx455_1, hx455_2, hx455_3, hx455_4, hx455_5, hx455_6, hx455_7, hx455_8⟩ := at_T28 (Kd.R_reads' HO_5.out).2.2 x18_7 p455 q455
           obtain rfl : ad433 = ad455 := (by injection e455)
           replace p455 := eq_true p455
           replace q455 := eq_true q455
           refine start_ (n := 36) (S := fun w' => w'.cell? ⟨gb443, 0, none⟩ = some (.int .i64 t434) ∧ w'.cell? ⟨gb443, 1, none⟩ = some (.string t435) ∧ w'.cell? ⟨gb443, 2, none⟩ = some (.int .i64 t436) ∧ w'.cell? ⟨gb443, 3, none⟩ = some (.int .i64 t437) ∧ w'.cell? ⟨gb443, 4, none⟩ = some (.bool t438) ∧ w'.cell? ⟨gb443, 5, none⟩ = some (.complex .f64 t439.re t439.im) ∧ w'.cell? ⟨gb443, 6, none⟩ = some (.string t440) ∧ w'.cell? ⟨gb443, 7, none⟩ = some (.bool t441) ∧ w'.cell? (ad433.add ((x18_7).toNat * 9)) = some (.int .i64 ((rd_T28 x5_1 x18_7).f0)) ∧ w'.cell? ⟨(ad433.add ((x18_7).toNat * 9)).block, (ad433.add ((x18_7).toNat * 9)).off + 1, none⟩ = some (.string ((rd_T28 x5_1 x18_7).f1.f0)) ∧ w'.cell? ⟨(ad433.add ((x18_7).toNat * 9)).block, (ad433.add ((x18_7).toNat * 9)).off + 2, none⟩ = some (.int .i64 ((rd_T28 x5_1 x18_7).f1.f1)) ∧ w'.cell? ⟨(ad433.add ((x18_7).toNat * 9)).block, (ad433.add ((x18_7).toNat * 9)).off + 3, none⟩ = some (.int .i64 ((rd_T28 x5_1 x18_7).f1.f2)) ∧ w'.cell? ⟨(ad433.add ((x18_7).toNat * 9)).block, (ad433.add ((x18_7).toNat * 9)).off + 4, none⟩ = some (.bool ((rd_T28 x5_1 x18_7).f2)) ∧ w'.cell? ⟨(ad433.add ((x18_7).toNat * 9)).block, (ad433.add ((x18_7).toNat * 9)).off + 5, none⟩ = some (.int .i64 ((rd_T28 x5_1 x18_7).f3.f0)) ∧ w'.cell? ⟨(ad433.add ((x18_7).toNat * 9)).block, (ad433.add ((x18_7).toNat * 9)).off + 6, none⟩ = some (.int .i64 ((rd_T28 x5_1 x18_7).f3.f1)) ∧ w'.cell? ⟨(ad433.add ((x18_7).toNat * 9)).block, (ad433.add ((x18_7).toNat * 9)).off + 7, none⟩ = some (.string ((rd_T28 x5_1 x18_7).f4)) ∧ w'.cell? ⟨(ad433.add ((x18_7).toNat * 9)).block, (ad433.add ((x18_7).toNat * 9)).off + 8, none⟩ = some (.bool ((rd_T28 x5_1 x18_7).f5)) ∧ w'.cell? (ad433.add ((x18_7).toNat * 9)) = some (.int .i64 ((rd_T28 x5_1 x18_7).f0)) ∧ w'.cell? ⟨(ad433.add ((x18_7).toNat * 9)).block, (ad433.add ((x18_7).toNat * 9)).off + 1, none⟩ = some (.string ((rd_T28 x5_1 x18_7).f1.f0)) ∧ w'.cell? ⟨(ad433.add ((x18_7).toNat * 9)).block, (ad433.add ((x18_7).toNat * 9)).off + 2, none⟩ = some (.int .i64 ((rd_T28 x5_1 x18_7).f1.f1)) ∧ w'.cell? ⟨(ad433.add ((x18_7).toNat * 9)).block, (ad433.add ((x18_7).toNat * 9)).off + 3, none⟩ = some (.int .i64 ((rd_T28 x5_1 x18_7).f1.f2)) ∧ w'.cell? ⟨(ad433.add ((x18_7).toNat * 9)).block, (ad433.add ((x18_7).toNat * 9)).off + 4, none⟩ = some (.bool ((rd_T28 x5_1 x18_7).f2)) ∧ w'.cell? ⟨(ad433.add ((x18_7).toNat * 9)).block, (ad433.add ((x18_7).toNat * 9)).off + 5, none⟩ = some (.int .i64 ((rd_T28 x5_1 x18_7).f3.f0)) ∧ w'.cell? ⟨(ad433.add ((x18_7).toNat * 9)).block, (ad433.add ((x18_7).toNat * 9)).off + 6, none⟩ = some (.int .i64 ((rd_T28 x5_1 x18_7).f3.f1)) ∧ w'.cell? ⟨(ad433.add ((x18_7).toNat * 9)).block, (ad433.add ((x18_7).toNat * 9)).off + 7, none⟩ = some (.string ((rd_T28 x5_1 x18_7).f4)) ∧ w'.cell? ⟨(ad433.add ((x18_7).toNat * 9)).block, (ad433.add ((x18_7).toNat * 9)).off + 8, none⟩ = some (.bool ((rd_T28 x5_1 x18_7).f5))) (ds := []) #[bF4, bF4, bF4, bF4, bF4, bF4, bF4, bF4, bF4, bF4, bF4, bF4, bF4, bF4, bF4, bF4, bF4, bF4, bF4, bF4, bF4, bF4, bF4, bF4, bF4, bF4, bF4, bF4, bF4, bF4, bF4, bF4, bF4, bF4, bF4, bF4] (by kernel_rfl) rfl rfl ⟨zc_4 BK443 0, zc_4 BK443 1, zc_4 BK443 2, zc_4 BK443 3, zc_4 BK443 4, zc_4 BK443 5, zc_4 BK443 6, zc_4 BK443 7, hx444_0, hx444_1, hx444_2, hx444_3, hx444_4, hx444_5, hx444_6, hx444_7, hx444_8, hx455_0, hx455_1, hx455_2, hx455_3, hx455_4, hx455_5, hx455_6, hx455_7, hx455_8⟩ (fun hHeld => ?_); refine with_tabW cenotaphlaw08_StoreOrders.tab38 cenotaphlaw08_StoreOrders.bits38 (fun HT_ HW_ => ?_)
           generalize w123.drew = w124 at HO_5 HO_14 BK443 HB hx444_0 hx444_1 hx444_2 hx444_3 hx444_4 hx444_5 hx444_6 hx444_7 hx444_8 hx455_0 hx455_1 hx455_2 hx455_3 hx455_4 hx455_5 hx455_6 hx455_7 hx455_8 hHeld ⊢
           refine p_ 0 231 (mk_ 36 0x1) ?_
           refine p_ 1 232 (mk_ 36 0x3) ?_
           refine p_ 2 233 (mk_ 36 0x7) ?_
           refine p_ 3 234 (mk_ 36 0xf) ?_
           refine p_ 4 235 (mk_ 36 0x1f) ?_
           refine p_ 5 236 (mk_ 36 0x3f) ?_
           refine p_ 6 237 (mk_ 36 0x7f) ?_
           refine t_ 7 238 (mk_ 36 0xff) hHeld ?_
           refine t_ 8 239 (mk_ 36 0x1ff) hHeld ?_
           refine one_ (i := 9) (N := some 240) #[bT4, bT4, bT4, bT4, bT4, bT4, bT4, bT4, bT4, bT4, bF4, bF4, bF4, bF4, bF4, bF4, bF4, bF4, bF4, bF4, bF4, bF4, bF4, bF4, bF4, bF4, bF4, bF4, bF4, bF4, bF4, bF4, bF4, bF4, bF4, bF4] rfl rfl (one_of HT_.out (by kernel_rfl)) (by decide) (fun K hK => ?_)
           refine goes_ Try.func20 (by kernel_rfl) rfl #[.agg #[.int .i64 t434, .string t435, .int .i64 t436, .int .i64 t437, .bool t438, .complex .f64 t439.re t439.im, .string t440, .bool t441]] (by rfl) rfl rfl zq4_3 ?_
           with_reducible refine (cenotaphlaw07_From.calls t434 t435 t436 t437 t438 t439 t440 t441 t445 t446 t447 t448 t449 t450 t451 t452 t453 _ A96.out).mono ?_
           rintro e w125 ⟨rfl, hb⟩
           have HS8_ := (hb.cell (World.block_lt_of_cell? _ _ (hHeld.2.2.2.2.2.2.2.2.1))).trans (hHeld.2.2.2.2.2.2.2.2.1)
           have HS9_ := (hb.cell (World.block_lt_of_cell? _ _ (hHeld.2.2.2.2.2.2.2.2.2.1))).trans (hHeld.2.2.2.2.2.2.2.2.2.1)
           have HS10_ := (hb.cell (World.block_lt_of_cell? _ _ (hHeld.2.2.2.2.2.2.2.2.2.2.1))).trans (hHeld.2.2.2.2.2.2.2.2.2.2.1)
           have HS11_ := (hb.cell (World.block_lt_of_cell? _ _ (hHeld.2.2.2.2.2.2.2.2.2.2.2.1))).trans (hHeld.2.2.2.2.2.2.2.2.2.2.2.1)
           have HS12_ := (hb.cell (World.block_lt_of_cell? _ _ (hHeld.2.2.2.2.2.2.2.2.2.2.2.2.1))).trans (hHeld.2.2.2.2.2.2.2.2.2.2.2.2.1)
           have HS13_ := (hb.cell (World.block_lt_of_cell? _ _ (hHeld.2.2.2.2.2.2.2.2.2.2.2.2.2.1))).trans (hHeld.2.2.2.2.2.2.2.2.2.2.2.2.2.1)
           have HS14_ := (hb.cell (World.block_lt_of_cell? _ _ (hHeld.2.2.2.2.2.2.2.2.2.2.2.2.2.2.1))).trans (hHeld.2.2.2.2.2.2.2.2.2.2.2.2.2.2.1)
           have HS15_ := (hb.cell (World.block_lt_of_cell? _ _ (hHeld.2.2.2.2.2.2.2.2.2.2.2.2.2.2.2.1))).trans (hHeld.2.2.2.2.2.2.2.2.2.2.2.2.2.2.2.1)
           have HS16_ := (hb.cell (World.block_lt_of_cell? _ _ (hHeld.2.2.2.2.2.2.2.2.2.2.2.2.2.2.2.2.1))).trans (hHeld.2.2.2.2.2.2.2.2.2.2.2.2.2.2.2.2.1)
           have HS17_ := (hb.cell (World.block_lt_of_cell? _ _ (hHeld.2.2.2.2.2.2.2.2.2.2.2.2.2.2.2.2.2.1))).trans (hHeld.2.2.2.2.2.2.2.2.2.2.2.2.2.2.2.2.2.1)
           have HS18_ := (hb.cell (World.block_lt_of_cell? _ _ (hHeld.2.2.2.2.2.2.2.2.2.2.2.2.2.2.2.2.2.2.1))).trans (hHeld.2.2.2.2.2.2.2.2.2.2.2.2.2.2.2.2.2.2.1)
           have HS19_ := (hb.cell (World.block_lt_of_cell? _ _ (hHeld.2.2.2.2.2.2.2.2.2.2.2.2.2.2.2.2.2.2.2.1))).trans (hHeld.2.2.2.2.2.2.2.2.2.2.2.2.2.2.2.2.2.2.2.1)
           have HS20_ := (hb.cell (World.block_lt_of_cell? _ _ (hHeld.2.2.2.2.2.2.2.2.2.2.2.2.2.2.2.2.2.2.2.2.1))).trans (hHeld.2.2.2.2.2.2.2.2.2.2.2.2.2.2.2.2.2.2.2.2.1)
           have HS21_ := (hb.cell (World.block_lt_of_cell? _ _ (hHeld.2.2.2.2.2.2.2.2.2.2.2.2.2.2.2.2.2.2.2.2.2.1))).trans (hHeld.2.2.2.2.2.2.2.2.2.2.2.2.2.2.2.2.2.2.2.2.2.1)
           have HS22_ := (hb.cell (World.block_lt_of_cell? _ _ (hHeld.2.2.2.2.2.2.2.2.2.2.2.2.2.2.2.2.2.2.2.2.2.2.1))).trans (hHeld.2.2.2.2.2.2.2.2.2.2.2.2.2.2.2.2.2.2.2.2.2.2.1)
           have HS23_ := (hb.cell (World.block_lt_of_cell? _ _ (hHeld.2.2.2.2.2.2.2.2.2.2.2.2.2.2.2.2.2.2.2.2.2.2.2.1))).trans (hHeld.2.2.2.2.2.2.2.2.2.2.2.2.2.2.2.2.2.2.2.2.2.2.2.1)
           have HS24_ := (hb.cell (World.block_lt_of_cell? _ _ (hHeld.2.2.2.2.2.2.2.2.2.2.2.2.2.2.2.2.2.2.2.2.2.2.2.2.1))).trans (hHeld.2.2.2.2.2.2.2.2.2.2.2.2.2.2.2.2.2.2.2.2.2.2.2.2.1)
           have HS25_ := (hb.cell (World.block_lt_of_cell? _ _ (hHeld.2.2.2.2.2.2.2.2.2.2.2.2.2.2.2.2.2.2.2.2.2.2.2.2.2))).trans (hHeld.2.2.2.2.2.2.2.2.2.2.2.2.2.2.2.2.2.2.2.2.2.2.2.2.2)
           refine ⟨_, rfl, ?_⟩
           replace HO_5 := Aside0.mk (Kd.R_below zq4_10 hb)
           replace HO_14 := Aside0.mk (Kd.R_below zq4_7 hb)
           replace BK443 := Aside0.mk (blk_below (g := gb443) (o := .cells #[.int .i64 t434, .string t435, .int .i64 t436, .int .i64 t437, .bool t438, .complex .f64 t439.re t439.im, .string t440, .bool t441] 41 (0, 0)) zq4_5 hb)
           replace HB := Aside0.mk (below_step zq4_2 hb)
           (try clear hb)
           (try clear hb2)
           (try clear hk)
           (try clear hi)
           refine hK.out _ _ ⟨zc_4 BK443 0, zc_4 BK443 1, zc_4 BK443 2, zc_4 BK443 3, zc_4 BK443 4, zc_4 BK443 5, zc_4 BK443 6, zc_4 BK443 7, HS8_, HS9_, HS10_, HS11_, HS12_, HS13_, HS14_, HS15_, HS16_, HS17_, HS18_, HS19_, HS20_, HS21_, HS22_, HS23_, HS24_, HS25_⟩ (fun hHeld => ?_)
           clear hK K
           refine norm_ (a' := ?_) ?_ ?_
           rotate_left
           ·show Act.put _ (some 240) _ = _
            simp only [Act.put, List.setIfInBounds_toArray, List.set_cons_zero, List.set_cons_succ, i64_w, i32_w]
            rfl
           refine p_ 10 241 (mk_ 36 0x7ff) ?_
           refine one_ (i := 11) (N := some 242) #[bT4, bT4, bT4, bT4, bT4, bT4, bT4, bT4, bT4, bT4, bT4, bT4, bF4, bF4, bF4, bF4, bF4, bF4, bF4, bF4, bF4, bF4, bF4, bF4, bF4, bF4, bF4, bF4, bF4, bF4, bF4, bF4, bF4, bF4, bF4, bF4] rfl rfl (one_of HT_.out (by kernel_rfl)) (by decide) (fun K hK => ?_)
           refine goes_ Try.func24 (by kernel_rfl) rfl #[.agg #[.string ((rd_T28 x5_1 x18_7).f1.f0), .int .i64 ((rd_T28 x5_1 x18_7).f1.f1), .int .i64 ((rd_T28 x5_1 x18_7).f1.f2)], .agg #[.string t446, .int .i64 t447, .int .i64 t448]] (by rfl) rfl rfl zq4_3 ?_
           with_reducible refine (cenotaphref07_Newer.calls k7 ((rd_T28 x5_1 x18_7).f1.f0) ((rd_T28 x5_1 x18_7).f1.f1) ((rd_T28 x5_1 x18_7).f1.f2) t446 t447 t448 false _ A97.out).mono ?_
           rintro e w126 ⟨rfl, hb⟩
           have HS8_ := (hb.cell (World.block_lt_of_cell? _ _ (hHeld.2.2.2.2.2.2.2.2.1))).trans (hHeld.2.2.2.2.2.2.2.2.1)
           have HS9_ := (hb.cell (World.block_lt_of_cell? _ _ (hHeld.2.2.2.2.2.2.2.2.2.1))).trans (hHeld.2.2.2.2.2.2.2.2.2.1)
           have HS10_ := (hb.cell (World.block_lt_of_cell? _ _ (hHeld.2.2.2.2.2.2.2.2.2.2.1))).trans (hHeld.2.2.2.2.2.2.2.2.2.2.1)
           have HS11_ := (hb.cell (World.block_lt_of_cell? _ _ (hHeld.2.2.2.2.2.2.2.2.2.2.2.1))).trans (hHeld.2.2.2.2.2.2.2.2.2.2.2.1)
           have HS12_ := (hb.cell (World.block_lt_of_cell? _ _ (hHeld.2.2.2.2.2.2.2.2.2.2.2.2.1))).trans (hHeld.2.2.2.2.2.2.2.2.2.2.2.2.1)
           have HS13_ := (hb.cell (World.block_lt_of_cell? _ _ (hHeld.2.2.2.2.2.2.2.2.2.2.2.2.2.1))).trans (hHeld.2.2.2.2.2.2.2.2.2.2.2.2.2.1)
           have HS14_ := (hb.cell (World.block_lt_of_cell? _ _ (hHeld.2.2.2.2.2.2.2.2.2.2.2.2.2.2.1))).trans (hHeld.2.2.2.2.2.2.2.2.2.2.2.2.2.2.1)
           have HS15_ := (hb.cell (World.block_lt_of_cell? _ _ (hHeld.2.2.2.2.2.2.2.2.2.2.2.2.2.2.2.1))).trans (hHeld.2.2.2.2.2.2.2.2.2.2.2.2.2.2.2.1)
           have HS16_ := (hb.cell (World.block_lt_of_cell? _ _ (hHeld.2.2.2.2.2.2.2.2.2.2.2.2.2.2.2.2.1))).trans (hHeld.2.2.2.2.2.2.2.2.2.2.2.2.2.2.2.2.1)
           have HS17_ := (hb.cell (World.block_lt_of_cell? _ _ (hHeld.2.2.2.2.2.2.2.2.2.2.2.2.2.2.2.2.2.1))).trans (hHeld.2.2.2.2.2.2.2.2.2.2.2.2.2.2.2.2.2.1)
           have HS18_ := (hb.cell (World.block_lt_of_cell? _ _ (hHeld.2.2.2.2.2.2.2.2.2.2.2.2.2.2.2.2.2.2.1))).trans (hHeld.2.2.2.2.2.2.2.2.2.2.2.2.2.2.2.2.2.2.1)
           have HS19_ := (hb.cell (World.block_lt_of_cell? _ _ (hHeld.2.2.2.2.2.2.2.2.2.2.2.2.2.2.2.2.2.2.2.1))).trans (hHeld.2.2.2.2.2.2.2.2.2.2.2.2.2.2.2.2.2.2.2.1)
           have HS20_ := (hb.cell (World.block_lt_of_cell? _ _ (hHeld.2.2.2.2.2.2.2.2.2.2.2.2.2.2.2.2.2.2.2.2.1))).trans (hHeld.2.2.2.2.2.2.2.2.2.2.2.2.2.2.2.2.2.2.2.2.1)
           have HS21_ := (hb.cell (World.block_lt_of_cell? _ _ (hHeld.2.2.2.2.2.2.2.2.2.2.2.2.2.2.2.2.2.2.2.2.2.1))).trans (hHeld.2.2.2.2.2.2.2.2.2.2.2.2.2.2.2.2.2.2.2.2.2.1)
           have HS22_ := (hb.cell (World.block_lt_of_cell? _ _ (hHeld.2.2.2.2.2.2.2.2.2.2.2.2.2.2.2.2.2.2.2.2.2.2.1))).trans (hHeld.2.2.2.2.2.2.2.2.2.2.2.2.2.2.2.2.2.2.2.2.2.2.1)
           have HS23_ := (hb.cell (World.block_lt_of_cell? _ _ (hHeld.2.2.2.2.2.2.2.2.2.2.2.2.2.2.2.2.2.2.2.2.2.2.2.1))).trans (hHeld.2.2.2.2.2.2.2.2.2.2.2.2.2.2.2.2.2.2.2.2.2.2.2.1)
           have HS24_ := (hb.cell (World.block_lt_of_cell? _ _ (hHeld.2.2.2.2.2.2.2.2.2.2.2.2.2.2.2.2.2.2.2.2.2.2.2.2.1))).trans (hHeld.2.2.2.2.2.2.2.2.2.2.2.2.2.2.2.2.2.2.2.2.2.2.2.2.1)
           have HS25_ := (hb.cell (World.block_lt_of_cell? _ _ (hHeld.2.2.2.2.2.2.2.2.2.2.2.2.2.2.2.2.2.2.2.2.2.2.2.2.2))).trans (hHeld.2.2.2.2.2.2.2.2.2.2.2.2.2.2.2.2.2.2.2.2.2.2.2.2.2)
           refine ⟨_, rfl, ?_⟩
           replace HO_5 := Aside0.mk (Kd.R_below zq4_10 hb)
           replace HO_14 := Aside0.mk (Kd.R_below zq4_7 hb)
           replace BK443 := Aside0.mk (blk_below (g := gb443) (o := .cells #[.int .i64 t434, .string t435, .int .i64 t436, .int .i64 t437, .bool t438, .complex .f64 t439.re t439.im, .string t440, .bool t441] 41 (0, 0)) zq4_5 hb)
           replace HB := Aside0.mk (below_step zq4_2 hb)
           (try clear hb)
           (try clear hb2)
           (try clear hk)
           (try clear hi)
           refine hK.out _ _ ⟨zc_4 BK443 0, zc_4 BK443 1, zc_4 BK443 2, zc_4 BK443 3, zc_4 BK443 4, zc_4 BK443 5, zc_4 BK443 6, zc_4 BK443 7, HS8_, HS9_, HS10_, HS11_, HS12_, HS13_, HS14_, HS15_, HS16_, HS17_, HS18_, HS19_, HS20_, HS21_, HS22_, HS23_, HS24_, HS25_⟩ (fun hHeld => ?_)
           clear hK K
           refine norm_ (a' := ?_) ?_ ?_
           rotate_left
           ·show Act.put _ (some 242) _ = _
            simp only [Act.put, List.setIfInBounds_toArray, List.set_cons_zero, List.set_cons_succ, i64_w, i32_w]
            rfl
           refine p_ 12 243 (mk_ 36 0x1fff) ?_
           refine p_ 13 244 (mk_ 36 0x3fff) ?_
           refine p_ 14 245 (mk_ 36 0x7fff) ?_
           refine p_ 15 246 (mk_ 36 0xffff) ?_
           refine p_ 16 247 (mk_ 36 0x1ffff) ?_
           refine p_ 17 248 (mk_ 36 0x3ffff) ?_
           refine t_ 18 249 (mk_ 36 0x7ffff) hHeld ?_
           refine t_ 19 250 (mk_ 36 0xfffff) hHeld ?_
           refine one_ (i := 20) (N := some 251) #[bT4, bT4, bT4, bT4, bT4, bT4, bT4, bT4, bT4, bT4, bT4, bT4, bT4, bT4, bT4, bT4, bT4, bT4, bT4, bT4, bT4, bF4, bF4, bF4, bF4, bF4, bF4, bF4, bF4, bF4, bF4, bF4, bF4, bF4, bF4, bF4] rfl rfl (one_of HT_.out (by kernel_rfl)) (by decide) (fun K hK => ?_)
           refine goes_ Try.func20 (by kernel_rfl) rfl #[.agg #[.int .i64 t434, .string t435, .int .i64 t436, .int .i64 t437, .bool t438, .complex .f64 t439.re t439.im, .string t440, .bool t441]] (by rfl) rfl rfl zq4_3 ?_
           with_reducible refine (cenotaphlaw07_From.calls t434 t435 t436 t437 t438 t439 t440 t441 t456 t457 t458 t459 t460 t461 t462 t463 t464 _ A99.out).mono ?_
           rintro e w127 ⟨rfl, hb⟩
           have HS8_ := (hb.cell (World.block_lt_of_cell? _ _ (hHeld.2.2.2.2.2.2.2.2.1))).trans (hHeld.2.2.2.2.2.2.2.2.1)
           have HS9_ := (hb.cell (World.block_lt_of_cell? _ _ (hHeld.2.2.2.2.2.2.2.2.2.1))).trans (hHeld.2.2.2.2.2.2.2.2.2.1)
           have HS10_ := (hb.cell (World.block_lt_of_cell? _ _ (hHeld.2.2.2.2.2.2.2.2.2.2.1))).trans (hHeld.2.2.2.2.2.2.2.2.2.2.1)
           have HS11_ := (hb.cell (World.block_lt_of_cell? _ _ (hHeld.2.2.2.2.2.2.2.2.2.2.2.1))).trans (hHeld.2.2.2.2.2.2.2.2.2.2.2.1)
           have HS12_ := (hb.cell (World.block_lt_of_cell? _ _ (hHeld.2.2.2.2.2.2.2.2.2.2.2.2.1))).trans (hHeld.2.2.2.2.2.2.2.2.2.2.2.2.1)
           have HS13_ := (hb.cell (World.block_lt_of_cell? _ _ (hHeld.2.2.2.2.2.2.2.2.2.2.2.2.2.1))).trans (hHeld.2.2.2.2.2.2.2.2.2.2.2.2.2.1)
           have HS14_ := (hb.cell (World.block_lt_of_cell? _ _ (hHeld.2.2.2.2.2.2.2.2.2.2.2.2.2.2.1))).trans (hHeld.2.2.2.2.2.2.2.2.2.2.2.2.2.2.1)
           have HS15_ := (hb.cell (World.block_lt_of_cell? _ _ (hHeld.2.2.2.2.2.2.2.2.2.2.2.2.2.2.2.1))).trans (hHeld.2.2.2.2.2.2.2.2.2.2.2.2.2.2.2.1)
           have HS16_ := (hb.cell (World.block_lt_of_cell? _ _ (hHeld.2.2.2.2.2.2.2.2.2.2.2.2.2.2.2.2.1))).trans (hHeld.2.2.2.2.2.2.2.2.2.2.2.2.2.2.2.2.1)
           have HS17_ := (hb.cell (World.block_lt_of_cell? _ _ (hHeld.2.2.2.2.2.2.2.2.2.2.2.2.2.2.2.2.2.1))).trans (hHeld.2.2.2.2.2.2.2.2.2.2.2.2.2.2.2.2.2.1)
           have HS18_ := (hb.cell (World.block_lt_of_cell? _ _ (hHeld.2.2.2.2.2.2.2.2.2.2.2.2.2.2.2.2.2.2.1))).trans (hHeld.2.2.2.2.2.2.2.2.2.2.2.2.2.2.2.2.2.2.1)
           have HS19_ := (hb.cell (World.block_lt_of_cell? _ _ (hHeld.2.2.2.2.2.2.2.2.2.2.2.2.2.2.2.2.2.2.2.1))).trans (hHeld.2.2.2.2.2.2.2.2.2.2.2.2.2.2.2.2.2.2.2.1)
           have HS20_ := (hb.cell (World.block_lt_of_cell? _ _ (hHeld.2.2.2.2.2.2.2.2.2.2.2.2.2.2.2.2.2.2.2.2.1))).trans (hHeld.2.2.2.2.2.2.2.2.2.2.2.2.2.2.2.2.2.2.2.2.1)
           have HS21_ := (hb.cell (World.block_lt_of_cell? _ _ (hHeld.2.2.2.2.2.2.2.2.2.2.2.2.2.2.2.2.2.2.2.2.2.1))).trans (hHeld.2.2.2.2.2.2.2.2.2.2.2.2.2.2.2.2.2.2.2.2.2.1)
           have HS22_ := (hb.cell (World.block_lt_of_cell? _ _ (hHeld.2.2.2.2.2.2.2.2.2.2.2.2.2.2.2.2.2.2.2.2.2.2.1))).trans (hHeld.2.2.2.2.2.2.2.2.2.2.2.2.2.2.2.2.2.2.2.2.2.2.1)
           have HS23_ := (hb.cell (World.block_lt_of_cell? _ _ (hHeld.2.2.2.2.2.2.2.2.2.2.2.2.2.2.2.2.2.2.2.2.2.2.2.1))).trans (hHeld.2.2.2.2.2.2.2.2.2.2.2.2.2.2.2.2.2.2.2.2.2.2.2.1)
           have HS24_ := (hb.cell (World.block_lt_of_cell? _ _ (hHeld.2.2.2.2.2.2.2.2.2.2.2.2.2.2.2.2.2.2.2.2.2.2.2.2.1))).trans (hHeld.2.2.2.2.2.2.2.2.2.2.2.2.2.2.2.2.2.2.2.2.2.2.2.2.1)
           have HS25_ := (hb.cell (World.block_lt_of_cell? _ _ (hHeld.2.2.2.2.2.2.2.2.2.2.2.2.2.2.2.2.2.2.2.2.2.2.2.2.2))).trans (hHeld.2.2.2.2.2.2.2.2.2.2.2.2.2.2.2.2.2.2.2.2.2.2.2.2.2)
           refine ⟨_, rfl, ?_⟩
           replace HO_5 := Aside0.mk (Kd.R_below zq4_10 hb)
           replace HO_14 := Aside0.mk (Kd.R_below zq4_7 hb)
           replace BK443 := Aside0.mk (blk_below (g := gb443) (o := .cells #[.int .i64 t434, .string t435, .int .i64 t436, .int .i64 t437, .bool t438, .complex .f64 t439.re t439.im, .string t440, .bool t441] 41 (0, 0)) zq4_5 hb)
           replace HB := Aside0.mk (below_step zq4_2 hb)
           (try clear hb)
           (try clear hb2)
           (try clear hk)
           (try clear hi)
           refine hK.out _ _ ⟨zc_4 BK443 0, zc_4 BK443 1, zc_4 BK443 2, zc_4 BK443 3, zc_4 BK443 4, zc_4 BK443 5, zc_4 BK443 6, zc_4 BK443 7, HS8_, HS9_, HS10_, HS11_, HS12_, HS13_, HS14_, HS15_, HS16_, HS17_, HS18_, HS19_, HS20_, HS21_, HS22_, HS23_, HS24_, HS25_⟩ (fun hHeld => ?_)
           clear hK K
           refine norm_ (a' := ?_) ?_ ?_
           rotate_left
           ·show Act.put _ (some 251) _ = _
            simp only [Act.put, List.setIfInBounds_toArray, List.set_cons_zero, List.set_cons_succ, i64_w, i32_w]
            rfl
           refine p_ 21 252 (mk_ 36 0x3fffff) ?_
           refine p_ 22 253 (mk_ 36 0x7fffff) ?_
           refine p_ 23 254 (mk_ 36 0xffffff) ?_
           refine u_ 24 255 (mk_ 36 0x1ffffff) ?_
           refine u_ 25 256 (mk_ 36 0x3ffffff) ?_
           refine u_ 26 257 (mk_ 36 0x7ffffff) ?_
           refine u_ 27 258 (mk_ 36 0xfffffff) ?_
           refine u_ 28 259 (mk_ 36 0x1fffffff) ?_
           refine p_ 29 260 (mk_ 36 0x3fffffff) ?_
           refine p_ 30 261 (mk_ 36 0x7fffffff) ?_
           refine u_ 31 262 (mk_ 36 0xffffffff) ?_
           refine u_ 32 263 (mk_ 36 0x1ffffffff) ?_
           refine u_ 33 264 (mk_ 36 0x3ffffffff) ?_
           refine p_ 34 265 (mk_ 36 0x7ffffffff) ?_
           refine p_ 35 266 (mk_ 36 0xfffffffff) ?_
           refine done_ (done_of HT_.out (by kernel_rfl)) ?_
           try go_wp2
           go_roundg k7
           case measure => have := HK1.out; have := HJ2.out; have := HJ32.out; have := HK4.out; have := HJ72.out; have := HK6.out; have := HK7.out; omega
           case rel => exact ⟨(wrap64 (x18_7 + 1)), zq4_12, H', ⟨by have := HK1.out; have := HJ2.out; have := HJ32.out; have := HK4.out; have := HJ72.out; have := HK6.out; have := HK7.out; omega⟩, ⟨by (with_reducible repeat (first | apply Kd.R_alloc | apply Kd.R_drewN | apply Kd.R_drew)); exact HO_5.out⟩, ⟨by (with_reducible repeat (first | apply Kd.R_alloc | apply Kd.R_drewN | apply Kd.R_drew)); exact Kd.R_mono HO_14.out (fun _ hk => trivial)⟩, ⟨by repeat (first | (with_reducible first | exact HB.out | apply below_alloc | apply pw_below_drewN | apply below_drew1 | refine below_set ?_ GE443.out) | exact HB.out)⟩⟩
        ·replace c95 := Bool.eq_false_iff.mpr c95
         subst c95
         have H1 : (none) = some r := by rw [if_neg (show ¬ (false = true) by decide)] at H; exact H
         clear H
         have H := H1
         clear H1
         exact absurd H (by simp)
       ·rw [if_neg c93] at H
        exact absurd H (by simp)
      ·rw [if_neg c92] at H
       have c92b0 : decide (x18_7 < (x5_1.length : Int)) = false := decide_eq_false c92
       clear c92
       obtain rfl := Option.some.inj H
       go_wp2
       go_ret
       exact ⟨by first | rfl | (simp [errW_none, errW_some] <;> rfl) | (simp [*, errW_none, errW_some] <;> rfl), by repeat (first | (with_reducible first | exact HB.out | apply below_alloc | apply pw_below_drewN | apply below_drew1) | exact HB.out)⟩

set_option maxHeartbeats 100000000 in
set_option maxRecDepth 100000 in
theorem cenotaphlaw08_StoreOrders.calls (k : Nat) (A0 : Option Addr) (c0 : Nat) (l0 : List (S28)) (A1 : Option Addr) (c1 : Nat) (l1 : List Int) (r : Bool) (w : World) (hr0 : Kd.C k28 w A0 l0.length l0) (hc0 : l0.length ≤ c0) (hr1 : Kd.C (Kd.int .i64) w A1 l1.length l1) (hc1 : l1.length ≤ c1) (h : cenotaphlaw08_StoreOrders.f k l0 l1 = some r) :
  Calls Try.prog 4 #[.slice A0 l0.length c0, .slice A1 l1.length c1] w fun e w' => e = .returned (.bool r) ∧ Below w.heap.size w w' := by
 have hu28 := Try.underlying28
 have hu38 := Try.underlying38
 have hu41 := Try.underlying41
 have hu24 := Try.underlying24
 have HR0 := Aside0.mk hr0
 have HC0 := Aside0.mk hc0
 clear hr0 hc0
 have HR1 := Aside0.mk hr1
 have HC1 := Aside0.mk hc1
 clear hr1 hc1
 have HB := Aside0.mk (Below.refl w.heap.size w)
 have H : (cenotaphlaw08_StoreOrders.l0 k l0 l1 ([] : List (S28)) 0) = some r := h
 clear h
 have H' := Aside0.mk H
 clear H
 go_enter Try.func4, Try.ntmps4
 go_wp2
 go_loopg [5, 6] k (fun kq v5 v6 w' => ∃ (x5_1 : List (S28)) (x6_1 : Int), v6 = .int .i64 x6_1 ∧ Aside0 (cenotaphlaw08_StoreOrders.l0 kq l0 l1 x5_1 x6_1 = some r) ∧ Aside0 (kq ≤ k) ∧ Aside0 (Kd.R k28 28 w' w.heap.size (fun _ => True) v5 x5_1) ∧ Aside0 (Below w.heap.size w w'))
 case atStart => exact ⟨(([] : List (S28))), (0), zq4_12, H', ⟨Nat.le_refl _⟩, ⟨by first | exact Kd.R_nil _ _ _ _ _ | exact Kd.N_nil _ _ _ _ _ | exact Kd.V_nil _ _ _ _ _ | exact Kd.Q_nil _ _ _ _ _ | exact Kd.S_nil _ _ _ _ _⟩, ⟨by repeat (first | (with_reducible first | exact HB.out | apply below_alloc | apply pw_below_drewN | apply below_drew1) | exact HB.out)⟩⟩
 case round =>
  clear H'
  (try clear c1); (try clear p2)
  obtain ⟨x5_1, x6_1, rfl, HA, HK1, HO_5, HB⟩ := hrel
  cases gk with
  | zero => exact absurd HA.out (by simp [cenotaphlaw08_StoreOrders.l0])
  | succ k1 =>
   have H := HA.out
   clear HA
   simp only [cenotaphlaw08_StoreOrders.l0] at H
   have HC3 := Aside0.mk H
   clear H
   go_upto_region 3 with (fail)
   go_cut [28] (fun v28 wc => ∃ (kq : Nat) (x28_2 : Bool), v28 = .bool x28_2 ∧ Aside0 (cenotaphlaw08_StoreOrders.j1 kq l0 l1 x5_1 x6_1 x28_2 = some r) ∧ Aside0 (kq ≤ k1) ∧ Aside0 (Kd.R k28 28 wc w.heap.size (fun _ => True) u5 x5_1) ∧ Aside0 (Below w.heap.size w wc))
   case first =>
    have H := HC3.out
    clear HC3
    by_cases c4 : x6_1 < (l0.length : Int)
    ·rw [if_pos c4] at H
     have c4b0 : decide (x6_1 < (l0.length : Int)) = true := decide_eq_true c4
     clear c4
     (first | rw [c4b0] | (simp only [i64_w, i32_w]; rw [c4b0]) | skip)
     have H' := Aside0.mk H
     clear H
     go_wp2
     go_meet
     case rel => exact ⟨_, (decide (x6_1 < 14)), zq4_12, H', ⟨by have := HK1.out; first | omega | exact Nat.le_refl _⟩, ⟨by (with_reducible repeat (first | apply Kd.R_alloc | apply Kd.R_drewN | apply Kd.R_drew)); exact HO_5.out⟩, ⟨by repeat (first | (with_reducible first | exact HB.out | apply below_alloc | apply pw_below_drewN | apply below_drew1) | exact HB.out)⟩⟩
    ·rw [if_neg c4] at H
     have c4b0 : decide (x6_1 < (l0.length : Int)) = false := decide_eq_false c4
     clear c4
     (first | rw [c4b0] | (simp only [i64_w, i32_w]; rw [c4b0]) | skip)
     have H' := Aside0.mk H
     clear H
     go_wp2
     go_meet
     case rel => exact ⟨_, (false), zq4_12, H', ⟨by have := HK1.out; first | omega | exact Nat.le_refl _⟩, ⟨by (with_reducible repeat (first | apply Kd.R_alloc | apply Kd.R_drewN | apply Kd.R_drew)); exact HO_5.out⟩, ⟨by repeat (first | (with_reducible first | exact HB.out | apply below_alloc | apply pw_below_drewN | apply below_drew1) | exact HB.out)⟩⟩
   case rest =>
    clear HC3
    (try clear c1); (try clear p2); (try clear c4); (try clear c4b0); (try clear p2)
    obtain ⟨kq, x28_2, rfl, HA, HJ2, HO_5, HB⟩ := hcut
    cases kq with
    | zero => exact absurd HA.out (by simp [cenotaphlaw08_StoreOrders.j1])
    | succ kj2 =>
     have H := HA.out
     clear HA
     simp only [cenotaphlaw08_StoreOrders.j1] at H
     by_cases c5 : x28_2 = true
     ·subst c5
      have H1 : (if 0 ≤ x6_1 then (if x6_1 < (l0.length : Int) then ((cenotaphref07_Fix.f kj2 ((rd_T28 l0 x6_1).f0) ((rd_T28 l0 x6_1).f1.f0) ((rd_T28 l0 x6_1).f1.f1) ((rd_T28 l0 x6_1).f1.f2) ((rd_T28 l0 x6_1).f2) ((rd_T28 l0 x6_1).f3.f0) ((rd_T28 l0 x6_1).f3.f1) ((rd_T28 l0 x6_1).f4) ((rd_T28 l0 x6_1).f5)).bind fun bt362 => (cenotaphlaw08_StoreOrders.l1 kj2 l0 l1 x5_1 x6_1 0 bt362.1 bt362.2.1 bt362.2.2.1 bt362.2.2.2.1 bt362.2.2.2.2.1 bt362.2.2.2.2.2.1 bt362.2.2.2.2.2.2.1 bt362.2.2.2.2.2.2.2.1 bt362.2.2.2.2.2.2.2.2)) else (none)) else (none)) = some r := by rw [if_pos rfl] at H; exact H
      clear H
      have H := H1
      clear H1
      by_cases c6 : 0 ≤ x6_1
      ·rw [if_pos c6] at H
       have c6b0 : decide (0 ≤ x6_1) = true := decide_eq_true c6
       clear c6
       by_cases c7 : x6_1 < (l0.length : Int)
       ·rw [if_pos c7] at H
        have c7b0 : decide (x6_1 < (l0.length : Int)) = true := decide_eq_true c7
        clear c7
        replace H := Option.bind_eq_some_iff.mp H
        obtain ⟨⟨t362, t363, t364, t365, t366, t367, t368, t369, t370⟩, A80, H⟩ := H
        have A8 := Aside0.mk A80
        clear A80
        have H' := Aside0.mk H
        clear H
        have p361 : 0 ≤ (x6_1 : Int) := of_decide_eq_true zq4_11
        have q361 : x6_1 < (l0.length : Int) := of_decide_eq_true zq4_11
        obtain ⟨ad361, e361, hx361_0, hx361_1, hx361_2, hx361_3, hx361_4, hx361_5, hx361_6, hx361_7, hx361_8⟩ := at_T28 HR0.out x6_1 p361 q361
        cases e361
        replace hx361_0 := (HB.out.cell (World.block_lt_of_cell? w _ hx361_0)).trans hx361_0
        replace hx361_1 := (HB.out.cell (World.block_lt_of_cell? w _ hx361_1)).trans hx361_1
        replace hx361_2 := (HB.out.cell (World.block_lt_of_cell? w _ hx361_2)).trans hx361_2
        replace hx361_3 := (HB.out.cell (World.block_lt_of_cell? w _ hx361_3)).trans hx361_3
        replace hx361_4 := (HB.out.cell (World.block_lt_of_cell? w _ hx361_4)).trans hx361_4
        replace hx361_5 := (HB.out.cell (World.block_lt_of_cell? w _ hx361_5)).trans hx361_5
        replace hx361_6 := (HB.out.cell (World.block_lt_of_cell? w _ hx361_6)).trans hx361_6
        replace hx361_7 := (HB.out.cell (World.block_lt_of_cell? w _ hx361_7)).trans hx361_7
        replace hx361_8 := (HB.out.cell (World.block_lt_of_cell? w _ hx361_8)).trans hx361_8
        replace p361 := eq_true p361
        replace q361 := eq_true q361
        go_wp2_with (first | ((with_reducible refine gate_callee (f := 9) rfl ?_); refine goesL_ (some 35) rfl rfl Try.func9 (by kernel_rfl) rfl #[.agg #[.int .i64 ((rd_T28 l0 x6_1).f0), .string ((rd_T28 l0 x6_1).f1.f0), .int .i64 ((rd_T28 l0 x6_1).f1.f1), .int .i64 ((rd_T28 l0 x6_1).f1.f2), .bool ((rd_T28 l0 x6_1).f2), .int .i64 ((rd_T28 l0 x6_1).f3.f0), .int .i64 ((rd_T28 l0 x6_1).f3.f1), .string ((rd_T28 l0 x6_1).f4), .bool ((rd_T28 l0 x6_1).f5)]] rfl zq4_3 ?_; (with_reducible refine (cenotaphref07_Fix.calls kj2 ((rd_T28 l0 x6_1).f0) ((rd_T28 l0 x6_1).f1.f0) ((rd_T28 l0 x6_1).f1.f1) ((rd_T28 l0 x6_1).f1.f2) ((rd_T28 l0 x6_1).f2) ((rd_T28 l0 x6_1).f3.f0) ((rd_T28 l0 x6_1).f3.f1) ((rd_T28 l0 x6_1).f4) ((rd_T28 l0 x6_1).f5) t362 t363 t364 t365 t366 t367 t368 t369 t370 _ A8.out).mono ?_); rintro e w9 ⟨rfl, hb⟩; refine ⟨_, rfl, ?_⟩; replace HO_5 := Aside0.mk (Kd.R_below zq4_10 hb); replace HB := Aside0.mk (below_step zq4_4 hb); (try clear hb); (try clear hb2); (try clear hk); (try clear hi)) | ((with_reducible refine gate_dst (N := 7) rfl ?_); (try (refine gate_guard (by rfl) ?_; dsimp only)); refine box_event ?hg (N := 7) ?hd (cs := #[.int .i64 0, .string (⟨#[]⟩ : ByteArray), .int .i64 0, .int .i64 0, .bool false, .int .i64 0, .int .i64 0, .string (⟨#[]⟩ : ByteArray), .bool false]) (t := 28) ?hr ?_; (case hd => rfl); (case hg => rfl); (case hr => first | (go_simp; done) | (go_simp; rfl)); intro gb371 hg w10 hbox hb; replace HO_5 := Aside0.mk (Kd.R_below (Kd.R_elderB zq4_10 gb371 (Nat.le_of_eq hg.symm)) hb); have BK371 := Aside0.mk (hbox); have GW371 := Aside0.mk ((zq4_0 : w.heap.size ≤ gb371)); have GE371 := Aside0.mk ((zq4_0 : w.heap.size ≤ gb371)); replace HB := Aside0.mk (below_step zq4_4 hb); clear hb hbox hg; have hcz11_0 : w10.cell? ⟨gb371, 0, none⟩ = some (.int .i64 0) := zc_4 BK371 0; have hcz11_1 : w10.cell? ⟨gb371, 1, none⟩ = some (.string (⟨#[]⟩ : ByteArray)) := zc_4 BK371 1; have hcz11_2 : w10.cell? ⟨gb371, 2, none⟩ = some (.int .i64 0) := zc_4 BK371 2; have hcz11_3 : w10.cell? ⟨gb371, 3, none⟩ = some (.int .i64 0) := zc_4 BK371 3; have hcz11_4 : w10.cell? ⟨gb371, 4, none⟩ = some (.bool false) := zc_4 BK371 4; have hcz11_5 : w10.cell? ⟨gb371, 5, none⟩ = some (.int .i64 0) := zc_4 BK371 5; have hcz11_6 : w10.cell? ⟨gb371, 6, none⟩ = some (.int .i64 0) := zc_4 BK371 6; have hcz11_7 : w10.cell? ⟨gb371, 7, none⟩ = some (.string (⟨#[]⟩ : ByteArray)) := zc_4 BK371 7; have hcz11_8 : w10.cell? ⟨gb371, 8, none⟩ = some (.bool false) := zc_4 BK371 8; have hfz11_0 := blk_frozen BK371.out 0; have hfz11_1 := blk_frozen BK371.out 1; have hfz11_2 := blk_frozen BK371.out 2; have hfz11_3 := blk_frozen BK371.out 3; have hfz11_4 := blk_frozen BK371.out 4; have hfz11_5 := blk_frozen BK371.out 5; have hfz11_6 := blk_frozen BK371.out 6; have hfz11_7 := blk_frozen BK371.out 7; have hfz11_8 := blk_frozen BK371.out 8))
        go_loopg [8] kj2 (fun kq v8 w' => ∃ (x8_3 : Int) (x372000_3 : Int) (x372001_3 : ByteArray) (x372002_3 : Int) (x372003_3 : Int) (x372004_3 : Bool) (x372005_3 : Int) (x372006_3 : Int) (x372007_3 : ByteArray) (x372008_3 : Bool), v8 = .int .i64 x8_3 ∧ Aside0 (cenotaphlaw08_StoreOrders.l1 kq l0 l1 x5_1 x6_1 x8_3 x372000_3 x372001_3 x372002_3 x372003_3 x372004_3 x372005_3 x372006_3 x372007_3 x372008_3 = some r) ∧ Aside0 (kq ≤ kj2) ∧ Aside0 (Kd.R k28 28 w' w.heap.size (fun k_ => k_ ≠ gb371) u5 x5_1) ∧ Aside0 (w'.heap[gb371]? = some (.cells #[.int .i64 x372000_3, .string x372001_3, .int .i64 x372002_3, .int .i64 x372003_3, .bool x372004_3, .int .i64 x372005_3, .int .i64 x372006_3, .string x372007_3, .bool x372008_3] 28 (0, 0))) ∧ Aside0 (Below w.heap.size w w'))
        case atStart => exact ⟨(0), (t362), (t363), (t364), (t365), (t366), (t367), (t368), (t369), (t370), zq4_12, H', ⟨Nat.le_refl _⟩, ⟨by (with_reducible repeat (first | apply Kd.R_alloc | apply Kd.R_drewN | apply Kd.R_drew)); exact Kd.R_mono (Kd.R_far (p := ⟨gb371, 8, none⟩) (Kd.R_far (p := ⟨gb371, 7, none⟩) (Kd.R_far (p := ⟨gb371, 6, none⟩) (Kd.R_far (p := ⟨gb371, 5, none⟩) (Kd.R_far (p := ⟨gb371, 4, none⟩) (Kd.R_far (p := ⟨gb371, 3, none⟩) (Kd.R_far (p := ⟨gb371, 2, none⟩) (Kd.R_far (p := ⟨gb371, 1, none⟩) (Kd.R_far (p := ⟨gb371, 0, none⟩) (Kd.R_mono HO_5.out (fun k_ hk => (⟨hk, hk.2⟩ : _ ∧ k_ ≠ gb371))) (fun _ hk => hk.2) (.int .i64 t362)) (fun _ hk => hk.2) (.string t363)) (fun _ hk => hk.2) (.int .i64 t364)) (fun _ hk => hk.2) (.int .i64 t365)) (fun _ hk => hk.2) (.bool t366)) (fun _ hk => hk.2) (.int .i64 t367)) (fun _ hk => hk.2) (.int .i64 t368)) (fun _ hk => hk.2) (.string t369)) (fun _ hk => hk.2) (.bool t370)) (fun _ hk => hk.1.2)⟩, ⟨by (with_reducible repeat (first | refine blk_drewN ?_ _ | refine blk_drew ?_ | refine blk_alloc ?_ _)); refine blk_put (cs := #[.int .i64 t362, .string t363, .int .i64 t364, .int .i64 t365, .bool t366, .int .i64 t367, .int .i64 t368, .string t369, .bool false]) ?_ 8 _ rfl; (with_reducible repeat (first | refine blk_drewN ?_ _ | refine blk_drew ?_ | refine blk_alloc ?_ _)); refine blk_put (cs := #[.int .i64 t362, .string t363, .int .i64 t364, .int .i64 t365, .bool t366, .int .i64 t367, .int .i64 t368, .string (⟨#[]⟩ : ByteArray), .bool false]) ?_ 7 _ rfl; (with_reducible repeat (first | refine blk_drewN ?_ _ | refine blk_drew ?_ | refine blk_alloc ?_ _)); refine blk_put (cs := #[.int .i64 t362, .string t363, .int .i64 t364, .int .i64 t365, .bool t366, .int .i64 t367, .int .i64 0, .string (⟨#[]⟩ : ByteArray), .bool false]) ?_ 6 _ rfl; (with_reducible repeat (first | refine blk_drewN ?_ _ | refine blk_drew ?_ | refine blk_alloc ?_ _)); refine blk_put (cs := #[.int .i64 t362, .string t363, .int .i64 t364, .int .i64 t365, .bool t366, .int .i64 0, .int .i64 0, .string (⟨#[]⟩ : ByteArray), .bool false]) ?_ 5 _ rfl; (with_reducible repeat (first | refine blk_drewN ?_ _ | refine blk_drew ?_ | refine blk_alloc ?_ _)); refine blk_put (cs := #[.int .i64 t362, .string t363, .int .i64 t364, .int .i64 t365, .bool false, .int .i64 0, .int .i64 0, .string (⟨#[]⟩ : ByteArray), .bool false]) ?_ 4 _ rfl; (with_reducible repeat (first | refine blk_drewN ?_ _ | refine blk_drew ?_ | refine blk_alloc ?_ _)); refine blk_put (cs := #[.int .i64 t362, .string t363, .int .i64 t364, .int .i64 0, .bool false, .int .i64 0, .int .i64 0, .string (⟨#[]⟩ : ByteArray), .bool false]) ?_ 3 _ rfl; (with_reducible repeat (first | refine blk_drewN ?_ _ | refine blk_drew ?_ | refine blk_alloc ?_ _)); refine blk_put (cs := #[.int .i64 t362, .string t363, .int .i64 0, .int .i64 0, .bool false, .int .i64 0, .int .i64 0, .string (⟨#[]⟩ : ByteArray), .bool false]) ?_ 2 _ rfl; (with_reducible repeat (first | refine blk_drewN ?_ _ | refine blk_drew ?_ | refine blk_alloc ?_ _)); refine blk_put (cs := #[.int .i64 t362, .string (⟨#[]⟩ : ByteArray), .int .i64 0, .int .i64 0, .bool false, .int .i64 0, .int .i64 0, .string (⟨#[]⟩ : ByteArray), .bool false]) ?_ 1 _ rfl; (with_reducible repeat (first | refine blk_drewN ?_ _ | refine blk_drew ?_ | refine blk_alloc ?_ _)); refine blk_put (cs := #[.int .i64 0, .string (⟨#[]⟩ : ByteArray), .int .i64 0, .int .i64 0, .bool false, .int .i64 0, .int .i64 0, .string (⟨#[]⟩ : ByteArray), .bool false]) ?_ 0 _ rfl; (with_reducible repeat (first | refine blk_drewN ?_ _ | refine blk_drew ?_ | refine blk_alloc ?_ _)); exact BK371.out⟩, ⟨by repeat (first | (with_reducible first | exact HB.out | apply below_alloc | apply pw_below_drewN | apply below_drew1 | refine below_set ?_ GE371.out) | exact HB.out)⟩⟩
        case round =>
         clear H'
         (try clear c1); (try clear p2); (try clear p3); (try clear q3); (try clear hx3); (try clear c4); (try clear c4b0); (try clear c5); (try clear c6); (try clear c6b0); (try clear c7); (try clear c7b0); (try clear c9); (try clear hcz11_0); (try clear hcz11_1); (try clear hcz11_2); (try clear hcz11_3); (try clear hcz11_4); (try clear hcz11_5); (try clear hcz11_6); (try clear hcz11_7); (try clear hcz11_8); (try clear hfz11_0); (try clear hfz11_1); (try clear hfz11_2); (try clear hfz11_3); (try clear hfz11_4); (try clear hfz11_5); (try clear hfz11_6); (try clear hfz11_7); (try clear hfz11_8); (try clear hx361_0); (try clear hx361_1); (try clear hx361_2); (try clear hx361_3); (try clear hx361_4); (try clear hx361_5); (try clear hx361_6); (try clear hx361_7); (try clear hx361_8); (try clear p2); (try clear p361); (try clear q361)
         obtain ⟨x8_3, x372000_3, x372001_3, x372002_3, x372003_3, x372004_3, x372005_3, x372006_3, x372007_3, x372008_3, rfl, HA, HK3, HO_5, BK371, HB⟩ := hrel
         cases gk with
         | zero => exact absurd HA.out (by simp [cenotaphlaw08_StoreOrders.l1])
         | succ k3 =>
          have H := HA.out
          clear HA
          simp only [cenotaphlaw08_StoreOrders.l1] at H
          by_cases c12 : x8_3 < (x5_1.length : Int)
          ·rw [if_pos c12] at H
           have c12b0 : decide (x8_3 < (x5_1.length : Int)) = true := decide_eq_true c12
           clear c12
           have HC13 := Aside0.mk H
           clear H
           obtain ⟨Ao14, co14, eo14⟩ := Kd.R_slice HO_5.out
           subst eo14
           go_upto_region 9 with (fail)
           go_cut [63] (fun v63 wc => ∃ (kq : Nat) (x63_12 : Bool), v63 = .bool x63_12 ∧ Aside0 (cenotaphlaw08_StoreOrders.j3 kq l0 l1 x5_1 x6_1 x8_3 x63_12 x372000_3 x372001_3 x372002_3 x372003_3 x372004_3 x372005_3 x372006_3 x372007_3 x372008_3 = some r) ∧ Aside0 (kq ≤ k3) ∧ Aside0 (Kd.R k28 28 wc w.heap.size (fun k_ => k_ ≠ gb371) (.slice Ao14 x5_1.length co14) x5_1) ∧ Aside0 (wc.heap[gb371]? = some (.cells #[.int .i64 x372000_3, .string x372001_3, .int .i64 x372002_3, .int .i64 x372003_3, .bool x372004_3, .int .i64 x372005_3, .int .i64 x372006_3, .string x372007_3, .bool x372008_3] 28 (0, 0))) ∧ Aside0 (Below w.heap.size w wc))
           case first =>
            have H := HC13.out
            clear HC13
            by_cases c15 : 0 ≤ x8_3
            ·rw [if_pos c15] at H
             have c15b0 : decide (0 ≤ x8_3) = true := decide_eq_true c15
             clear c15
             (first | rw [c15b0] | (simp only [i64_w, i32_w]; rw [c15b0]) | skip)
             by_cases c16 : ((rd_T28 x5_1 x8_3).f1.f2) = x372003_3
             ·rw [if_pos c16] at H
              have c16b0 : (((rd_T28 x5_1 x8_3).f1.f2) == x372003_3) = true := beq_iff_eq.mpr c16
              have c16b1 : (((rd_T28 x5_1 x8_3).f1.f2) != x372003_3) = false := bne_eq_false_iff_eq.mpr c16
              clear c16
              have H' := Aside0.mk H
              clear H
              try go_wp2
              replace HO_5 := Aside0.mk (Kd.R_drew HO_5.out)
              replace BK371 := Aside0.mk (blk_drew BK371.out)
              replace HB := Aside0.mk (below_drew1 HB.out)
              have p375 : 0 ≤ (x8_3 : Int) := of_decide_eq_true zq4_11
              have q375 : x8_3 < (x5_1.length : Int) := of_decide_eq_true zq4_11
              obtain ⟨ad375, e375, hx375_0, hx375_1, hx375_2, hx375_3, hx375_4, hx375_5, hx375_6, hx375_7, hx375_8⟩ := at_T28 (Kd.R_reads' HO_5.out).2.2 x8_3 p375 q375
              cases e375
              replace p375 := eq_true p375
              replace q375 := eq_true q375
              have p376 : 0 ≤ (x8_3 : Int) := of_decide_eq_true zq4_11
              have q376 : x8_3 < (x5_1.length : Int) := of_decide_eq_true zq4_11
              obtain ⟨ad376, e376, hx376_0, hx376_1, hx376_2, hx376_3, hx376_4, hx376_5, hx376_6, hx376_7, hx376_8⟩ := at_T28 (Kd.R_reads' HO_5.out).2.2 x8_3 p376 q376
              obtain rfl : ad375 = ad376 := (by injection e376)
              replace p376 := eq_true p376
              replace q376 := eq_true q376
              refine start_ (n := 22) (S := fun w' => w'.cell? ⟨gb371, 0, none⟩ = some (.int .i64 x372000_3) ∧ w'.cell? ⟨gb371, 1, none⟩ = some (.string x372001_3) ∧ w'.cell? ⟨gb371, 2, none⟩ = some (.int .i64 x372002_3) ∧ w'.cell? ⟨gb371, 3, none⟩ = some (.int .i64 x372003_3) ∧ w'.cell? ⟨gb371, 4, none⟩ = some (.bool x372004_3) ∧ w'.cell? ⟨gb371, 5, none⟩ = some (.int .i64 x372005_3) ∧ w'.cell? ⟨gb371, 6, none⟩ = some (.int .i64 x372006_3) ∧ w'.cell? ⟨gb371, 7, none⟩ = some (.string x372007_3) ∧ w'.cell? ⟨gb371, 8, none⟩ = some (.bool x372008_3) ∧ w'.cell? (ad375.add ((x8_3).toNat * 9)) = some (.int .i64 ((rd_T28 x5_1 x8_3).f0)) ∧ w'.cell? ⟨(ad375.add ((x8_3).toNat * 9)).block, (ad375.add ((x8_3).toNat * 9)).off + 1, none⟩ = some (.string ((rd_T28 x5_1 x8_3).f1.f0)) ∧ w'.cell? ⟨(ad375.add ((x8_3).toNat * 9)).block, (ad375.add ((x8_3).toNat * 9)).off + 2, none⟩ = some (.int .i64 ((rd_T28 x5_1 x8_3).f1.f1)) ∧ w'.cell? ⟨(ad375.add ((x8_3).toNat * 9)).block, (ad375.add ((x8_3).toNat * 9)).off + 3, none⟩ = some (.int .i64 ((rd_T28 x5_1 x8_3).f1.f2)) ∧ w'.cell? ⟨(ad375.add ((x8_3).toNat * 9)).block, (ad375.add ((x8_3).toNat * 9)).off + 4, none⟩ = some (.bool ((rd_T28 x5_1 x8_3).f2)) ∧ w'.cell? ⟨(ad375.add ((x8_3).toNat * 9)).block, (ad375.add ((x8_3).toNat * 9)).off + 5, none⟩ = some (.int .i64 ((rd_T28 x5_1 x8_3).f3.f0)) ∧ w'.cell? ⟨(ad375.add ((x8_3).toNat * 9)).block, (ad375.add ((x8_3).toNat * 9)).off + 6, none⟩ = some (.int .i64 ((rd_T28 x5_1 x8_3).f3.f1)) ∧ w'.cell? ⟨(ad375.add ((x8_3).toNat * 9)).block, (ad375.add ((x8_3).toNat * 9)).off + 7, none⟩ = some (.string ((rd_T28 x5_1 x8_3).f4)) ∧ w'.cell? ⟨(ad375.add ((x8_3).toNat * 9)).block, (ad375.add ((x8_3).toNat * 9)).off + 8, none⟩ = some (.bool ((rd_T28 x5_1 x8_3).f5)) ∧ w'.cell? (ad375.add ((x8_3).toNat * 9)) = some (.int .i64 ((rd_T28 x5_1 x8_3).f0)) ∧ w'.cell? ⟨(ad375.add ((x8_3).toNat * 9)).block, (ad375.add ((x8_3).toNat * 9)).off + 1, none⟩ = some (.string ((rd_T28 x5_1 x8_3).f1.f0)) ∧ w'.cell? ⟨(ad375.add ((x8_3).toNat * 9)).block, (ad375.add ((x8_3).toNat * 9)).off + 2, none⟩ = some (.int .i64 ((rd_T28 x5_1 x8_3).f1.f1)) ∧ w'.cell? ⟨(ad375.add ((x8_3).toNat * 9)).block, (ad375.add ((x8_3).toNat * 9)).off + 3, none⟩ = some (.int .i64 ((rd_T28 x5_1 x8_3).f1.f2)) ∧ w'.cell? ⟨(ad375.add ((x8_3).toNat * 9)).block, (ad375.add ((x8_3).toNat * 9)).off + 4, none⟩ = some (.bool ((rd_T28 x5_1 x8_3).f2)) ∧ w'.cell? ⟨(ad375.add ((x8_3).toNat * 9)).block, (ad375.add ((x8_3).toNat * 9)).off + 5, none⟩ = some (.int .i64 ((rd_T28 x5_1 x8_3).f3.f0)) ∧ w'.cell? ⟨(ad375.add ((x8_3).toNat * 9)).block, (ad375.add ((x8_3).toNat * 9)).off + 6, none⟩ = some (.int .i64 ((rd_T28 x5_1 x8_3).f3.f1)) ∧ w'.cell? ⟨(ad375.add ((x8_3).toNat * 9)).block, (ad375.add ((x8_3).toNat * 9)).off + 7, none⟩ = some (.string ((rd_T28 x5_1 x8_3).f4)) ∧ w'.cell? ⟨(ad375.add ((x8_3).toNat * 9)).block, (ad375.add ((x8_3).toNat * 9)).off + 8, none⟩ = some (.bool ((rd_T28 x5_1 x8_3).f5))) (ds := []) #[bF4, bF4, bF4, bF4, bF4, bF4, bF4, bF4, bF4, bF4, bF4, bF4, bF4, bF4, bF4, bF4, bF4, bF4, bF4, bF4, bF4, bF4] (by kernel_rfl) rfl rfl ⟨zc_4 BK371 0, zc_4 BK371 1, zc_4 BK371 2, zc_4 BK371 3, zc_4 BK371 4, zc_4 BK371 5, zc_4 BK371 6, zc_4 BK371 7, zc_4 BK371 8, hx375_0, hx375_1, hx375_2, hx375_3, hx375_4, hx375_5, hx375_6, hx375_7, hx375_8, hx376_0, hx376_1, hx376_2, hx376_3, hx376_4, hx376_5, hx376_6, hx376_7, hx376_8⟩ (fun hHeld => ?_); refine with_tabW cenotaphlaw08_StoreOrders.tab9 cenotaphlaw08_StoreOrders.bits9 (fun HT_ HW_ => ?_)
              generalize wr.drew = w17 at HO_5 BK371 HB hx375_0 hx375_1 hx375_2 hx375_3 hx375_4 hx375_5 hx375_6 hx375_7 hx375_8 hx376_0 hx376_1 hx376_2 hx376_3 hx376_4 hx376_5 hx376_6 hx376_7 hx376_8 hHeld ⊢
              refine p_ 0 42 (mk_ 22 0x1) ?_
              refine p_ 1 43 (mk_ 22 0x3) ?_
              refine p_ 2 44 (mk_ 22 0x7) ?_
              refine p_ 3 45 (mk_ 22 0xf) ?_
              refine p_ 4 46 (mk_ 22 0x1f) ?_
              refine p_ 6 48 (mk_ 22 0x5f) ?_
              refine p_ 7 49 (mk_ 22 0xdf) ?_
              refine t_ 5 47 (mk_ 22 0xff) hHeld ?_
              refine t_ 8 50 (mk_ 22 0x1ff) hHeld ?_
              refine p_ 9 51 (mk_ 22 0x3ff) ?_
              refine p_ 10 52 (mk_ 22 0x7ff) ?_
              refine p_ 11 53 (mk_ 22 0xfff) ?_
              refine p_ 12 54 (mk_ 22 0x1fff) ?_
              refine p_ 13 55 (mk_ 22 0x3fff) ?_
              refine p_ 14 56 (mk_ 22 0x7fff) ?_
              refine p_ 15 57 (mk_ 22 0xffff) ?_
              refine p_ 17 59 (mk_ 22 0x2ffff) ?_
              refine p_ 18 60 (mk_ 22 0x6ffff) ?_
              refine t_ 16 58 (mk_ 22 0x7ffff) hHeld ?_
              refine t_ 19 61 (mk_ 22 0xfffff) hHeld ?_
              refine p_ 20 62 (mk_ 22 0x1fffff) ?_
              refine p_ 21 63 (mk_ 22 0x3fffff) ?_
              refine done_ (done_of HT_.out (by kernel_rfl)) ?_
              try go_wp2
              go_meet
              case rel => exact ⟨_, ((((rd_T28 x5_1 x8_3).f1.f0).toList == x372001_3.toList)), zq4_12, H', ⟨by have := HK1.out; have := HJ2.out; have := HK3.out; first | omega | exact Nat.le_refl _⟩, ⟨by (with_reducible repeat (first | apply Kd.R_alloc | apply Kd.R_drewN | apply Kd.R_drew)); exact HO_5.out⟩, ⟨by (with_reducible repeat (first | refine blk_drewN ?_ _ | refine blk_drew ?_ | refine blk_alloc ?_ _)); exact BK371.out⟩, ⟨by repeat (first | (with_reducible first | exact HB.out | apply below_alloc | apply pw_below_drewN | apply below_drew1 | refine below_set ?_ GE371.out) | exact HB.out)⟩⟩
             ·rw [if_neg c16] at H
              have c16b0 : (((rd_T28 x5_1 x8_3).f1.f2) == x372003_3) = false := beq_eq_false_iff_ne.mpr c16
              have c16b1 : (((rd_T28 x5_1 x8_3).f1.f2) != x372003_3) = true := bne_iff_ne.mpr c16
              have H' := Aside0.mk H
              clear H
              try go_wp2
              replace HO_5 := Aside0.mk (Kd.R_drew HO_5.out)
              replace BK371 := Aside0.mk (blk_drew BK371.out)
              replace HB := Aside0.mk (below_drew1 HB.out)
              have p375 : 0 ≤ (x8_3 : Int) := of_decide_eq_true zq4_11
              have q375 : x8_3 < (x5_1.length : Int) := of_decide_eq_true zq4_11
              obtain ⟨ad375, e375, hx375_0, hx375_1, hx375_2, hx375_3, hx375_4, hx375_5, hx375_6, hx375_7, hx375_8⟩ := at_T28 (Kd.R_reads' HO_5.out).2.2 x8_3 p375 q375
              cases e375
              replace p375 := eq_true p375
              replace q375 := eq_true q375
              refine start_ (n := 22) (S := fun w' => w'.cell? ⟨gb371, 0, none⟩ = some (.int .i64 x372000_3) ∧ w'.cell? ⟨gb371, 1, none⟩ = some (.string x372001_3) ∧ w'.cell? ⟨gb371, 2, none⟩ = some (.int .i64 x372002_3) ∧ w'.cell? ⟨gb371, 3, none⟩ = some (.int .i64 x372003_3) ∧ w'.cell? ⟨gb371, 4, none⟩ = some (.bool x372004_3) ∧ w'.cell? ⟨gb371, 5, none⟩ = some (.int .i64 x372005_3) ∧ w'.cell? ⟨gb371, 6, none⟩ = some (.int .i64 x372006_3) ∧ w'.cell? ⟨gb371, 7, none⟩ = some (.string x372007_3) ∧ w'.cell? ⟨gb371, 8, none⟩ = some (.bool x372008_3) ∧ w'.cell? (ad375.add ((x8_3).toNat * 9)) = some (.int .i64 ((rd_T28 x5_1 x8_3).f0)) ∧ w'.cell? ⟨(ad375.add ((x8_3).toNat * 9)).block, (ad375.add ((x8_3).toNat * 9)).off + 1, none⟩ = some (.string ((rd_T28 x5_1 x8_3).f1.f0)) ∧ w'.cell? ⟨(ad375.add ((x8_3).toNat * 9)).block, (ad375.add ((x8_3).toNat * 9)).off + 2, none⟩ = some (.int .i64 ((rd_T28 x5_1 x8_3).f1.f1)) ∧ w'.cell? ⟨(ad375.add ((x8_3).toNat * 9)).block, (ad375.add ((x8_3).toNat * 9)).off + 3, none⟩ = some (.int .i64 ((rd_T28 x5_1 x8_3).f1.f2)) ∧ w'.cell? ⟨(ad375.add ((x8_3).toNat * 9)).block, (ad375.add ((x8_3).toNat * 9)).off + 4, none⟩ = some (.bool ((rd_T28 x5_1 x8_3).f2)) ∧ w'.cell? ⟨(ad375.add ((x8_3).toNat * 9)).block, (ad375.add ((x8_3).toNat * 9)).off + 5, none⟩ = some (.int .i64 ((rd_T28 x5_1 x8_3).f3.f0)) ∧ w'.cell? ⟨(ad375.add ((x8_3).toNat * 9)).block, (ad375.add ((x8_3).toNat * 9)).off + 6, none⟩ = some (.int .i64 ((rd_T28 x5_1 x8_3).f3.f1)) ∧ w'.cell? ⟨(ad375.add ((x8_3).toNat * 9)).block, (ad375.add ((x8_3).toNat * 9)).off + 7, none⟩ = some (.string ((rd_T28 x5_1 x8_3).f4)) ∧ w'.cell? ⟨(ad375.add ((x8_3).toNat * 9)).block, (ad375.add ((x8_3).toNat * 9)).off + 8, none⟩ = some (.bool ((rd_T28 x5_1 x8_3).f5))) (ds := []) #[bF4, bF4, bF4, bF4, bF4, bF4, bF4, bF4, bF4, bF4, bF4, bF4, bF4, bF4, bF4, bF4, bF4, bF4, bF4, bF4, bF4, bF4] (by kernel_rfl) rfl rfl ⟨zc_4 BK371 0, zc_4 BK371 1, zc_4 BK371 2, zc_4 BK371 3, zc_4 BK371 4, zc_4 BK371 5, zc_4 BK371 6, zc_4 BK371 7, zc_4 BK371 8, hx375_0, hx375_1, hx375_2, hx375_3, hx375_4, hx375_5, hx375_6, hx375_7, hx375_8⟩ (fun hHeld => ?_); refine with_tabW cenotaphlaw08_StoreOrders.tab9 cenotaphlaw08_StoreOrders.bits9 (fun HT_ HW_ => ?_)
              generalize wr.drew = w18 at HO_5 BK371 HB hx375_0 hx375_1 hx375_2 hx375_3 hx375_4 hx375_5 hx375_6 hx375_7 hx375_8 hHeld ⊢
              refine p_ 0 42 (mk_ 22 0x1) ?_
              refine p_ 1 43 (mk_ 22 0x3) ?_
              refine p_ 2 44 (mk_ 22 0x7) ?_
              refine p_ 3 45 (mk_ 22 0xf) ?_
              refine p_ 4 46 (mk_ 22 0x1f) ?_
              refine p_ 6 48 (mk_ 22 0x5f) ?_
              refine p_ 7 49 (mk_ 22 0xdf) ?_
              refine t_ 5 47 (mk_ 22 0xff) hHeld ?_
              refine t_ 8 50 (mk_ 22 0x1ff) hHeld ?_
              refine p_ 9 51 (mk_ 22 0x3ff) ?_
              refine p_ 10 52 (mk_ 22 0x7ff) ?_
              refine u_ 11 53 (mk_ 22 0xfff) ?_
              refine u_ 12 54 (mk_ 22 0x1fff) ?_
              refine u_ 13 55 (mk_ 22 0x3fff) ?_
              refine u_ 14 56 (mk_ 22 0x7fff) ?_
              refine u_ 15 57 (mk_ 22 0xffff) ?_
              refine u_ 16 58 (mk_ 22 0x1ffff) ?_
              refine u_ 17 59 (mk_ 22 0x3ffff) ?_
              refine u_ 18 60 (mk_ 22 0x7ffff) ?_
              refine u_ 19 61 (mk_ 22 0xfffff) ?_
              refine u_ 20 62 (mk_ 22 0x1fffff) ?_
              refine p_ 21 63 (mk_ 22 0x3fffff) ?_
              refine done_ (done_of HT_.out (by kernel_rfl)) ?_
              try go_wp2
              go_meet
              case rel => exact ⟨_, (false), zq4_12, H', ⟨by have := HK1.out; have := HJ2.out; have := HK3.out; first | omega | exact Nat.le_refl _⟩, ⟨by (with_reducible repeat (first | apply Kd.R_alloc | apply Kd.R_drewN | apply Kd.R_drew)); exact HO_5.out⟩, ⟨by (with_reducible repeat (first | refine blk_drewN ?_ _ | refine blk_drew ?_ | refine blk_alloc ?_ _)); exact BK371.out⟩, ⟨by repeat (first | (with_reducible first | exact HB.out | apply below_alloc | apply pw_below_drewN | apply below_drew1 | refine below_set ?_ GE371.out) | exact HB.out)⟩⟩
            ·rw [if_neg c15] at H
             exact absurd H (by simp)
           case rest =>
            clear HC13
            (try clear c1); (try clear p2); (try clear p3); (try clear q3); (try clear hx3); (try clear c4); (try clear c4b0); (try clear c5); (try clear c6); (try clear c6b0); (try clear c7); (try clear c7b0); (try clear c9); (try clear c12); (try clear c12b0); (try clear c15); (try clear c15b0); (try clear c16); (try clear c16b0); (try clear c16b1); (try clear hcz11_0); (try clear hcz11_1); (try clear hcz11_2); (try clear hcz11_3); (try clear hcz11_4); (try clear hcz11_5); (try clear hcz11_6); (try clear hcz11_7); (try clear hcz11_8); (try clear hfz11_0); (try clear hfz11_1); (try clear hfz11_2); (try clear hfz11_3); (try clear hfz11_4); (try clear hfz11_5); (try clear hfz11_6); (try clear hfz11_7); (try clear hfz11_8); (try clear hx361_0); (try clear hx361_1); (try clear hx361_2); (try clear hx361_3); (try clear hx361_4); (try clear hx361_5); (try clear hx361_6); (try clear hx361_7); (try clear hx361_8); (try clear hx375_0); (try clear hx375_1); (try clear hx375_2); (try clear hx375_3); (try clear hx375_4); (try clear hx375_5); (try clear hx375_6); (try clear hx375_7); (try clear hx375_8); (try clear hx376_0); (try clear hx376_1); (try clear hx376_2); (try clear hx376_3); (try clear hx376_4); (try clear hx376_5); (try clear hx376_6); (try clear hx376_7); (try clear hx376_8); (try clear p2); (try clear p3); (try clear p361); (try clear p375); (try clear p376); (try clear q3); (try clear q361); (try clear q375); (try clear q376)
            obtain ⟨kq, x63_12, rfl, HA, HJ12, HO_5, BK371, HB⟩ := hcut
            cases kq with
            | zero => exact absurd HA.out (by simp [cenotaphlaw08_StoreOrders.j3])
            | succ kj12 =>
             have H := HA.out
             clear HA
             simp only [cenotaphlaw08_StoreOrders.j3] at H
             by_cases c19 : x63_12 = true
             ·subst c19
              have H1 : (if 0 ≤ x8_3 then (if x8_3 < (x5_1.length : Int) then (if x372008_3 = true then (cenotaphlaw08_StoreOrders.l1 kj12 l0 l1 x5_1 x6_1 (wrap64 (x8_3 + 1)) ((rd_T28 x5_1 x8_3).f0) ((rd_T28 x5_1 x8_3).f1.f0) ((rd_T28 x5_1 x8_3).f1.f1) ((rd_T28 x5_1 x8_3).f1.f2) ((rd_T28 x5_1 x8_3).f2) ((rd_T28 x5_1 x8_3).f3.f0) ((rd_T28 x5_1 x8_3).f3.f1) ((rd_T28 x5_1 x8_3).f4) ((rd_T28 x5_1 x8_3).f5)) else ((cenotaphref07_Stub.f ((rd_T28 x5_1 x8_3).f0) ((rd_T28 x5_1 x8_3).f1.f0) ((rd_T28 x5_1 x8_3).f1.f1) ((rd_T28 x5_1 x8_3).f1.f2) ((rd_T28 x5_1 x8_3).f2) ((rd_T28 x5_1 x8_3).f3.f0) ((rd_T28 x5_1 x8_3).f3.f1) ((rd_T28 x5_1 x8_3).f4) ((rd_T28 x5_1 x8_3).f5)).bind fun bt378 => (cenotaphlaw08_StoreOrders.l1 kj12 l0 l1 x5_1 x6_1 (wrap64 (x8_3 + 1)) bt378.1 bt378.2.1 bt378.2.2.1 bt378.2.2.2.1 bt378.2.2.2.2.1 bt378.2.2.2.2.2.1 bt378.2.2.2.2.2.2.1 bt378.2.2.2.2.2.2.2.1 bt378.2.2.2.2.2.2.2.2))) else (none)) else (none)) = some r := by rw [if_pos rfl] at H; exact H
              clear H
              have H := H1
              clear H1
              by_cases c20 : 0 ≤ x8_3
              ·rw [if_pos c20] at H
               have c20b0 : decide (0 ≤ x8_3) = true := decide_eq_true c20
               clear c20
               by_cases c21 : x8_3 < (x5_1.length : Int)
               ·rw [if_pos c21] at H
                have c21b0 : decide (x8_3 < (x5_1.length : Int)) = true := decide_eq_true c21
                clear c21
                by_cases c22 : x372008_3 = true
                ·subst c22
                 have H1 : (cenotaphlaw08_StoreOrders.l1 kj12 l0 l1 x5_1 x6_1 (wrap64 (x8_3 + 1)) ((rd_T28 x5_1 x8_3).f0) ((rd_T28 x5_1 x8_3).f1.f0) ((rd_T28 x5_1 x8_3).f1.f1) ((rd_T28 x5_1 x8_3).f1.f2) ((rd_T28 x5_1 x8_3).f2) ((rd_T28 x5_1 x8_3).f3.f0) ((rd_T28 x5_1 x8_3).f3.f1) ((rd_T28 x5_1 x8_3).f4) ((rd_T28 x5_1 x8_3).f5)) = some r := by rw [if_pos rfl] at H; exact H
                 clear H
                 have H := H1
                 clear H1
                 have H' := Aside0.mk H
                 clear H
                 have hcz23_0 : wc.cell? ⟨gb371, 0, none⟩ = some (.int .i64 x372000_3) := zc_4 BK371 0
                 have hcz23_1 : wc.cell? ⟨gb371, 1, none⟩ = some (.string x372001_3) := zc_4 BK371 1
                 have hcz23_2 : wc.cell? ⟨gb371, 2, none⟩ = some (.int .i64 x372002_3) := zc_4 BK371 2
                 have hcz23_3 : wc.cell? ⟨gb371, 3, none⟩ = some (.int .i64 x372003_3) := zc_4 BK371 3
                 have hcz23_4 : wc.cell? ⟨gb371, 4, none⟩ = some (.bool x372004_3) := zc_4 BK371 4
                 have hcz23_5 : wc.cell? ⟨gb371, 5, none⟩ = some (.int .i64 x372005_3) := zc_4 BK371 5
                 have hcz23_6 : wc.cell? ⟨gb371, 6, none⟩ = some (.int .i64 x372006_3) := zc_4 BK371 6
                 have hcz23_7 : wc.cell? ⟨gb371, 7, none⟩ = some (.string x372007_3) := zc_4 BK371 7
                 have hcz23_8 : wc.cell? ⟨gb371, 8, none⟩ = some (.bool true) := zc_4 BK371 8
                 have hfz23_0 := blk_frozen BK371.out 0
                 have hfz23_1 := blk_frozen BK371.out 1
                 have hfz23_2 := blk_frozen BK371.out 2
                 have hfz23_3 := blk_frozen BK371.out 3
                 have hfz23_4 := blk_frozen BK371.out 4
                 have hfz23_5 := blk_frozen BK371.out 5
                 have hfz23_6 := blk_frozen BK371.out 6
                 have hfz23_7 := blk_frozen BK371.out 7
                 have hfz23_8 := blk_frozen BK371.out 8
                 have p377 : 0 ≤ (x8_3 : Int) := of_decide_eq_true zq4_11
                 have q377 : x8_3 < (x5_1.length : Int) := of_decide_eq_true zq4_11
                 obtain ⟨ad377, e377, hx377_0, hx377_1, hx377_2, hx377_3, hx377_4, hx377_5, hx377_6, hx377_7, hx377_8⟩ := at_T28 (Kd.R_reads' HO_5.out).2.2 x8_3 p377 q377
                 cases e377
                 replace p377 := eq_true p377
                 replace q377 := eq_true q377
                 go_wp2
                 go_roundg kj12
                 case measure => have := HK1.out; have := HJ2.out; have := HK3.out; have := HJ12.out; omega
                 case rel => exact ⟨(wrap64 (x8_3 + 1)), ((rd_T28 x5_1 x8_3).f0), ((rd_T28 x5_1 x8_3).f1.f0), ((rd_T28 x5_1 x8_3).f1.f1), ((rd_T28 x5_1 x8_3).f1.f2), ((rd_T28 x5_1 x8_3).f2), ((rd_T28 x5_1 x8_3).f3.f0), ((rd_T28 x5_1 x8_3).f3.f1), ((rd_T28 x5_1 x8_3).f4), ((rd_T28 x5_1 x8_3).f5), zq4_12, H', ⟨by have := HK1.out; have := HJ2.out; have := HK3.out; have := HJ12.out; omega⟩, ⟨by (with_reducible repeat (first | apply Kd.R_alloc | apply Kd.R_drewN | apply Kd.R_drew)); exact Kd.R_mono (Kd.R_far (p := ⟨gb371, 8, none⟩) (Kd.R_far (p := ⟨gb371, 7, none⟩) (Kd.R_far (p := ⟨gb371, 6, none⟩) (Kd.R_far (p := ⟨gb371, 5, none⟩) (Kd.R_far (p := ⟨gb371, 4, none⟩) (Kd.R_far (p := ⟨gb371, 3, none⟩) (Kd.R_far (p := ⟨gb371, 2, none⟩) (Kd.R_far (p := ⟨gb371, 1, none⟩) (Kd.R_far (p := ⟨gb371, 0, none⟩) (Kd.R_mono HO_5.out (fun k_ hk => (⟨hk, hk⟩ : _ ∧ k_ ≠ gb371))) (fun _ hk => hk.2) (.int .i64 ((rd_T28 x5_1 x8_3).f0))) (fun _ hk => hk.2) (.string ((rd_T28 x5_1 x8_3).f1.f0))) (fun _ hk => hk.2) (.int .i64 ((rd_T28 x5_1 x8_3).f1.f1))) (fun _ hk => hk.2) (.int .i64 ((rd_T28 x5_1 x8_3).f1.f2))) (fun _ hk => hk.2) (.bool ((rd_T28 x5_1 x8_3).f2))) (fun _ hk => hk.2) (.int .i64 ((rd_T28 x5_1 x8_3).f3.f0))) (fun _ hk => hk.2) (.int .i64 ((rd_T28 x5_1 x8_3).f3.f1))) (fun _ hk => hk.2) (.string ((rd_T28 x5_1 x8_3).f4))) (fun _ hk => hk.2) (.bool ((rd_T28 x5_1 x8_3).f5))) (fun _ hk => hk.1)⟩, ⟨by (with_reducible repeat (first | refine blk_drewN ?_ _ | refine blk_drew ?_ | refine blk_alloc ?_ _)); refine blk_put (cs := #[.int .i64 ((rd_T28 x5_1 x8_3).f0), .string ((rd_T28 x5_1 x8_3).f1.f0), .int .i64 ((rd_T28 x5_1 x8_3).f1.f1), .int .i64 ((rd_T28 x5_1 x8_3).f1.f2), .bool ((rd_T28 x5_1 x8_3).f2), .int .i64 ((rd_T28 x5_1 x8_3).f3.f0), .int .i64 ((rd_T28 x5_1 x8_3).f3.f1), .string ((rd_T28 x5_1 x8_3).f4), .bool true]) ?_ 8 _ rfl; (with_reducible repeat (first | refine blk_drewN ?_ _ | refine blk_drew ?_ | refine blk_alloc ?_ _)); refine blk_put (cs := #[.int .i64 ((rd_T28 x5_1 x8_3).f0), .string ((rd_T28 x5_1 x8_3).f1.f0), .int .i64 ((rd_T28 x5_1 x8_3).f1.f1), .int .i64 ((rd_T28 x5_1 x8_3).f1.f2), .bool ((rd_T28 x5_1 x8_3).f2), .int .i64 ((rd_T28 x5_1 x8_3).f3.f0), .int .i64 ((rd_T28 x5_1 x8_3).f3.f1), .string x372007_3, .bool true]) ?_ 7 _ rfl; (with_reducible repeat (first | refine blk_drewN ?_ _ | refine blk_drew ?_ | refine blk_alloc ?_ _)); refine blk_put (cs := #[.int .i64 ((rd_T28 x5_1 x8_3).f0), .string ((rd_T28 x5_1 x8_3).f1.f0), .int .i64 ((rd_T28 x5_1 x8_3).f1.f1), .int .i64 ((rd_T28 x5_1 x8_3).f1.f2), .bool ((rd_T28 x5_1 x8_3).f2), .int .i64 ((rd_T28 x5_1 x8_3).f3.f0), .int .i64 x372006_3, .string x372007_3, .bool true]) ?_ 6 _ rfl; (with_reducible repeat (first | refine blk_drewN ?_ _ | refine blk_drew ?_ | refine blk_alloc ?_ _)); refine blk_put (cs := #[.int .i64 ((rd_T28 x5_1 x8_3).f0), .string ((rd_T28 x5_1 x8_3).f1.f0), .int .i64 ((rd_T28 x5_1 x8_3).f1.f1), .int .i64 ((rd_T28 x5_1 x8_3).f1.f2), .bool ((rd_T28 x5_1 x8_3).f2), .int .i64 x372005_3, .int .i64 x372006_3, .string x372007_3, .bool true]) ?_ 5 _ rfl; (with_reducible repeat (first | refine blk_drewN ?_ _ | refine blk_drew ?_ | refine blk_alloc ?_ _)); refine blk_put (cs := #[.int .i64 ((rd_T28 x5_1 x8_3).f0), .string ((rd_T28 x5_1 x8_3).f1.f0), .int .i64 ((rd_T28 x5_1 x8_3).f1.f1), .int .i64 ((rd_T28 x5_1 x8_3).f1.f2), .bool x372004_3, .int .i64 x372005_3, .int .i64 x372006_3, .string x372007_3, .bool true]) ?_ 4 _ rfl; (with_reducible repeat (first | refine blk_drewN ?_ _ | refine blk_drew ?_ | refine blk_alloc ?_ _)); refine blk_put (cs := #[.int .i64 ((rd_T28 x5_1 x8_3).f0), .string ((rd_T28 x5_1 x8_3).f1.f0), .int .i64 ((rd_T28 x5_1 x8_3).f1.f1), .int .i64 x372003_3, .bool x372004_3, .int .i64 x372005_3, .int .i64 x372006_3, .string x372007_3, .bool true]) ?_ 3 _ rfl; (with_reducible repeat (first | refine blk_drewN ?_ _ | refine blk_drew ?_ | refine blk_alloc ?_ _)); refine blk_put (cs := #[.int .i64 ((rd_T28 x5_1 x8_3).f0), .string ((rd_T28 x5_1 x8_3).f1.f0), .int .i64 x372002_3, .int .i64 x372003_3, .bool x372004_3, .int .i64 x372005_3, .int .i64 x372006_3, .string x372007_3, .bool true]) ?_ 2 _ rfl; (with_reducible repeat (first | refine blk_drewN ?_ _ | refine blk_drew ?_ | refine blk_alloc ?_ _)); refine blk_put (cs := #[.int .i64 ((rd_T28 x5_1 x8_3).f0), .string x372001_3, .int .i64 x372002_3, .int .i64 x372003_3, .bool x372004_3, .int .i64 x372005_3, .int .i64 x372006_3, .string x372007_3, .bool true]) ?_ 1 _ rfl; (with_reducible repeat (first | refine blk_drewN ?_ _ | refine blk_drew ?_ | refine blk_alloc ?_ _)); refine blk_put (cs := #[.int .i64 x372000_3, .string x372001_3, .int .i64 x372002_3, .int .i64 x372003_3, .bool x372004_3, .int .i64 x372005_3, .int .i64 x372006_3, .string x372007_3, .bool true]) ?_ 0 _ rfl; (with_reducible repeat (first | refine blk_drewN ?_ _ | refine blk_drew ?_ | refine blk_alloc ?_ _)); exact BK371.out⟩, ⟨by repeat (first | (with_reducible first | exact HB.out | apply below_alloc | apply pw_below_drewN | apply below_drew1 | refine below_set ?_ GE371.out) | exact HB.out)⟩⟩
                ·replace c22 := Bool.eq_false_iff.mpr c22
                 subst c22
                 have H1 : ((cenotaphref07_Stub.f ((rd_T28 x5_1 x8_3).f0) ((rd_T28 x5_1 x8_3).f1.f0) ((rd_T28 x5_1 x8_3).f1.f1) ((rd_T28 x5_1 x8_3).f1.f2) ((rd_T28 x5_1 x8_3).f2) ((rd_T28 x5_1 x8_3).f3.f0) ((rd_T28 x5_1 x8_3).f3.f1) ((rd_T28 x5_1 x8_3).f4) ((rd_T28 x5_1 x8_3).f5)).bind fun bt378 => (cenotaphlaw08_StoreOrders.l1 kj12 l0 l1 x5_1 x6_1 (wrap64 (x8_3 + 1)) bt378.1 bt378.2.1 bt378.2.2.1 bt378.2.2.2.1 bt378.2.2.2.2.1 bt378.2.2.2.2.2.1 bt378.2.2.2.2.2.2.1 bt378.2.2.2.2.2.2.2.1 bt378.2.2.2.2.2.2.2.2)) = some r := by rw [if_neg (show ¬ (false = true) by decide)] at H; exact H
                 clear H
                 have H := H1
                 clear H1
                 replace H := Option.bind_eq_some_iff.mp H
                 obtain ⟨⟨t378, t379, t380, t381, t382, t383, t384, t385, t386⟩, A240, H⟩ := H
                 have A24 := Aside0.mk A240
                 clear A240
                 have H' := Aside0.mk H
                 clear H
                 have hcz25_0 : wc.cell? ⟨gb371, 0, none⟩ = some (.int .i64 x372000_3) := zc_4 BK371 0
                 have hcz25_1 : wc.cell? ⟨gb371, 1, none⟩ = some (.string x372001_3) := zc_4 BK371 1
                 have hcz25_2 : wc.cell? ⟨gb371, 2, none⟩ = some (.int .i64 x372002_3) := zc_4 BK371 2
                 have hcz25_3 : wc.cell? ⟨gb371, 3, none⟩ = some (.int .i64 x372003_3) := zc_4 BK371 3
                 have hcz25_4 : wc.cell? ⟨gb371, 4, none⟩ = some (.bool x372004_3) := zc_4 BK371 4
                 have hcz25_5 : wc.cell? ⟨gb371, 5, none⟩ = some (.int .i64 x372005_3) := zc_4 BK371 5
                 have hcz25_6 : wc.cell? ⟨gb371, 6, none⟩ = some (.int .i64 x372006_3) := zc_4 BK371 6
                 have hcz25_7 : wc.cell? ⟨gb371, 7, none⟩ = some (.string x372007_3) := zc_4 BK371 7
                 have hcz25_8 : wc.cell? ⟨gb371, 8, none⟩ = some (.bool false) := zc_4 BK371 8
                 have hfz25_0 := blk_frozen BK371.out 0
                 have hfz25_1 := blk_frozen BK371.out 1
                 have hfz25_2 := blk_frozen BK371.out 2
                 have hfz25_3 := blk_frozen BK371.out 3
                 have hfz25_4 := blk_frozen BK371.out 4
                 have hfz25_5 := blk_frozen BK371.out 5
                 have hfz25_6 := blk_frozen BK371.out 6
                 have hfz25_7 := blk_frozen BK371.out 7
                 have hfz25_8 := blk_frozen BK371.out 8
                 have p377 : 0 ≤ (x8_3 : Int) := of_decide_eq_true zq4_11
                 have q377 : x8_3 < (x5_1.length : Int) := of_decide_eq_true zq4_11
                 obtain ⟨ad377, e377, hx377_0, hx377_1, hx377_2, hx377_3, hx377_4, hx377_5, hx377_6, hx377_7, hx377_8⟩ := at_T28 (Kd.R_reads' HO_5.out).2.2 x8_3 p377 q377
                 cases e377
                 replace p377 := eq_true p377
                 replace q377 := eq_true q377
                 go_wp2_with (first | ((with_reducible refine gate_callee (f := 23) rfl ?_); refine goesL_ (some 73) rfl rfl Try.func23 (by kernel_rfl) rfl #[.agg #[.int .i64 ((rd_T28 x5_1 x8_3).f0), .string ((rd_T28 x5_1 x8_3).f1.f0), .int .i64 ((rd_T28 x5_1 x8_3).f1.f1), .int .i64 ((rd_T28 x5_1 x8_3).f1.f2), .bool ((rd_T28 x5_1 x8_3).f2), .int .i64 ((rd_T28 x5_1 x8_3).f3.f0), .int .i64 ((rd_T28 x5_1 x8_3).f3.f1), .string ((rd_T28 x5_1 x8_3).f4), .bool ((rd_T28 x5_1 x8_3).f5)]] rfl zq4_3 ?_; (with_reducible refine (cenotaphref07_Stub.calls ((rd_T28 x5_1 x8_3).f0) ((rd_T28 x5_1 x8_3).f1.f0) ((rd_T28 x5_1 x8_3).f1.f1) ((rd_T28 x5_1 x8_3).f1.f2) ((rd_T28 x5_1 x8_3).f2) ((rd_T28 x5_1 x8_3).f3.f0) ((rd_T28 x5_1 x8_3).f3.f1) ((rd_T28 x5_1 x8_3).f4) ((rd_T28 x5_1 x8_3).f5) t378 t379 t380 t381 t382 t383 t384 t385 t386 _ A24.out).mono ?_); rintro e w26 ⟨rfl, hb⟩; refine ⟨_, rfl, ?_⟩; replace HO_5 := Aside0.mk (Kd.R_below (by (with_reducible repeat (first | apply Kd.R_alloc | apply Kd.R_drewN | apply Kd.R_drew)); exact (Kd.R_mono (Kd.R_far (p := ⟨gb371, 8, none⟩) (Kd.R_far (p := ⟨gb371, 7, none⟩) (Kd.R_far (p := ⟨gb371, 6, none⟩) (Kd.R_far (p := ⟨gb371, 5, none⟩) (Kd.R_far (p := ⟨gb371, 4, none⟩) (Kd.R_far (p := ⟨gb371, 3, none⟩) (Kd.R_far (p := ⟨gb371, 2, none⟩) (Kd.R_far (p := ⟨gb371, 1, none⟩) (Kd.R_far (p := ⟨gb371, 0, none⟩) (Kd.R_mono HO_5.out (fun k_ hk => (⟨hk, hk⟩ : _ ∧ k_ ≠ gb371))) (fun _ hk => hk.2) (.int .i64 ((rd_T28 x5_1 x8_3).f0))) (fun _ hk => hk.2) (.string ((rd_T28 x5_1 x8_3).f1.f0))) (fun _ hk => hk.2) (.int .i64 ((rd_T28 x5_1 x8_3).f1.f1))) (fun _ hk => hk.2) (.int .i64 ((rd_T28 x5_1 x8_3).f1.f2))) (fun _ hk => hk.2) (.bool ((rd_T28 x5_1 x8_3).f2))) (fun _ hk => hk.2) (.int .i64 ((rd_T28 x5_1 x8_3).f3.f0))) (fun _ hk => hk.2) (.int .i64 ((rd_T28 x5_1 x8_3).f3.f1))) (fun _ hk => hk.2) (.string ((rd_T28 x5_1 x8_3).f4))) (fun _ hk => hk.2) (.bool ((rd_T28 x5_1 x8_3).f5))) (fun _ h_ => h_.1))) hb); replace BK371 := Aside0.mk (blk_below (g := gb371) (o := .cells #[.int .i64 ((rd_T28 x5_1 x8_3).f0), .string ((rd_T28 x5_1 x8_3).f1.f0), .int .i64 ((rd_T28 x5_1 x8_3).f1.f1), .int .i64 ((rd_T28 x5_1 x8_3).f1.f2), .bool ((rd_T28 x5_1 x8_3).f2), .int .i64 ((rd_T28 x5_1 x8_3).f3.f0), .int .i64 ((rd_T28 x5_1 x8_3).f3.f1), .string ((rd_T28 x5_1 x8_3).f4), .bool ((rd_T28 x5_1 x8_3).f5)] 28 (0, 0)) (by (with_reducible repeat (first | refine blk_drewN ?_ _ | refine blk_drew ?_ | refine blk_alloc ?_ _)); refine blk_put (cs := #[.int .i64 ((rd_T28 x5_1 x8_3).f0), .string ((rd_T28 x5_1 x8_3).f1.f0), .int .i64 ((rd_T28 x5_1 x8_3).f1.f1), .int .i64 ((rd_T28 x5_1 x8_3).f1.f2), .bool ((rd_T28 x5_1 x8_3).f2), .int .i64 ((rd_T28 x5_1 x8_3).f3.f0), .int .i64 ((rd_T28 x5_1 x8_3).f3.f1), .string ((rd_T28 x5_1 x8_3).f4), .bool false]) ?_ 8 _ rfl; (with_reducible repeat (first | refine blk_drewN ?_ _ | refine blk_drew ?_ | refine blk_alloc ?_ _)); refine blk_put (cs := #[.int .i64 ((rd_T28 x5_1 x8_3).f0), .string ((rd_T28 x5_1 x8_3).f1.f0), .int .i64 ((rd_T28 x5_1 x8_3).f1.f1), .int .i64 ((rd_T28 x5_1 x8_3).f1.f2), .bool ((rd_T28 x5_1 x8_3).f2), .int .i64 ((rd_T28 x5_1 x8_3).f3.f0), .int .i64 ((rd_T28 x5_1 x8_3).f3.f1), .string x372007_3, .bool false]) ?_ 7 _ rfl; (with_reducible repeat (first | refine blk_drewN ?_ _ | refine blk_drew ?_ | refine blk_alloc ?_ _)); refine blk_put (cs := #[.int .i64 ((rd_T28 x5_1 x8_3).f0), .string ((rd_T28 x5_1 x8_3).f1.f0), .int .i64 ((rd_T28 x5_1 x8_3).f1.f1), .int .i64 ((rd_T28 x5_1 x8_3).f1.f2), .bool ((rd_T28 x5_1 x8_3).f2), .int .i64 ((rd_T28 x5_1 x8_3).f3.f0), .int .i64 x372006_3, .string x372007_3, .bool false]) ?_ 6 _ rfl; (with_reducible repeat (first | refine blk_drewN ?_ _ | refine blk_drew ?_ | refine blk_alloc ?_ _)); refine blk_put (cs := #[.int .i64 ((rd_T28 x5_1 x8_3).f0), .string ((rd_T28 x5_1 x8_3).f1.f0), .int .i64 ((rd_T28 x5_1 x8_3).f1.f1), .int .i64 ((rd_T28 x5_1 x8_3).f1.f2), .bool ((rd_T28 x5_1 x8_3).f2), .int .i64 x372005_3, .int .i64 x372006_3, .string x372007_3, .bool false]) ?_ 5 _ rfl; (with_reducible repeat (first | refine blk_drewN ?_ _ | refine blk_drew ?_ | refine blk_alloc ?_ _)); refine blk_put (cs := #[.int .i64 ((rd_T28 x5_1 x8_3).f0), .string ((rd_T28 x5_1 x8_3).f1.f0), .int .i64 ((rd_T28 x5_1 x8_3).f1.f1), .int .i64 ((rd_T28 x5_1 x8_3).f1.f2), .bool x372004_3, .int .i64 x372005_3, .int .i64 x372006_3, .string x372007_3, .bool false]) ?_ 4 _ rfl; (with_reducible repeat (first | refine blk_drewN ?_ _ | refine blk_drew ?_ | refine blk_alloc ?_ _)); refine blk_put (cs := #[.int .i64 ((rd_T28 x5_1 x8_3).f0), .string ((rd_T28 x5_1 x8_3).f1.f0), .int .i64 ((rd_T28 x5_1 x8_3).f1.f1), .int .i64 x372003_3, .bool x372004_3, .int .i64 x372005_3, .int .i64 x372006_3, .string x372007_3, .bool false]) ?_ 3 _ rfl; (with_reducible repeat (first | refine blk_drewN ?_ _ | refine blk_drew ?_ | refine blk_alloc ?_ _)); refine blk_put (cs := #[.int .i64 ((rd_T28 x5_1 x8_3).f0), .string ((rd_T28 x5_1 x8_3).f1.f0), .int .i64 x372002_3, .int .i64 x372003_3, .bool x372004_3, .int .i64 x372005_3, .int .i64 x372006_3, .string x372007_3, .bool false]) ?_ 2 _ rfl; (with_reducible repeat (first | refine blk_drewN ?_ _ | refine blk_drew ?_ | refine blk_alloc ?_ _)); refine blk_put (cs := #[.int .i64 ((rd_T28 x5_1 x8_3).f0), .string x372001_3, .int .i64 x372002_3, .int .i64 x372003_3, .bool x372004_3, .int .i64 x372005_3, .int .i64 x372006_3, .string x372007_3, .bool false]) ?_ 1 _ rfl; (with_reducible repeat (first | refine blk_drewN ?_ _ | refine blk_drew ?_ | refine blk_alloc ?_ _)); refine blk_put (cs := #[.int .i64 x372000_3, .string x372001_3, .int .i64 x372002_3, .int .i64 x372003_3, .bool x372004_3, .int .i64 x372005_3, .int .i64 x372006_3, .string x372007_3, .bool false]) ?_ 0 _ rfl; (with_reducible repeat (first | refine blk_drewN ?_ _ | refine blk_drew ?_ | refine blk_alloc ?_ _)); exact BK371.out) hb); replace HB := Aside0.mk (below_step zq4_1 hb); (try clear hb); (try clear hb2); (try clear hk); (try clear hi); have hcz27_0 : w26.cell? ⟨gb371, 0, none⟩ = some (.int .i64 ((rd_T28 x5_1 x8_3).f0)) := zc_4 BK371 0; have hcz27_1 : w26.cell? ⟨gb371, 1, none⟩ = some (.string ((rd_T28 x5_1 x8_3).f1.f0)) := zc_4 BK371 1; have hcz27_2 : w26.cell? ⟨gb371, 2, none⟩ = some (.int .i64 ((rd_T28 x5_1 x8_3).f1.f1)) := zc_4 BK371 2; have hcz27_3 : w26.cell? ⟨gb371, 3, none⟩ = some (.int .i64 ((rd_T28 x5_1 x8_3).f1.f2)) := zc_4 BK371 3; have hcz27_4 : w26.cell? ⟨gb371, 4, none⟩ = some (.bool ((rd_T28 x5_1 x8_3).f2)) := zc_4 BK371 4; have hcz27_5 : w26.cell? ⟨gb371, 5, none⟩ = some (.int .i64 ((rd_T28 x5_1 x8_3).f3.f0)) := zc_4 BK371 5; have hcz27_6 : w26.cell? ⟨gb371, 6, none⟩ = some (.int .i64 ((rd_T28 x5_1 x8_3).f3.f1)) := zc_4 BK371 6; have hcz27_7 : w26.cell? ⟨gb371, 7, none⟩ = some (.string ((rd_T28 x5_1 x8_3).f4)) := zc_4 BK371 7; have hcz27_8 : w26.cell? ⟨gb371, 8, none⟩ = some (.bool ((rd_T28 x5_1 x8_3).f5)) := zc_4 BK371 8; have hfz27_0 := blk_frozen BK371.out 0; have hfz27_1 := blk_frozen BK371.out 1; have hfz27_2 := blk_frozen BK371.out 2; have hfz27_3 := blk_frozen BK371.out 3; have hfz27_4 := blk_frozen BK371.out 4; have hfz27_5 := blk_frozen BK371.out 5; have hfz27_6 := blk_frozen BK371.out 6; have hfz27_7 := blk_frozen BK371.out 7; have hfz27_8 := blk_frozen BK371.out 8))
                 go_roundg kj12
                 case measure => have := HK1.out; have := HJ2.out; have := HK3.out; have := HJ12.out; omega
                 case rel => exact ⟨(wrap64 (x8_3 + 1)), (t378), (t379), (t380), (t381), (t382), (t383), (t384), (t385), (t386), zq4_12, H', ⟨by have := HK1.out; have := HJ2.out; have := HK3.out; have := HJ12.out; omega⟩, ⟨by (with_reducible repeat (first | apply Kd.R_alloc | apply Kd.R_drewN | apply Kd.R_drew)); exact Kd.R_mono (Kd.R_far (p := ⟨gb371, 8, none⟩) (Kd.R_far (p := ⟨gb371, 7, none⟩) (Kd.R_far (p := ⟨gb371, 6, none⟩) (Kd.R_far (p := ⟨gb371, 5, none⟩) (Kd.R_far (p := ⟨gb371, 4, none⟩) (Kd.R_far (p := ⟨gb371, 3, none⟩) (Kd.R_far (p := ⟨gb371, 2, none⟩) (Kd.R_far (p := ⟨gb371, 1, none⟩) (Kd.R_far (p := ⟨gb371, 0, none⟩) (Kd.R_mono HO_5.out (fun k_ hk => (⟨hk, hk⟩ : _ ∧ k_ ≠ gb371))) (fun _ hk => hk.2) (.int .i64 t378)) (fun _ hk => hk.2) (.string t379)) (fun _ hk => hk.2) (.int .i64 t380)) (fun _ hk => hk.2) (.int .i64 t381)) (fun _ hk => hk.2) (.bool t382)) (fun _ hk => hk.2) (.int .i64 t383)) (fun _ hk => hk.2) (.int .i64 t384)) (fun _ hk => hk.2) (.string t385)) (fun _ hk => hk.2) (.bool t386)) (fun _ hk => hk.1)⟩, ⟨by (with_reducible repeat (first | refine blk_drewN ?_ _ | refine blk_drew ?_ | refine blk_alloc ?_ _)); refine blk_put (cs := #[.int .i64 t378, .string t379, .int .i64 t380, .int .i64 t381, .bool t382, .int .i64 t383, .int .i64 t384, .string t385, .bool ((rd_T28 x5_1 x8_3).f5)]) ?_ 8 _ rfl; (with_reducible repeat (first | refine blk_drewN ?_ _ | refine blk_drew ?_ | refine blk_alloc ?_ _)); refine blk_put (cs := #[.int .i64 t378, .string t379, .int .i64 t380, .int .i64 t381, .bool t382, .int .i64 t383, .int .i64 t384, .string ((rd_T28 x5_1 x8_3).f4), .bool ((rd_T28 x5_1 x8_3).f5)]) ?_ 7 _ rfl; (with_reducible repeat (first | refine blk_drewN ?_ _ | refine blk_drew ?_ | refine blk_alloc ?_ _)); refine blk_put (cs := #[.int .i64 t378, .string t379, .int .i64 t380, .int .i64 t381, .bool t382, .int .i64 t383, .int .i64 ((rd_T28 x5_1 x8_3).f3.f1), .string ((rd_T28 x5_1 x8_3).f4), .bool ((rd_T28 x5_1 x8_3).f5)]) ?_ 6 _ rfl; (with_reducible repeat (first | refine blk_drewN ?_ _ | refine blk_drew ?_ | refine blk_alloc ?_ _)); refine blk_put (cs := #[.int .i64 t378, .string t379, .int .i64 t380, .int .i64 t381, .bool t382, .int .i64 ((rd_T28 x5_1 x8_3).f3.f0), .int .i64 ((rd_T28 x5_1 x8_3).f3.f1), .string ((rd_T28 x5_1 x8_3).f4), .bool ((rd_T28 x5_1 x8_3).f5)]) ?_ 5 _ rfl; (with_reducible repeat (first | refine blk_drewN ?_ _ | refine blk_drew ?_ | refine blk_alloc ?_ _)); refine blk_put (cs := #[.int .i64 t378, .string t379, .int .i64 t380, .int .i64 t381, .bool ((rd_T28 x5_1 x8_3).f2), .int .i64 ((rd_T28 x5_1 x8_3).f3.f0), .int .i64 ((rd_T28 x5_1 x8_3).f3.f1), .string ((rd_T28 x5_1 x8_3).f4), .bool ((rd_T28 x5_1 x8_3).f5)]) ?_ 4 _ rfl; (with_reducible repeat (first | refine blk_drewN ?_ _ | refine blk_drew ?_ | refine blk_alloc ?_ _)); refine blk_put (cs := #[.int .i64 t378, .string t379, .int .i64 t380, .int .i64 ((rd_T28 x5_1 x8_3).f1.f2), .bool ((rd_T28 x5_1 x8_3).f2), .int .i64 ((rd_T28 x5_1 x8_3).f3.f0), .int .i64 ((rd_T28 x5_1 x8_3).f3.f1), .string ((rd_T28 x5_1 x8_3).f4), .bool ((rd_T28 x5_1 x8_3).f5)]) ?_ 3 _ rfl; (with_reducible repeat (first | refine blk_drewN ?_ _ | refine blk_drew ?_ | refine blk_alloc ?_ _)); refine blk_put (cs := #[.int .i64 t378, .string t379, .int .i64 ((rd_T28 x5_1 x8_3).f1.f1), .int .i64 ((rd_T28 x5_1 x8_3).f1.f2), .bool ((rd_T28 x5_1 x8_3).f2), .int .i64 ((rd_T28 x5_1 x8_3).f3.f0), .int .i64 ((rd_T28 x5_1 x8_3).f3.f1), .string ((rd_T28 x5_1 x8_3).f4), .bool ((rd_T28 x5_1 x8_3).f5)]) ?_ 2 _ rfl; (with_reducible repeat (first | refine blk_drewN ?_ _ | refine blk_drew ?_ | refine blk_alloc ?_ _)); refine blk_put (cs := #[.int .i64 t378, .string ((rd_T28 x5_1 x8_3).f1.f0), .int .i64 ((rd_T28 x5_1 x8_3).f1.f1), .int .i64 ((rd_T28 x5_1 x8_3).f1.f2), .bool ((rd_T28 x5_1 x8_3).f2), .int .i64 ((rd_T28 x5_1 x8_3).f3.f0), .int .i64 ((rd_T28 x5_1 x8_3).f3.f1), .string ((rd_T28 x5_1 x8_3).f4), .bool ((rd_T28 x5_1 x8_3).f5)]) ?_ 1 _ rfl; (with_reducible repeat (first | refine blk_drewN ?_ _ | refine blk_drew ?_ | refine blk_alloc ?_ _)); refine blk_put (cs := #[.int .i64 ((rd_T28 x5_1 x8_3).f0), .string ((rd_T28 x5_1 x8_3).f1.f0), .int .i64 ((rd_T28 x5_1 x8_3).f1.f1), .int .i64 ((rd_T28 x5_1 x8_3).f1.f2), .bool ((rd_T28 x5_1 x8_3).f2), .int .i64 ((rd_T28 x5_1 x8_3).f3.f0), .int .i64 ((rd_T28 x5_1 x8_3).f3.f1), .string ((rd_T28 x5_1 x8_3).f4), .bool ((rd_T28 x5_1 x8_3).f5)]) ?_ 0 _ rfl; (with_reducible repeat (first | refine blk_drewN ?_ _ | refine blk_drew ?_ | refine blk_alloc ?_ _)); exact BK371.out⟩, ⟨by repeat (first | (with_reducible first | exact HB.out | apply below_alloc | apply pw_below_drewN | apply below_drew1 | refine below_set ?_ GE371.out) | exact HB.out)⟩⟩
               ·rw [if_neg c21] at H
                exact absurd H (by simp)
              ·rw [if_neg c20] at H
               exact absurd H (by simp)
             ·replace c19 := Bool.eq_false_iff.mpr c19
              subst c19
              have H1 : (cenotaphlaw08_StoreOrders.l1 kj12 l0 l1 x5_1 x6_1 (wrap64 (x8_3 + 1)) x372000_3 x372001_3 x372002_3 x372003_3 x372004_3 x372005_3 x372006_3 x372007_3 x372008_3) = some r := by rw [if_neg (show ¬ (false = true) by decide)] at H; exact H
              clear H
              have H := H1
              clear H1
              have H' := Aside0.mk H
              clear H
              go_wp2
              go_roundg kj12
              case measure => have := HK1.out; have := HJ2.out; have := HK3.out; have := HJ12.out; omega
              case rel => exact ⟨(wrap64 (x8_3 + 1)), (x372000_3), (x372001_3), (x372002_3), (x372003_3), (x372004_3), (x372005_3), (x372006_3), (x372007_3), (x372008_3), zq4_12, H', ⟨by have := HK1.out; have := HJ2.out; have := HK3.out; have := HJ12.out; omega⟩, ⟨by (with_reducible repeat (first | apply Kd.R_alloc | apply Kd.R_drewN | apply Kd.R_drew)); exact HO_5.out⟩, ⟨by (with_reducible repeat (first | refine blk_drewN ?_ _ | refine blk_drew ?_ | refine blk_alloc ?_ _)); exact BK371.out⟩, ⟨by repeat (first | (with_reducible first | exact HB.out | apply below_alloc | apply pw_below_drewN | apply below_drew1 | refine below_set ?_ GE371.out) | exact HB.out)⟩⟩
          ·rw [if_neg c12] at H
           have c12b0 : decide (x8_3 < (x5_1.length : Int)) = false := decide_eq_false c12
           clear c12
           by_cases c28 : x5_1.length < 1599289640401
           ·rw [if_pos c28] at H
            have LMc28 := Aside0.mk c28
            clear c28
            obtain ⟨y372, hy372⟩ : ∃ y_ : List (S28), y_ = (x5_1 ++ [(⟨x372000_3, (⟨x372001_3, x372002_3, x372003_3⟩ : S24), x372004_3, (⟨x372005_3, x372006_3⟩ : S26), x372007_3, x372008_3⟩ : S28)]) := ⟨_, rfl⟩
            replace H : (cenotaphlaw08_StoreOrders.l0 k3 l0 l1 y372 (wrap64 (x6_1 + 1))) = some r := by first | (rw [hy372]; with_reducible exact H) | (have H2_ := (Option.bind_some _ _).symm.trans H; rw [hy372]; with_reducible exact H2_) | (have H2_ := (Option.bind_some _ _).symm.trans H; with_reducible exact H2_) | with_reducible exact H | (rw [hy372]; exact H) | exact H
            have Ny372 := Aside0.mk hy372
            clear hy372
            have H' := Aside0.mk H
            clear H
            obtain ⟨Ao29, co29, eo29⟩ := Kd.R_slice HO_5.out
            subst eo29
            have hcz30_0 : wr.cell? ⟨gb371, 0, none⟩ = some (.int .i64 x372000_3) := zc_4 BK371 0
            have hcz30_1 : wr.cell? ⟨gb371, 1, none⟩ = some (.string x372001_3) := zc_4 BK371 1
            have hcz30_2 : wr.cell? ⟨gb371, 2, none⟩ = some (.int .i64 x372002_3) := zc_4 BK371 2
            have hcz30_3 : wr.cell? ⟨gb371, 3, none⟩ = some (.int .i64 x372003_3) := zc_4 BK371 3
            have hcz30_4 : wr.cell? ⟨gb371, 4, none⟩ = some (.bool x372004_3) := zc_4 BK371 4
            have hcz30_5 : wr.cell? ⟨gb371, 5, none⟩ = some (.int .i64 x372005_3) := zc_4 BK371 5
            have hcz30_6 : wr.cell? ⟨gb371, 6, none⟩ = some (.int .i64 x372006_3) := zc_4 BK371 6
            have hcz30_7 : wr.cell? ⟨gb371, 7, none⟩ = some (.string x372007_3) := zc_4 BK371 7
            have hcz30_8 : wr.cell? ⟨gb371, 8, none⟩ = some (.bool x372008_3) := zc_4 BK371 8
            have hfz30_0 := blk_frozen BK371.out 0
            have hfz30_1 := blk_frozen BK371.out 1
            have hfz30_2 := blk_frozen BK371.out 2
            have hfz30_3 := blk_frozen BK371.out 3
            have hfz30_4 := blk_frozen BK371.out 4
            have hfz30_5 := blk_frozen BK371.out 5
            have hfz30_6 := blk_frozen BK371.out 6
            have hfz30_7 := blk_frozen BK371.out 7
            have hfz30_8 := blk_frozen BK371.out 8
            go_wp2_with (first | ((with_reducible refine gate_builtin (b := .append) (xs := #[.tmp 74, .tmp 76]) rfl ?_); (try (refine gate_guard (by rfl) ?_; dsimp only)); at_builtin; refine Kd.R_append k28 (w0 := w) w.heap.size rfl (.tmp 74) (.tmp 76) 22 28 (.agg #[(.int .i64 0), (.string ⟨#[]⟩), (.int .i64 0), (.int .i64 0), (.bool false), (.int .i64 0), (.int .i64 0), (.string ⟨#[]⟩), (.bool false)]) 88 rfl Try.underlying22 info28 rfl (by decide) (by omega) (.slice Ao29 x5_1.length co29) x5_1 (⟨x372000_3, (⟨x372001_3, x372002_3, x372003_3⟩ : S24), x372004_3, (⟨x372005_3, x372006_3⟩ : S26), x372007_3, x372008_3⟩ : S28) [.int .i64 x372000_3, .string x372001_3, .int .i64 x372002_3, .int .i64 x372003_3, .bool x372004_3, .int .i64 x372005_3, .int .i64 x372006_3, .string x372007_3, .bool x372008_3] (fun k_ => k_ ≠ gb371) (fun _ => False) rfl rfl ?aP (fun _ hk => hk.elim) ?aF ?aO ?aB ?aS ?aL ?_; (case aP => exact k28_mkM _ _ _ (⟨x372000_3, (⟨x372001_3, x372002_3, x372003_3⟩ : S24), x372004_3, (⟨x372005_3, x372006_3⟩ : S26), x372007_3, x372008_3⟩ : S28)); (case aB => exact zq4_1); (case aF => exact (fun k_ hk => Kd.freshB (g := gb371) (o := .cells #[.int .i64 x372000_3, .string x372001_3, .int .i64 x372002_3, .int .i64 x372003_3, .bool x372004_3, .int .i64 x372005_3, .int .i64 x372006_3, .string x372007_3, .bool x372008_3] 28 (0, 0)) (by (with_reducible repeat (first | refine blk_drewN ?_ _ | refine blk_drew ?_ | refine blk_alloc ?_ _)); exact BK371.out) k_ hk)); (case aO => exact zq4_10); (case aS => exact (below_size zq4_1)); (case aL => have := LMc28.out; omega); intro v373 w31 ho hb hg hat; rw [← Ny372.out] at ho; replace BK371 := Aside0.mk (blk_grown (g := gb371) (o := .cells #[.int .i64 x372000_3, .string x372001_3, .int .i64 x372002_3, .int .i64 x372003_3, .bool x372004_3, .int .i64 x372005_3, .int .i64 x372006_3, .string x372007_3, .bool x372008_3] 28 (0, 0)) (by (with_reducible repeat (first | refine blk_drewN ?_ _ | refine blk_drew ?_ | refine blk_alloc ?_ _)); exact BK371.out) hg (Kd.R_away HO_5.out (fun _ hk => hk))); replace HB := Aside0.mk (hb); have HO374 := Aside0.mk (ho); clear HO_5; clear ho hb hg hat))
            go_roundg k3
            case measure => have := HK1.out; have := HJ2.out; have := HK3.out; omega
            case rel => exact ⟨(y372), (wrap64 (x6_1 + 1)), zq4_12, H', ⟨by have := HK1.out; have := HJ2.out; have := HK3.out; omega⟩, ⟨by (with_reducible repeat (first | apply Kd.R_alloc | apply Kd.R_drewN | apply Kd.R_drew)); exact Kd.R_mono HO374.out (fun _ hk => trivial)⟩, ⟨by repeat (first | (with_reducible first | exact HB.out | apply below_alloc | apply pw_below_drewN | apply below_drew1 | refine below_set ?_ GE371.out) | exact HB.out)⟩⟩
           ·rw [if_neg c28] at H
            exact absurd H (by simp)
       ·rw [if_neg c7] at H
        exact absurd H (by simp)
      ·rw [if_neg c6] at H
       exact absurd H (by simp)
     ·replace c5 := Bool.eq_false_iff.mpr c5
      subst c5
      have H1 : ((some (([] : List (S28)) : List (S28))).bind fun y387 => (if y387.length + x5_1.length < 1599289640401 then (cenotaphlaw08_StoreOrders.l2 kj2 l1 x5_1 (y387 ++ x5_1) 0) else (none))) = some r := by rw [if_neg (show ¬ (false = true) by decide)] at H; exact H
      clear H
      have H := H1
      clear H1
      obtain ⟨y387, hy387⟩ : ∃ y_ : List (S28), y_ = (([] : List (S28))) := ⟨_, rfl⟩
      replace H : (if y387.length + x5_1.length < 1599289640401 then (cenotaphlaw08_StoreOrders.l2 kj2 l1 x5_1 (y387 ++ x5_1) 0) else (none)) = some r := by first | (rw [hy387]; with_reducible exact H) | (have H2_ := (Option.bind_some _ _).symm.trans H; rw [hy387]; with_reducible exact H2_) | (have H2_ := (Option.bind_some _ _).symm.trans H; with_reducible exact H2_) | with_reducible exact H | (rw [hy387]; exact H) | exact H
      have Ny387 := Aside0.mk hy387
      clear hy387
      by_cases c32 : y387.length + x5_1.length < 1599289640401
      ·rw [if_pos c32] at H
       have LMc32 := Aside0.mk c32
       clear c32
       obtain ⟨y390, hy390⟩ : ∃ y_ : List (S28), y_ = (y387 ++ x5_1) := ⟨_, rfl⟩
       replace H : (cenotaphlaw08_StoreOrders.l2 kj2 l1 x5_1 y390 0) = some r := by first | (rw [hy390]; with_reducible exact H) | (have H2_ := (Option.bind_some _ _).symm.trans H; rw [hy390]; with_reducible exact H2_) | (have H2_ := (Option.bind_some _ _).symm.trans H; with_reducible exact H2_) | with_reducible exact H | (rw [hy390]; exact H) | exact H
       have Ny390 := Aside0.mk hy390
       clear hy390
       have HC33 := Aside0.mk H
       clear H
       go_upto_block 4 with (first | ((with_reducible refine gate_dst (N := 78) rfl ?_); (try (refine gate_guard (by rfl) ?_; dsimp only)); refine Kd.R_lit k28 _ 28 ?hg (N := 78) ?hd (xs := ([] : List (S28))) (inner := []) (ok := fun _ => True) (okp := fun _ => True) ?hr ?hp (fun _ hk => hk) trivial (Below.refl _ _) (Nat.le_refl _) (by simp) ?_; (case hd => rfl); (case hg => rfl); (case hr => first | (go_simp; done) | (go_simp; rfl)); (case hp => exact (Reps.none _ _)); intro v388 w34 ho35 hb hg_ hnew_; clear hg_ hnew_; (first | rw [← Ny387.out] at ho35 | (simp only [Int.reduceToNat] at ho35; rw [← Ny387.out] at ho35)); have HO389 := Aside0.mk (Kd.R_lower (Kd.R_new' ho35 (Kd.R_lt zq4_10)) (below_size zq4_4)); replace HO_5 := Aside0.mk (Kd.R_elder' zq4_10 (Kd.R_base ho35) hb); replace HB := Aside0.mk (below_step zq4_4 hb); clear hb ho35; obtain ⟨Ao37, co37, eo37⟩ := Kd.R_slice HO_5.out; subst eo37) | ((with_reducible refine gate_builtin (b := .append) (xs := #[.tmp 78, .tmp 79]) rfl ?_); (try (refine gate_guard (by rfl) ?_; dsimp only)); at_builtin; refine Kd.R_append_rows k28 (w0 := w) w.heap.size rfl (.tmp 78) (.tmp 79) 22 28 (.agg #[(.int .i64 0), (.string ⟨#[]⟩), (.int .i64 0), (.int .i64 0), (.bool false), (.int .i64 0), (.int .i64 0), (.string ⟨#[]⟩), (.bool false)]) 88 rfl Try.underlying22 info28 rfl (by decide) (by omega) v388 y387 x5_1 _ _ _ (fun k_ => some k_ ≠ (.slice Ao37 x5_1.length co37 : Value).ownBlock) (fun _ => False) rfl rfl ?aO ?aR (fun _ _ h => h) (fun _ h => h.elim) ?aF ?aB ?aS ?aL ?_; (case aR => repeat (first | exact (Kd.R_reads' HO_5.out).2.2 | (with_reducible refine Kd.C_alloc ?_ _) | (with_reducible refine Kd.C_drewN ?_ _) | (with_reducible refine Kd.C_drew ?_))); (case aB => exact zq4_4); (case aF => exact (fun k_ hk => Kd.fresh' (Kd.R_lt zq4_10) k_ hk)); (case aO => exact (by (with_reducible repeat (first | apply Kd.R_alloc | apply Kd.R_drewN | apply Kd.R_drew)); exact Kd.R_mono HO389.out (fun _ hk => hk.2))); (case aS => exact (below_size zq4_4)); (case aL => have := LMc32.out; omega); intro v391 w36 ho hb hg hat; rw [← Ny390.out] at ho; replace HO_5 := Aside0.mk (Kd.R_after (ok := (fun _ => True)) zq4_10 hg hat); replace HB := Aside0.mk (hb); have HO392 := Aside0.mk (ho); clear HO389; clear ho hb hg hat))
       (try simp only [Act.put, List.setIfInBounds_toArray, List.set_cons_zero, List.set_cons_succ])
       go_cut [] (fun wc => ∃ (kq : Nat) (x10_32 : List (S28)), Aside0 (cenotaphlaw08_StoreOrders.j5 kq x5_1 x10_32 = some r) ∧ Aside0 (kq ≤ kj2) ∧ Aside0 (Kd.R k28 28 wc w.heap.size (fun k_ => some k_ ≠ (v391 : Value).ownBlock) (.slice Ao37 x5_1.length co37) x5_1) ∧ Aside0 (Kd.R k28 28 wc w.heap.size (fun k_ => some k_ ≠ ((.slice Ao37 x5_1.length co37) : Value).ownBlock) v391 x10_32) ∧ Aside0 (Below w.heap.size w wc))
       case first => as_aux_lemma =>
        have H := HC33.out
        clear HC33
        have H' := Aside0.mk H
        clear H
        go_wp2
        go_loopg [11] kj2 (fun kq v11 w' => ∃ (x10_3 : List (S28)) (x11_3 : Int), v11 = .int .i64 x11_3 ∧ Aside0 (cenotaphlaw08_StoreOrders.l2 kq l1 x5_1 x10_3 x11_3 = some r) ∧ Aside0 (kq ≤ kj2) ∧ Aside0 (Kd.R k28 28 w' w.heap.size (fun k_ => some k_ ≠ (v391 : Value).ownBlock) (.slice Ao37 x5_1.length co37) x5_1) ∧ Aside0 (Kd.R k28 28 w' w.heap.size (fun k_ => some k_ ≠ ((.slice Ao37 x5_1.length co37) : Value).ownBlock) v391 x10_3) ∧ Aside0 (Below w.heap.size w w'))
        case atStart => exact ⟨(y390), (0), zq4_12, H', ⟨Nat.le_refl _⟩, ⟨by (with_reducible repeat (first | apply Kd.R_alloc | apply Kd.R_drewN | apply Kd.R_drew)); exact Kd.R_mono HO_5.out (fun _ hk => hk.2)⟩, ⟨by (with_reducible repeat (first | apply Kd.R_alloc | apply Kd.R_drewN | apply Kd.R_drew)); exact HO392.out⟩, ⟨by repeat (first | (with_reducible first | exact HB.out | apply below_alloc | apply pw_below_drewN | apply below_drew1) | exact HB.out)⟩⟩
        case round =>
         clear H'
         (try clear c1); (try clear c2); (try clear p2); (try clear c3); (try clear p3); (try clear q3); (try clear hx3); (try clear c4); (try clear c4b0); (try clear c5); (try clear c6); (try clear c6b0); (try clear p6); (try clear c7); (try clear c7b0); (try clear c9); (try clear c12); (try clear c12b0); (try clear c15); (try clear c15b0); (try clear c16); (try clear c16b0); (try clear c16b1); (try clear c19); (try clear c20); (try clear c20b0); (try clear c21); (try clear c21b0); (try clear c22); (try clear c23); (try clear c28); (try clear c32); (try clear p36); (try clear q36); (try clear hx36); (try clear p37); (try clear q37); (try clear hx37); (try clear hcz11_0); (try clear hcz11_1); (try clear hcz11_2); (try clear hcz11_3); (try clear hcz11_4); (try clear hcz11_5); (try clear hcz11_6); (try clear hcz11_7); (try clear hcz11_8); (try clear hcz23_0); (try clear hcz23_1); (try clear hcz23_2); (try clear hcz23_3); (try clear hcz23_4); (try clear hcz23_5); (try clear hcz23_6); (try clear hcz23_7); (try clear hcz23_8); (try clear hcz25_0); (try clear hcz25_1); (try clear hcz25_2); (try clear hcz25_3); (try clear hcz25_4); (try clear hcz25_5); (try clear hcz25_6); (try clear hcz25_7); (try clear hcz25_8); (try clear hcz27_0); (try clear hcz27_1); (try clear hcz27_2); (try clear hcz27_3); (try clear hcz27_4); (try clear hcz27_5); (try clear hcz27_6); (try clear hcz27_7); (try clear hcz27_8); (try clear hcz30_0); (try clear hcz30_1); (try clear hcz30_2); (try clear hcz30_3); (try clear hcz30_4); (try clear hcz30_5); (try clear hcz30_6); (try clear hcz30_7); (try clear hcz30_8); (try clear hfz11_0); (try clear hfz11_1); (try clear hfz11_2); (try clear hfz11_3); (try clear hfz11_4); (try clear hfz11_5); (try clear hfz11_6); (try clear hfz11_7); (try clear hfz11_8); (try clear hfz23_0); (try clear hfz23_1); (try clear hfz23_2); (try clear hfz23_3); (try clear hfz23_4); (try clear hfz23_5); (try clear hfz23_6); (try clear hfz23_7); (try clear hfz23_8); (try clear hfz25_0); (try clear hfz25_1); (try clear hfz25_2); (try clear hfz25_3); (try clear hfz25_4); (try clear hfz25_5); (try clear hfz25_6); (try clear hfz25_7); (try clear hfz25_8); (try clear hfz27_0); (try clear hfz27_1); (try clear hfz27_2); (try clear hfz27_3); (try clear hfz27_4); (try clear hfz27_5); (try clear hfz27_6); (try clear hfz27_7); (try clear hfz27_8); (try clear hfz30_0); (try clear hfz30_1); (try clear hfz30_2); (try clear hfz30_3); (try clear hfz30_4); (try clear hfz30_5); (try clear hfz30_6); (try clear hfz30_7); (try clear hfz30_8); (try clear hx361_0); (try clear hx361_1); (try clear hx361_2); (try clear hx361_3); (try clear hx361_4); (try clear hx361_5); (try clear hx361_6); (try clear hx361_7); (try clear hx361_8); (try clear hx375_0); (try clear hx375_1); (try clear hx375_2); (try clear hx375_3); (try clear hx375_4); (try clear hx375_5); (try clear hx375_6); (try clear hx375_7); (try clear hx375_8); (try clear hx376_0); (try clear hx376_1); (try clear hx376_2); (try clear hx376_3); (try clear hx376_4); (try clear hx376_5); (try clear hx376_6); (try clear hx376_7); (try clear hx376_8); (try clear hx377_0); (try clear hx377_1); (try clear hx377_2); (try clear hx377_3); (try clear hx377_4); (try clear hx377_5); (try clear hx377_6); (try clear hx377_7); (try clear hx377_8); (try clear p2); (try clear p3); (try clear p361); (try clear p375); (try clear p376); (try clear p377); (try clear q3); (try clear q361); (try clear q375); (try clear q376); (try clear q377)
         obtain ⟨x10_3, x11_3, rfl, HA, HK3, HO_5, HO_10, HB⟩ := hrel
         cases gk with
         | zero => exact absurd HA.out (by simp [cenotaphlaw08_StoreOrders.l2])
         | succ k3 =>
          have H := HA.out
          clear HA
          simp only [cenotaphlaw08_StoreOrders.l2] at H
          by_cases c38 : x11_3 < (l1.length : Int)
          ·rw [if_pos c38] at H
           have c38b0 : decide (x11_3 < (l1.length : Int)) = true := decide_eq_true c38
           clear c38
           (first | rw [c38b0] | (simp only [i64_w, i32_w]; rw [c38b0]) | skip)
           by_cases c39 : (x10_3.length : Int) > 1
           ·rw [if_pos c39] at H
            have c39b0 : decide (1 < (x10_3.length : Int)) = true := decide_eq_true c39
            have c39b1 : decide (1 < x10_3.length) = true := decide_eq_true (by omega)
            clear c39
            by_cases c40 : x11_3 < 40
            ·rw [if_pos c40] at H
             have c40b0 : decide (x11_3 < 40) = true := decide_eq_true c40
             clear c40
             by_cases c41 : (x10_3.length : Int) = 0
             ·rw [if_pos c41] at H
              exact absurd H (by simp)
             ·rw [if_neg c41] at H
              have c41b0 : ((x10_3.length : Int) == 0) = false := beq_eq_false_iff_ne.mpr c41
              have c41b1 : ((x10_3.length : Int) != 0) = true := bne_iff_ne.mpr c41
              have c41b2 : ¬ (x10_3 = []) := fun h_ => c41 (by rw [h_]; rfl)
              by_cases c42 : 0 ≤ x11_3
              ·rw [if_pos c42] at H
               have c42b0 : decide (0 ≤ x11_3) = true := decide_eq_true c42
               clear c42
               by_cases c43 : (IntKind.u64.wrap ((x10_3.length : Int))) = 0
               ·rw [if_pos c43] at H
                exact absurd H (by simp)
               ·rw [if_neg c43] at H
                have c43b0 : ((IntKind.u64.wrap ((x10_3.length : Int))) == 0) = false := beq_eq_false_iff_ne.mpr c43
                have c43b1 : ((IntKind.u64.wrap ((x10_3.length : Int))) != 0) = true := bne_iff_ne.mpr c43
                obtain ⟨ji44, hji44⟩ : ∃ j_ : Int, (wrap64 (Int.tmod (IntKind.u64.wrap (rd l1 x11_3)) (IntKind.u64.wrap ((x10_3.length : Int))))) = j_ := ⟨_, rfl⟩
                replace H : (if 0 ≤ (ji44) then (if (ji44) < (x10_3.length : Int) then (if 0 ≤ (Int.tmod x11_3 (x10_3.length : Int)) then (if (Int.tmod x11_3 (x10_3.length : Int)) < (x10_3.length : Int) then (cenotaphlaw08_StoreOrders.l2 k3 l1 x5_1 ((x10_3.set ((Int.tmod x11_3 (x10_3.length : Int)) : Int).toNat (⟨(rd_T28 x10_3 (ji44)).f0, (⟨(rd_T28 x10_3 (ji44)).f1.f0, (rd_T28 x10_3 (ji44)).f1.f1, (rd_T28 x10_3 (ji44)).f1.f2⟩ : S24), (rd_T28 x10_3 (ji44)).f2, (⟨(rd_T28 x10_3 (ji44)).f3.f0, (rd_T28 x10_3 (ji44)).f3.f1⟩ : S26), (rd_T28 x10_3 (ji44)).f4, (rd_T28 x10_3 (ji44)).f5⟩ : S28)).set ((ji44) : Int).toNat (⟨(rd_T28 x10_3 (Int.tmod x11_3 (x10_3.length : Int))).f0, (⟨(rd_T28 x10_3 (Int.tmod x11_3 (x10_3.length : Int))).f1.f0, (rd_T28 x10_3 (Int.tmod x11_3 (x10_3.length : Int))).f1.f1, (rd_T28 x10_3 (Int.tmod x11_3 (x10_3.length : Int))).f1.f2⟩ : S24), (rd_T28 x10_3 (Int.tmod x11_3 (x10_3.length : Int))).f2, (⟨(rd_T28 x10_3 (Int.tmod x11_3 (x10_3.length : Int))).f3.f0, (rd_T28 x10_3 (Int.tmod x11_3 (x10_3.length : Int))).f3.f1⟩ : S26), (rd_T28 x10_3 (Int.tmod x11_3 (x10_3.length : Int))).f4, (rd_T28 x10_3 (Int.tmod x11_3 (x10_3.length : Int))).f5⟩ : S28)) (wrap64 (x11_3 + 1))) else (none)) else (none)) else (none)) else (none)) = some r := by first | (rw [hji44] at H; exact H) | (simp only [hji44] at H ⊢; exact H)
                have hji44w : (IntKind.i64.wrap (Int.tmod (IntKind.u64.wrap (rd l1 x11_3)) (IntKind.u64.wrap ((x10_3.length : Int))))) = ji44 := (i64_w _).trans hji44
                by_cases c45 : 0 ≤ (ji44)
                ·rw [if_pos c45] at H
                 have c45b0 : decide (0 ≤ (ji44)) = true := decide_eq_true c45
                 clear c45
                 by_cases c46 : (ji44) < (x10_3.length : Int)
                 ·rw [if_pos c46] at H
                  have c46b0 : decide ((ji44) < (x10_3.length : Int)) = true := decide_eq_true c46
                  clear c46
                  obtain ⟨ji47, hji47⟩ : ∃ j_ : Int, (Int.tmod x11_3 (x10_3.length : Int)) = j_ := ⟨_, rfl⟩
                  replace H : (if 0 ≤ (ji47) then (if (ji47) < (x10_3.length : Int) then (cenotaphlaw08_StoreOrders.l2 k3 l1 x5_1 ((x10_3.set ((ji47) : Int).toNat (⟨(rd_T28 x10_3 (ji44)).f0, (⟨(rd_T28 x10_3 (ji44)).f1.f0, (rd_T28 x10_3 (ji44)).f1.f1, (rd_T28 x10_3 (ji44)).f1.f2⟩ : S24), (rd_T28 x10_3 (ji44)).f2, (⟨(rd_T28 x10_3 (ji44)).f3.f0, (rd_T28 x10_3 (ji44)).f3.f1⟩ : S26), (rd_T28 x10_3 (ji44)).f4, (rd_T28 x10_3 (ji44)).f5⟩ : S28)).set ((ji44) : Int).toNat (⟨(rd_T28 x10_3 (ji47)).f0, (⟨(rd_T28 x10_3 (ji47)).f1.f0, (rd_T28 x10_3 (ji47)).f1.f1, (rd_T28 x10_3 (ji47)).f1.f2⟩ : S24), (rd_T28 x10_3 (ji47)).f2, (⟨(rd_T28 x10_3 (ji47)).f3.f0, (rd_T28 x10_3 (ji47)).f3.f1⟩ : S26), (rd_T28 x10_3 (ji47)).f4, (rd_T28 x10_3 (ji47)).f5⟩ : S28)) (wrap64 (x11_3 + 1))) else (none)) else (none)) = some r := by first | (rw [hji47] at H; exact H) | (simp only [hji47] at H ⊢; exact H)
                  by_cases c48 : 0 ≤ (ji47)
                  ·rw [if_pos c48] at H
                   have c48b0 : decide (0 ≤ (ji47)) = true := decide_eq_true c48
                   clear c48
                   by_cases c49 : (ji47) < (x10_3.length : Int)
                   ·rw [if_pos c49] at H
                    have c49b0 : decide ((ji47) < (x10_3.length : Int)) = true := decide_eq_true c49
                    clear c49
                    obtain ⟨y396, hy396⟩ : ∃ y_ : List (S28), y_ = (x10_3.set ((ji47) : Int).toNat (⟨(rd_T28 x10_3 (ji44)).f0, (⟨(rd_T28 x10_3 (ji44)).f1.f0, (rd_T28 x10_3 (ji44)).f1.f1, (rd_T28 x10_3 (ji44)).f1.f2⟩ : S24), (rd_T28 x10_3 (ji44)).f2, (⟨(rd_T28 x10_3 (ji44)).f3.f0, (rd_T28 x10_3 (ji44)).f3.f1⟩ : S26), (rd_T28 x10_3 (ji44)).f4, (rd_T28 x10_3 (ji44)).f5⟩ : S28)) := ⟨_, rfl⟩
                    replace H : (cenotaphlaw08_StoreOrders.l2 k3 l1 x5_1 (y396.set ((ji44) : Int).toNat (⟨(rd_T28 x10_3 (ji47)).f0, (⟨(rd_T28 x10_3 (ji47)).f1.f0, (rd_T28 x10_3 (ji47)).f1.f1, (rd_T28 x10_3 (ji47)).f1.f2⟩ : S24), (rd_T28 x10_3 (ji47)).f2, (⟨(rd_T28 x10_3 (ji47)).f3.f0, (rd_T28 x10_3 (ji47)).f3.f1⟩ : S26), (rd_T28 x10_3 (ji47)).f4, (rd_T28 x10_3 (ji47)).f5⟩ : S28)) (wrap64 (x11_3 + 1))) = some r := by first | (rw [hy396]; with_reducible exact H) | (have H2_ := (Option.bind_some _ _).symm.trans H; rw [hy396]; with_reducible exact H2_) | (have H2_ := (Option.bind_some _ _).symm.trans H; with_reducible exact H2_) | with_reducible exact H | (rw [hy396]; exact H) | exact H
                    have Ny396 := Aside0.mk hy396
                    clear hy396
                    obtain ⟨y397, hy397⟩ : ∃ y_ : List (S28), y_ = (y396.set ((ji44) : Int).toNat (⟨(rd_T28 x10_3 (ji47)).f0, (⟨(rd_T28 x10_3 (ji47)).f1.f0, (rd_T28 x10_3 (ji47)).f1.f1, (rd_T28 x10_3 (ji47)).f1.f2⟩ : S24), (rd_T28 x10_3 (ji47)).f2, (⟨(rd_T28 x10_3 (ji47)).f3.f0, (rd_T28 x10_3 (ji47)).f3.f1⟩ : S26), (rd_T28 x10_3 (ji47)).f4, (rd_T28 x10_3 (ji47)).f5⟩ : S28)) := ⟨_, rfl⟩
                    replace H : (cenotaphlaw08_StoreOrders.l2 k3 l1 x5_1 y397 (wrap64 (x11_3 + 1))) = some r := by first | (rw [hy397]; with_reducible exact H) | (have H2_ := (Option.bind_some _ _).symm.trans H; rw [hy397]; with_reducible exact H2_) | (have H2_ := (Option.bind_some _ _).symm.trans H; with_reducible exact H2_) | with_reducible exact H | (rw [hy397]; exact H) | exact H
                    have Ny397 := Aside0.mk hy397
                    clear hy397
                    have H' := Aside0.mk H
                    clear H
                    obtain ⟨Ao52, co52, eo52⟩ := Kd.R_slice HO_10.out
                    subst eo52
                    try go_wp2
                    replace HO_5 := Aside0.mk (Kd.R_drew HO_5.out)
                    replace HO_10 := Aside0.mk (Kd.R_drew HO_10.out)
                    replace HB := Aside0.mk (below_drew1 HB.out)
                    have p393 : 0 ≤ (x11_3 : Int) := of_decide_eq_true zq4_11
                    have q393 : x11_3 < (l1.length : Int) := of_decide_eq_true zq4_11
                    obtain ⟨ad393, e393, hx393_0⟩ := Kd.at_int HR1.out x11_3 p393 q393
                    have hw393_0 := hx393_0
                    cases e393
                    replace hx393_0 := (HB.out.cell (World.block_lt_of_cell? w _ hx393_0)).trans hx393_0
                    replace p393 := eq_true p393
                    replace q393 := eq_true q393
                    refine start_ (n := 16) (S := fun w' => w'.cell? (ad393.add (x11_3).toNat) = some (.int .i64 (rd l1 x11_3))) (ds := []) #[bF4, bF4, bF4, bF4, bF4, bF4, bF4, bF4, bF4, bF4, bF4, bF4, bF4, bF4, bF4, bF4] (by kernel_rfl) rfl rfl (((HB.out.cell (World.block_lt_of_cell? w _ hw393_0)).trans hw393_0)) (fun hHeld => ?_); refine with_tabW cenotaphlaw08_StoreOrders.tab19 cenotaphlaw08_StoreOrders.bits19 (fun HT_ HW_ => ?_)
                    generalize wr.drew = w53 at HO_5 HO_10 HB hx393_0 hHeld ⊢
                    refine p_ 0 96 (mk_ 16 0x1) ?_
                    refine p_ 1 97 (mk_ 16 0x3) ?_
                    refine p_ 2 98 (mk_ 16 0x7) ?_
                    refine p_ 3 99 (mk_ 16 0xf) ?_
                    refine p_ 4 100 (mk_ 16 0x1f) ?_
                    refine p_ 5 101 (mk_ 16 0x3f) ?_
                    refine p_ 6 102 (mk_ 16 0x7f) ?_
                    refine p_ 9 105 (mk_ 16 0x27f) ?_
                    refine p_ 10 106 (mk_ 16 0x67f) ?_
                    refine p_ 11 107 (mk_ 16 0xe7f) ?_
                    refine p_ 14 12 (mk_ 16 0x4e7f) ?_
                    refine take_ (i := 7) (N := some 103) (v := ?_) (a' := ?_) #[bT4, bT4, bT4, bT4, bT4, bT4, bT4, bT4, bF4, bT4, bT4, bT4, bF4, bF4, bT4, bF4] rfl rfl (take_ofW HT_.out HW_.out (by kernel_rfl)) (fun _ _ _ h => h) (Or.inl ⟨by rfl, ?_⟩) hHeld ?_ ?_
                    rotate_left
                    ·intro w' s0
                     go_simp
                     with_reducible rfl
                    rotate_left
                    ·simp only [Act.put, List.setIfInBounds_toArray, List.set_cons_zero, List.set_cons_succ, i64_w, i32_w]
                     rfl
                    refine p_ 8 104 (mk_ 16 0x4fff) ?_
                    refine p_ 12 108 (mk_ 16 0x5fff) ?_
                    refine p_ 13 109 (mk_ 16 0x7fff) ?_
                    refine p_ 15 13 (mk_ 16 0xffff) ?_
                    refine done_ (done_of HT_.out (by kernel_rfl)) ?_
                    try go_wp2
                    replace HO_5 := Aside0.mk (Kd.R_drew HO_5.out)
                    replace HO_10 := Aside0.mk (Kd.R_drew HO_10.out)
                    replace HB := Aside0.mk (below_drew1 HB.out)
                    have p394 : 0 ≤ ((ji44) : Int) := of_decide_eq_true zq4_11
                    have q394 : (ji44) < (x10_3.length : Int) := of_decide_eq_true zq4_11
                    obtain ⟨ad394, e394, hx394_0, hx394_1, hx394_2, hx394_3, hx394_4, hx394_5, hx394_6, hx394_7, hx394_8⟩ := at_T28 (Kd.R_reads' HO_10.out).2.2 (ji44) p394 q394
                    cases e394
                    replace p394 := eq_true p394
                    replace q394 := eq_true q394
                    have p395 : 0 ≤ ((ji47) : Int) := of_decide_eq_true zq4_11
                    have q395 : (ji47) < (x10_3.length : Int) := of_decide_eq_true zq4_11
                    obtain ⟨ad395, e395, hx395_0, hx395_1, hx395_2, hx395_3, hx395_4, hx395_5, hx395_6, hx395_7, hx395_8⟩ := at_T28 (Kd.R_reads' HO_10.out).2.2 (ji47) p395 q395
                    obtain rfl : ad394 = ad395 := (by injection e395)
                    replace p395 := eq_true p395
                    replace q395 := eq_true q395
                    have p50 : 0 ≤ ((ji47) : Int) := of_decide_eq_true zq4_11
                    have q50 : ((ji47) : Int) < ((x10_3.length : Int) : Int) := of_decide_eq_true zq4_11
                    obtain ⟨go50, co50, eo50, gb50, gl50, cl50, HG50⟩ := Kd.R_form HO_10.out (by omega)
                    (first | cases eo50 | (injection eo50 with ea_ en_ ec_; (first | subst ea_ | (injection ea_ with ea_; subst ea_)); subst ec_; clear en_))
                    have GB50 := Aside0.mk gb50
                    have GG50 := Aside0.mk HG50
                    clear gb50 gl50 HG50
                    (first | simp only [add_plain] at hx394_0 | skip)
                    (first | simp only [add_plain] at hx394_1 | skip)
                    (first | simp only [add_plain] at hx394_2 | skip)
                    (first | simp only [add_plain] at hx394_3 | skip)
                    (first | simp only [add_plain] at hx394_4 | skip)
                    (first | simp only [add_plain] at hx394_5 | skip)
                    (first | simp only [add_plain] at hx394_6 | skip)
                    (first | simp only [add_plain] at hx394_7 | skip)
                    (first | simp only [add_plain] at hx394_8 | skip)
                    (first | simp only [add_plain] at hx395_0 | skip)
                    (first | simp only [add_plain] at hx395_1 | skip)
                    (first | simp only [add_plain] at hx395_2 | skip)
                    (first | simp only [add_plain] at hx395_3 | skip)
                    (first | simp only [add_plain] at hx395_4 | skip)
                    (first | simp only [add_plain] at hx395_5 | skip)
                    (first | simp only [add_plain] at hx395_6 | skip)
                    (first | simp only [add_plain] at hx395_7 | skip)
                    (first | simp only [add_plain] at hx395_8 | skip)
                    obtain ⟨ce50, hcl50, hM50, hcc50, hfr50⟩ := Kd.R_elem HO_10.out z28 ((ji47) : Int) p50 q50
                    obtain rfl := k28_openM hM50
                    have hx50_0 : World.cell? _ ⟨go50, ((ji47) : Int).toNat * 9, none⟩ = some (.int .i64 ((rd_T28 x10_3 (ji47)).f0)) := hcc50 0 _ rfl
                    have hx50_1 : World.cell? _ ⟨go50, ((ji47) : Int).toNat * 9 + 1, none⟩ = some (.string ((rd_T28 x10_3 (ji47)).f1.f0)) := hcc50 1 _ rfl
                    have hx50_2 : World.cell? _ ⟨go50, ((ji47) : Int).toNat * 9 + 2, none⟩ = some (.int .i64 ((rd_T28 x10_3 (ji47)).f1.f1)) := hcc50 2 _ rfl
                    have hx50_3 : World.cell? _ ⟨go50, ((ji47) : Int).toNat * 9 + 3, none⟩ = some (.int .i64 ((rd_T28 x10_3 (ji47)).f1.f2)) := hcc50 3 _ rfl
                    have hx50_4 : World.cell? _ ⟨go50, ((ji47) : Int).toNat * 9 + 4, none⟩ = some (.bool ((rd_T28 x10_3 (ji47)).f2)) := hcc50 4 _ rfl
                    have hx50_5 : World.cell? _ ⟨go50, ((ji47) : Int).toNat * 9 + 5, none⟩ = some (.int .i64 ((rd_T28 x10_3 (ji47)).f3.f0)) := hcc50 5 _ rfl
                    have hx50_6 : World.cell? _ ⟨go50, ((ji47) : Int).toNat * 9 + 6, none⟩ = some (.int .i64 ((rd_T28 x10_3 (ji47)).f3.f1)) := hcc50 6 _ rfl
                    have hx50_7 : World.cell? _ ⟨go50, ((ji47) : Int).toNat * 9 + 7, none⟩ = some (.string ((rd_T28 x10_3 (ji47)).f4)) := hcc50 7 _ rfl
                    have hx50_8 : World.cell? _ ⟨go50, ((ji47) : Int).toNat * 9 + 8, none⟩ = some (.bool ((rd_T28 x10_3 (ji47)).f5)) := hcc50 8 _ rfl
                    have hf50_0 : World.frozen? _ ⟨go50, ((ji47) : Int).toNat * 9, none⟩ = false := hfr50 0
                    have hf50_1 : World.frozen? _ ⟨go50, ((ji47) : Int).toNat * 9 + 1, none⟩ = false := hfr50 1
                    have hf50_2 : World.frozen? _ ⟨go50, ((ji47) : Int).toNat * 9 + 2, none⟩ = false := hfr50 2
                    have hf50_3 : World.frozen? _ ⟨go50, ((ji47) : Int).toNat * 9 + 3, none⟩ = false := hfr50 3
                    have hf50_4 : World.frozen? _ ⟨go50, ((ji47) : Int).toNat * 9 + 4, none⟩ = false := hfr50 4
                    have hf50_5 : World.frozen? _ ⟨go50, ((ji47) : Int).toNat * 9 + 5, none⟩ = false := hfr50 5
                    have hf50_6 : World.frozen? _ ⟨go50, ((ji47) : Int).toNat * 9 + 6, none⟩ = false := hfr50 6
                    have hf50_7 : World.frozen? _ ⟨go50, ((ji47) : Int).toNat * 9 + 7, none⟩ = false := hfr50 7
                    have hf50_8 : World.frozen? _ ⟨go50, ((ji47) : Int).toNat * 9 + 8, none⟩ = false := hfr50 8
                    clear hcl50 hcc50 hfr50 hM50
                    replace p50 := eq_true p50
                    replace q50 := eq_true q50
                    refine start_ (n := 16) (S := fun w' => w'.cell? ⟨go50, (((ji44)).toNat * 9), none⟩ = some (.int .i64 ((rd_T28 x10_3 (ji44)).f0)) ∧ w'.cell? ⟨go50, (((ji44)).toNat * 9) + 1, none⟩ = some (.string ((rd_T28 x10_3 (ji44)).f1.f0)) ∧ w'.cell? ⟨go50, (((ji44)).toNat * 9) + 2, none⟩ = some (.int .i64 ((rd_T28 x10_3 (ji44)).f1.f1)) ∧ w'.cell? ⟨go50, (((ji44)).toNat * 9) + 3, none⟩ = some (.int .i64 ((rd_T28 x10_3 (ji44)).f1.f2)) ∧ w'.cell? ⟨go50, (((ji44)).toNat * 9) + 4, none⟩ = some (.bool ((rd_T28 x10_3 (ji44)).f2)) ∧ w'.cell? ⟨go50, (((ji44)).toNat * 9) + 5, none⟩ = some (.int .i64 ((rd_T28 x10_3 (ji44)).f3.f0)) ∧ w'.cell? ⟨go50, (((ji44)).toNat * 9) + 6, none⟩ = some (.int .i64 ((rd_T28 x10_3 (ji44)).f3.f1)) ∧ w'.cell? ⟨go50, (((ji44)).toNat * 9) + 7, none⟩ = some (.string ((rd_T28 x10_3 (ji44)).f4)) ∧ w'.cell? ⟨go50, (((ji44)).toNat * 9) + 8, none⟩ = some (.bool ((rd_T28 x10_3 (ji44)).f5)) ∧ w'.cell? ⟨go50, (((ji47)).toNat * 9), none⟩ = some (.int .i64 ((rd_T28 x10_3 (ji47)).f0)) ∧ w'.cell? ⟨go50, (((ji47)).toNat * 9) + 1, none⟩ = some (.string ((rd_T28 x10_3 (ji47)).f1.f0)) ∧ w'.cell? ⟨go50, (((ji47)).toNat * 9) + 2, none⟩ = some (.int .i64 ((rd_T28 x10_3 (ji47)).f1.f1)) ∧ w'.cell? ⟨go50, (((ji47)).toNat * 9) + 3, none⟩ = some (.int .i64 ((rd_T28 x10_3 (ji47)).f1.f2)) ∧ w'.cell? ⟨go50, (((ji47)).toNat * 9) + 4, none⟩ = some (.bool ((rd_T28 x10_3 (ji47)).f2)) ∧ w'.cell? ⟨go50, (((ji47)).toNat * 9) + 5, none⟩ = some (.int .i64 ((rd_T28 x10_3 (ji47)).f3.f0)) ∧ w'.cell? ⟨go50, (((ji47)).toNat * 9) + 6, none⟩ = some (.int .i64 ((rd_T28 x10_3 (ji47)).f3.f1)) ∧ w'.cell? ⟨go50, (((ji47)).toNat * 9) + 7, none⟩ = some (.string ((rd_T28 x10_3 (ji47)).f4)) ∧ w'.cell? ⟨go50, (((ji47)).toNat * 9) + 8, none⟩ = some (.bool ((rd_T28 x10_3 (ji47)).f5))) (ds := [13, 15]) #[bF4, bF4, bF4, bF4, bF4, bF4, bF4, bF4, bF4, bF4, bF4, bF4, bF4, bF4, bF4, bF4] (by kernel_rfl) rfl rfl ⟨hx394_0, hx394_1, hx394_2, hx394_3, hx394_4, hx394_5, hx394_6, hx394_7, hx394_8, hx395_0, hx395_1, hx395_2, hx395_3, hx395_4, hx395_5, hx395_6, hx395_7, hx395_8⟩ (fun hHeld => ?_); refine with_tabW cenotaphlaw08_StoreOrders.tab20 cenotaphlaw08_StoreOrders.bits20 (fun HT_ HW_ => ?_)
                    generalize w53.drew = w54 at HO_5 HO_10 HB GG50 hf50_0 hf50_1 hf50_2 hf50_3 hf50_4 hf50_5 hf50_6 hf50_7 hf50_8 hx394_0 hx394_1 hx394_2 hx394_3 hx394_4 hx394_5 hx394_6 hx394_7 hx394_8 hx395_0 hx395_1 hx395_2 hx395_3 hx395_4 hx395_5 hx395_6 hx395_7 hx395_8 hx50_0 hx50_1 hx50_2 hx50_3 hx50_4 hx50_5 hx50_6 hx50_7 hx50_8 hHeld ⊢
                    refine p_ 0 110 (mk_ 16 0x1) ?_
                    refine p_ 1 111 (mk_ 16 0x3) ?_
                    refine p_ 2 112 (mk_ 16 0x7) ?_
                    refine p_ 3 113 (mk_ 16 0xf) ?_
                    refine p_ 4 114 (mk_ 16 0x1f) ?_
                    refine p_ 5 115 (mk_ 16 0x3f) ?_
                    refine p_ 6 116 (mk_ 16 0x7f) ?_
                    refine p_ 8 118 (mk_ 16 0x17f) ?_
                    refine p_ 9 119 (mk_ 16 0x37f) ?_
                    refine p_ 10 120 (mk_ 16 0x77f) ?_
                    refine t_ 7 117 (mk_ 16 0x7ff) hHeld ?_
                    refine t_ 11 121 (mk_ 16 0xfff) hHeld ?_
                    refine p_ 12 122 (mk_ 16 0x1fff) ?_
                    refine last_ (i := 13) (N := none) #[bT4, bT4, bT4, bT4, bT4, bT4, bT4, bT4, bT4, bT4, bT4, bT4, bT4, bT4, bF4, bF4] rfl rfl (one_of HT_.out (by kernel_rfl)) (by decide) (fun K hK => ?_)
                    refine ev_ (p := ?p55) (x := ?x55) (o' := ?o55) k28 z28 28 ((ji47) : Int) (⟨(rd_T28 x10_3 (ji44)).f0, (⟨(rd_T28 x10_3 (ji44)).f1.f0, (rd_T28 x10_3 (ji44)).f1.f1, (rd_T28 x10_3 (ji44)).f1.f2⟩ : S24), (rd_T28 x10_3 (ji44)).f2, (⟨(rd_T28 x10_3 (ji44)).f3.f0, (rd_T28 x10_3 (ji44)).f3.f1⟩ : S26), (rd_T28 x10_3 (ji44)).f4, (rd_T28 x10_3 (ji44)).f5⟩ : S28) #[.int .i64 ((rd_T28 x10_3 (ji44)).f0), .string ((rd_T28 x10_3 (ji44)).f1.f0), .int .i64 ((rd_T28 x10_3 (ji44)).f1.f1), .int .i64 ((rd_T28 x10_3 (ji44)).f1.f2), .bool ((rd_T28 x10_3 (ji44)).f2), .int .i64 ((rd_T28 x10_3 (ji44)).f3.f0), .int .i64 ((rd_T28 x10_3 (ji44)).f3.f1), .string ((rd_T28 x10_3 (ji44)).f4), .bool ((rd_T28 x10_3 (ji44)).f5)] HO_10.out HB.out (of_decide_eq_true zq4_11) (by have h_ : ((ji47) : Int) < ((x10_3.length : Int) : Int) := of_decide_eq_true zq4_11; first | exact h_ | (have e_ := (Kd.R_reads' HO_10.out).1; omega) | simpa using h_) (k28_mkM _ _ _ (⟨(rd_T28 x10_3 (ji44)).f0, (⟨(rd_T28 x10_3 (ji44)).f1.f0, (rd_T28 x10_3 (ji44)).f1.f1, (rd_T28 x10_3 (ji44)).f1.f2⟩ : S24), (rd_T28 x10_3 (ji44)).f2, (⟨(rd_T28 x10_3 (ji44)).f3.f0, (rd_T28 x10_3 (ji44)).f3.f1⟩ : S26), (rd_T28 x10_3 (ji44)).f4, (rd_T28 x10_3 (ji44)).f5⟩ : S28) ) (fun _ hk => hk) rfl rfl (by kernel_rfl) ?hw55 ?hN55 ?ho55 ?ha55 ?hf55 ?hx55 ?_; (case hw55 => rfl); (case hN55 => rfl); (case ho55 => rfl); (case ha55 => rfl); (case hf55 => rfl); (case hx55 => rfl)
                    intro w55_ HS55_ HT55_ HG55_
                    rw [← Ny396.out] at HS55_
                    have nHO_5 := Aside0.mk (Kd.R_grown HO_5.out HG55_ (fun k_ hk e_ => by first | exact hk e_ | exact hk.1 e_ | exact hk.2 e_))
                    clear HO_5
                    have HO_5 := nHO_5
                    clear nHO_5 HO_10 HB
                    have HO_10 := Aside0.mk HS55_
                    have HB := Aside0.mk HT55_
                    clear HS55_ HT55_ HG55_
                    refine hK.out _ _ ?_
                    clear hK K
                    refine p_ 14 123 (mk_ 16 0x7fff) ?_
                    refine last_ (i := 15) (N := none) #[bT4, bT4, bT4, bT4, bT4, bT4, bT4, bT4, bT4, bT4, bT4, bT4, bT4, bT4, bT4, bT4] rfl rfl (one_of HT_.out (by kernel_rfl)) (by decide) (fun K hK => ?_)
                    refine ev_ (p := ?p56) (x := ?x56) (o' := ?o56) k28 z28 28 ((ji44) : Int) (⟨(rd_T28 x10_3 (ji47)).f0, (⟨(rd_T28 x10_3 (ji47)).f1.f0, (rd_T28 x10_3 (ji47)).f1.f1, (rd_T28 x10_3 (ji47)).f1.f2⟩ : S24), (rd_T28 x10_3 (ji47)).f2, (⟨(rd_T28 x10_3 (ji47)).f3.f0, (rd_T28 x10_3 (ji47)).f3.f1⟩ : S26), (rd_T28 x10_3 (ji47)).f4, (rd_T28 x10_3 (ji47)).f5⟩ : S28) #[.int .i64 ((rd_T28 x10_3 (ji47)).f0), .string ((rd_T28 x10_3 (ji47)).f1.f0), .int .i64 ((rd_T28 x10_3 (ji47)).f1.f1), .int .i64 ((rd_T28 x10_3 (ji47)).f1.f2), .bool ((rd_T28 x10_3 (ji47)).f2), .int .i64 ((rd_T28 x10_3 (ji47)).f3.f0), .int .i64 ((rd_T28 x10_3 (ji47)).f3.f1), .string ((rd_T28 x10_3 (ji47)).f4), .bool ((rd_T28 x10_3 (ji47)).f5)] HO_10.out HB.out (of_decide_eq_true zq4_11) (by have h_ : ((ji44) : Int) < ((x10_3.length : Int) : Int) := of_decide_eq_true zq4_11; first | exact h_ | (have e_ := (Kd.R_reads' HO_10.out).1; omega) | simpa using h_) (k28_mkM _ _ _ (⟨(rd_T28 x10_3 (ji47)).f0, (⟨(rd_T28 x10_3 (ji47)).f1.f0, (rd_T28 x10_3 (ji47)).f1.f1, (rd_T28 x10_3 (ji47)).f1.f2⟩ : S24), (rd_T28 x10_3 (ji47)).f2, (⟨(rd_T28 x10_3 (ji47)).f3.f0, (rd_T28 x10_3 (ji47)).f3.f1⟩ : S26), (rd_T28 x10_3 (ji47)).f4, (rd_T28 x10_3 (ji47)).f5⟩ : S28) ) (fun _ hk => hk) rfl rfl (by kernel_rfl) ?hw56 ?hN56 ?ho56 ?ha56 ?hf56 ?hx56 ?_; (case hw56 => rfl); (case hN56 => rfl); (case ho56 => rfl); (case ha56 => rfl); (case hf56 => rfl); (case hx56 => rfl)
                    intro w56_ HS56_ HT56_ HG56_
                    rw [← Ny397.out] at HS56_
                    have nHO_5 := Aside0.mk (Kd.R_grown HO_5.out HG56_ (fun k_ hk e_ => by first | exact hk e_ | exact hk.1 e_ | exact hk.2 e_))
                    clear HO_5
                    have HO_5 := nHO_5
                    clear nHO_5 HO_10 HB
                    have HO_10 := Aside0.mk HS56_
                    have HB := Aside0.mk HT56_
                    clear HS56_ HT56_ HG56_
                    refine hK.out _ _ ?_
                    clear hK K
                    refine done_ (done_of HT_.out (by kernel_rfl)) ?_
                    try go_wp2
                    go_roundg k3
                    case measure => have := HK1.out; have := HJ2.out; have := HK3.out; omega
                    case rel => exact ⟨(y397), (wrap64 (x11_3 + 1)), zq4_12, H', ⟨by have := HK1.out; have := HJ2.out; have := HK3.out; omega⟩, ⟨by (with_reducible repeat (first | apply Kd.R_alloc | apply Kd.R_drewN | apply Kd.R_drew)); exact HO_5.out⟩, ⟨by (with_reducible repeat (first | apply Kd.R_alloc | apply Kd.R_drewN | apply Kd.R_drew)); exact HO_10.out⟩, ⟨by repeat (first | (with_reducible first | exact HB.out | apply below_alloc | apply pw_below_drewN | apply below_drew1 | refine below_set ?_ GB50.out | refine below_set ?_ GB50.out | refine below_set ?_ GB50.out | refine below_set ?_ GB50.out | refine below_set ?_ GB50.out | refine below_set ?_ GB50.out | refine below_set ?_ GB50.out | refine below_set ?_ GB50.out | refine below_set ?_ GB50.out | refine below_set ?_ GB50.out | refine below_set ?_ GB50.out | refine below_set ?_ GB50.out | refine below_set ?_ GB50.out | refine below_set ?_ GB50.out | refine below_set ?_ GB50.out | refine below_set ?_ GB50.out | refine below_set ?_ GB50.out | refine below_set ?_ GB50.out) | exact HB.out)⟩⟩
                   ·rw [if_neg c49] at H
                    exact absurd H (by simp)
                  ·rw [if_neg c48] at H
                   exact absurd H (by simp)
                 ·rw [if_neg c46] at H
                  exact absurd H (by simp)
                ·rw [if_neg c45] at H
                 exact absurd H (by simp)
              ·rw [if_neg c42] at H
               exact absurd H (by simp)
            ·rw [if_neg c40] at H
             have c40b0 : decide (x11_3 < 40) = false := decide_eq_false c40
             clear c40
             have H' := Aside0.mk H
             clear H
             obtain ⟨Ao57, co57, eo57⟩ := Kd.R_slice HO_10.out
             subst eo57
             go_wp2
             go_meet
             case rel => exact ⟨_, (x10_3), H', ⟨by have := HK1.out; have := HJ2.out; have := HK3.out; first | omega | exact Nat.le_refl _⟩, ⟨by (with_reducible repeat (first | apply Kd.R_alloc | apply Kd.R_drewN | apply Kd.R_drew)); exact HO_5.out⟩, ⟨by (with_reducible repeat (first | apply Kd.R_alloc | apply Kd.R_drewN | apply Kd.R_drew)); exact HO_10.out⟩, ⟨by repeat (first | (with_reducible first | exact HB.out | apply below_alloc | apply pw_below_drewN | apply below_drew1) | exact HB.out)⟩⟩
           ·rw [if_neg c39] at H
            have c39b0 : decide (1 < (x10_3.length : Int)) = false := decide_eq_false c39
            have c39b1 : decide (1 < x10_3.length) = false := decide_eq_false (by omega)
            clear c39
            have H' := Aside0.mk H
            clear H
            obtain ⟨Ao58, co58, eo58⟩ := Kd.R_slice HO_10.out
            subst eo58
            go_wp2
            go_meet
            case rel => exact ⟨_, (x10_3), H', ⟨by have := HK1.out; have := HJ2.out; have := HK3.out; first | omega | exact Nat.le_refl _⟩, ⟨by (with_reducible repeat (first | apply Kd.R_alloc | apply Kd.R_drewN | apply Kd.R_drew)); exact HO_5.out⟩, ⟨by (with_reducible repeat (first | apply Kd.R_alloc | apply Kd.R_drewN | apply Kd.R_drew)); exact HO_10.out⟩, ⟨by repeat (first | (with_reducible first | exact HB.out | apply below_alloc | apply pw_below_drewN | apply below_drew1) | exact HB.out)⟩⟩
          ·rw [if_neg c38] at H
           have c38b0 : decide (x11_3 < (l1.length : Int)) = false := decide_eq_false c38
           clear c38
           (first | rw [c38b0] | (simp only [i64_w, i32_w]; rw [c38b0]) | skip)
           have H' := Aside0.mk H
           clear H
           go_wp2
           go_meet
           case rel => exact ⟨_, (x10_3), H', ⟨by have := HK1.out; have := HJ2.out; have := HK3.out; first | omega | exact Nat.le_refl _⟩, ⟨by (with_reducible repeat (first | apply Kd.R_alloc | apply Kd.R_drewN | apply Kd.R_drew)); exact HO_5.out⟩, ⟨by (with_reducible repeat (first | apply Kd.R_alloc | apply Kd.R_drewN | apply Kd.R_drew)); exact HO_10.out⟩, ⟨by repeat (first | (with_reducible first | exact HB.out | apply below_alloc | apply pw_below_drewN | apply below_drew1) | exact HB.out)⟩⟩
       case rest =>
        clear HC33
        (try clear p2); (try clear c3); (try clear p3); (try clear q3); (try clear hx3); (try clear c4); (try clear c5); (try clear p5); (try clear q5); (try clear hx5); (try clear hf5); (try clear p6); (try clear p36); (try clear q36); (try clear hx36); (try clear p37); (try clear q37); (try clear hx37); (try clear c38); (try clear c38b0); (try clear c39); (try clear c39b0); (try clear c39b1); (try clear p39); (try clear q39); (try clear hx39); (try clear c40); (try clear c40b0); (try clear c41); (try clear c41b0); (try clear c41b1); (try clear c41b2); (try clear c42); (try clear c42b0); (try clear c43); (try clear c43b0); (try clear c43b1); (try clear c45); (try clear c45b0); (try clear c46); (try clear c46b0); (try clear c48); (try clear c48b0); (try clear c49); (try clear c49b0); (try clear c50); (try clear p50); (try clear q50); (try clear hx50); (try clear hf50); (try clear c51); (try clear p51); (try clear q51); (try clear hx51); (try clear hf51); (try clear c55); (try clear c56); (try clear hcz30_5); (try clear hcz30_6); (try clear hcz30_7); (try clear hcz30_8); (try clear hfz11_0); (try clear hfz11_1); (try clear hfz11_2); (try clear hfz11_3); (try clear hfz11_4); (try clear hfz11_5); (try clear hfz11_6); (try clear hfz11_7); (try clear hfz11_8); (try clear hfz23_0); (try clear hfz23_1); (try clear hfz23_2); (try clear hfz23_3); (try clear hfz23_4); (try clear hfz23_5); (try clear hfz23_6); (try clear hfz23_7); (try clear hfz23_8); (try clear hfz25_0); (try clear hfz25_1); (try clear hfz25_2); (try clear hfz25_3); (try clear hfz25_4); (try clear hfz25_5); (try clear hfz25_6); (try clear hfz25_7); (try clear hfz25_8); (try clear hfz27_0); (try clear hfz27_1); (try clear hfz27_2); (try clear hfz27_3); (try clear hfz27_4); (try clear hfz27_5); (try clear hfz27_6); (try clear hfz27_7); (try clear hfz27_8); (try clear hfz30_0); (try clear hfz30_1); (try clear hfz30_2); (try clear hfz30_3); (try clear hfz30_4); (try clear hfz30_5); (try clear hfz30_6); (try clear hfz30_7); (try clear hfz30_8); (try clear hx361_0); (try clear hx361_1); (try clear hx361_2); (try clear hx361_3); (try clear hx361_4); (try clear hx361_5); (try clear hx361_6); (try clear hx361_7); (try clear hx361_8); (try clear hx375_0); (try clear hx375_1); (try clear hx375_2); (try clear hx375_3); (try clear hx375_4); (try clear hx375_5); (try clear hx375_6); (try clear hx375_7); (try clear hx375_8); (try clear hx376_0); (try clear hx376_1); (try clear hx376_2); (try clear hx376_3); (try clear hx376_4); (try clear hx376_5); (try clear hx376_6); (try clear hx376_7); (try clear hx376_8); (try clear hx377_0); (try clear hx377_1); (try clear hx377_2); (try clear hx377_3); (try clear hx377_4); (try clear hx377_5); (try clear hx377_6); (try clear hx377_7); (try clear hx377_8); (try clear hx393_0); (try clear hx394_0); (try clear hx394_1); (try clear hx394_2); (try clear hx394_3); (try clear hx394_4); (try clear hx394_5); (try clear hx394_6); (try clear hx394_7); (try clear hx394_8); (try clear hx395_0); (try clear hx395_1); (try clear hx395_2); (try clear hx395_3); (try clear hx395_4); (try clear hx395_5); (try clear hx395_6); (try clear hx395_7); (try clear hx395_8); (try clear hx50_0); (try clear hx50_1); (try clear hx50_2); (try clear hx50_3); (try clear hx50_4); (try clear hx50_5); (try clear hx50_6); (try clear hx50_7); (try clear hx50_8); (try clear hx51_0); (try clear hx51_1); (try clear hx51_2); (try clear hx51_3); (try clear hx51_4); (try clear hx51_5); (try clear hx51_6); (try clear hx51_7); (try clear hx51_8); (try clear p2); (try clear p3); (try clear p361); (try clear p375); (try clear p376); (try clear p377); (try clear p393); (try clear p394); (try clear p395); (try clear p50); (try clear p51); (try clear q3); (try clear q361); (try clear q375); (try clear q376); (try clear q377); (try clear q393); (try clear q394); (try clear q395); (try clear q50); (try clear q51)
        obtain ⟨kq, x10_32, HA, HJ32, HO_5, HO_10, HB⟩ := hcut
        cases kq with
        | zero => exact absurd HA.out (by simp [cenotaphlaw08_StoreOrders.j5])
        | succ kj32 =>
         have H := HA.out
         clear HA
         simp only [cenotaphlaw08_StoreOrders.j5] at H
         have H' := Aside0.mk H
         clear H
         go_wp2
         go_loopg [14, 15, 16] kj32 (fun kq v14 v15 v16 w' => ∃ (x14_4 : List (S41)) (x15_4 : List (S41)) (x16_4 : Int), v16 = .int .i64 x16_4 ∧ Aside0 (cenotaphlaw08_StoreOrders.l3 kq x5_1 x10_32 x14_4 x15_4 x16_4 = some r) ∧ Aside0 (kq ≤ kj32) ∧ Aside0 (Kd.R k28 28 w' w.heap.size (fun k_ => some k_ ≠ (v391 : Value).ownBlock) (.slice Ao37 x5_1.length co37) x5_1) ∧ Aside0 (Kd.R k28 28 w' w.heap.size (fun k_ => some k_ ≠ ((.slice Ao37 x5_1.length co37) : Value).ownBlock) v391 x10_32) ∧ Aside0 (Kd.R k41 41 w' w.heap.size (fun k_ => some k_ ≠ (v15 : Value).ownBlock) v14 x14_4) ∧ Aside0 (Kd.R k41 41 w' w.heap.size (fun k_ => some k_ ≠ (v14 : Value).ownBlock) v15 x15_4) ∧ Aside0 (Below w.heap.size w w'))
         case atStart => exact ⟨(([] : List (S41))), (([] : List (S41))), (0), zq4_12, H', ⟨Nat.le_refl _⟩, ⟨by (with_reducible repeat (first | apply Kd.R_alloc | apply Kd.R_drewN | apply Kd.R_drew)); exact HO_5.out⟩, ⟨by (with_reducible repeat (first | apply Kd.R_alloc | apply Kd.R_drewN | apply Kd.R_drew)); exact HO_10.out⟩, ⟨by first | exact Kd.R_nil _ _ _ _ _ | exact Kd.N_nil _ _ _ _ _ | exact Kd.V_nil _ _ _ _ _ | exact Kd.Q_nil _ _ _ _ _ | exact Kd.S_nil _ _ _ _ _⟩, ⟨by first | exact Kd.R_nil _ _ _ _ _ | exact Kd.N_nil _ _ _ _ _ | exact Kd.V_nil _ _ _ _ _ | exact Kd.Q_nil _ _ _ _ _ | exact Kd.S_nil _ _ _ _ _⟩, ⟨by repeat (first | (with_reducible first | exact HB.out | apply below_alloc | apply pw_below_drewN | apply below_drew1) | exact HB.out)⟩⟩
         case round =>
          clear H'
          (try clear p2); (try clear c3); (try clear p3); (try clear q3); (try clear hx3); (try clear c4); (try clear c5); (try clear p5); (try clear q5); (try clear hx5); (try clear hf5); (try clear p6); (try clear p36); (try clear q36); (try clear hx36); (try clear p37); (try clear q37); (try clear hx37); (try clear c38); (try clear c38b0); (try clear c39); (try clear c39b0); (try clear c39b1); (try clear p39); (try clear q39); (try clear hx39); (try clear c40); (try clear c40b0); (try clear c41); (try clear c41b0); (try clear c41b1); (try clear c41b2); (try clear c42); (try clear c42b0); (try clear c43); (try clear c43b0); (try clear c43b1); (try clear c45); (try clear c45b0); (try clear c46); (try clear c46b0); (try clear c48); (try clear c48b0); (try clear c49); (try clear c49b0); (try clear c50); (try clear p50); (try clear q50); (try clear hx50); (try clear hf50); (try clear c51); (try clear p51); (try clear q51); (try clear hx51); (try clear hf51); (try clear c55); (try clear c56); (try clear hcz30_5); (try clear hcz30_6); (try clear hcz30_7); (try clear hcz30_8); (try clear hfz11_0); (try clear hfz11_1); (try clear hfz11_2); (try clear hfz11_3); (try clear hfz11_4); (try clear hfz11_5); (try clear hfz11_6); (try clear hfz11_7); (try clear hfz11_8); (try clear hfz23_0); (try clear hfz23_1); (try clear hfz23_2); (try clear hfz23_3); (try clear hfz23_4); (try clear hfz23_5); (try clear hfz23_6); (try clear hfz23_7); (try clear hfz23_8); (try clear hfz25_0); (try clear hfz25_1); (try clear hfz25_2); (try clear hfz25_3); (try clear hfz25_4); (try clear hfz25_5); (try clear hfz25_6); (try clear hfz25_7); (try clear hfz25_8); (try clear hfz27_0); (try clear hfz27_1); (try clear hfz27_2); (try clear hfz27_3); (try clear hfz27_4); (try clear hfz27_5); (try clear hfz27_6); (try clear hfz27_7); (try clear hfz27_8); (try clear hfz30_0); (try clear hfz30_1); (try clear hfz30_2); (try clear hfz30_3); (try clear hfz30_4); (try clear hfz30_5); (try clear hfz30_6); (try clear hfz30_7); (try clear hfz30_8); (try clear hx361_0); (try clear hx361_1); (try clear hx361_2); (try clear hx361_3); (try clear hx361_4); (try clear hx361_5); (try clear hx361_6); (try clear hx361_7); (try clear hx361_8); (try clear hx375_0); (try clear hx375_1); (try clear hx375_2); (try clear hx375_3); (try clear hx375_4); (try clear hx375_5); (try clear hx375_6); (try clear hx375_7); (try clear hx375_8); (try clear hx376_0); (try clear hx376_1); (try clear hx376_2); (try clear hx376_3); (try clear hx376_4); (try clear hx376_5); (try clear hx376_6); (try clear hx376_7); (try clear hx376_8); (try clear hx377_0); (try clear hx377_1); (try clear hx377_2); (try clear hx377_3); (try clear hx377_4); (try clear hx377_5); (try clear hx377_6); (try clear hx377_7); (try clear hx377_8); (try clear hx393_0); (try clear hx394_0); (try clear hx394_1); (try clear hx394_2); (try clear hx394_3); (try clear hx394_4); (try clear hx394_5); (try clear hx394_6); (try clear hx394_7); (try clear hx394_8); (try clear hx395_0); (try clear hx395_1); (try clear hx395_2); (try clear hx395_3); (try clear hx395_4); (try clear hx395_5); (try clear hx395_6); (try clear hx395_7); (try clear hx395_8); (try clear hx50_0); (try clear hx50_1); (try clear hx50_2); (try clear hx50_3); (try clear hx50_4); (try clear hx50_5); (try clear hx50_6); (try clear hx50_7); (try clear hx50_8); (try clear hx51_0); (try clear hx51_1); (try clear hx51_2); (try clear hx51_3); (try clear hx51_4); (try clear hx51_5); (try clear hx51_6); (try clear hx51_7); (try clear hx51_8); (try clear p2); (try clear p3); (try clear p36); (try clear p361); (try clear p37); (try clear p375); (try clear p376); (try clear p377); (try clear p39); (try clear p393); (try clear p394); (try clear p395); (try clear p5); (try clear p50); (try clear p51); (try clear p6); (try clear q3); (try clear q36); (try clear q361); (try clear q37); (try clear q375); (try clear q376); (try clear q377); (try clear q39); (try clear q393); (try clear q394); (try clear q395); (try clear q5); (try clear q50); (try clear q51)
          obtain ⟨x14_4, x15_4, x16_4, rfl, HA, HK4, HO_5, HO_10, HO_14, HO_15, HB⟩ := hrel
          cases gk with
          | zero => exact absurd HA.out (by simp [cenotaphlaw08_StoreOrders.l3])
          | succ k4 =>
           have H := HA.out
           clear HA
           simp only [cenotaphlaw08_StoreOrders.l3] at H
           by_cases c59 : x16_4 < (x5_1.length : Int)
           ·rw [if_pos c59] at H
            have c59b0 : decide (x16_4 < (x5_1.length : Int)) = true := decide_eq_true c59
            clear c59
            by_cases c60 : 0 ≤ x16_4
            ·rw [if_pos c60] at H
             have c60b0 : decide (0 ≤ x16_4) = true := decide_eq_true c60
             clear c60
             replace H := Option.bind_eq_some_iff.mp H
             obtain ⟨⟨t399, t400, t401, t402, t403, t404, t405, t406⟩, A610, H⟩ := H
             try dsimp only at H
             have A61 := Aside0.mk A610
             clear A610
             replace H := Option.bind_eq_some_iff.mp H
             obtain ⟨⟨t407, t410⟩, A620, H⟩ := H
             try dsimp only at H
             have A62 := Aside0.mk A620
             clear A620
             by_cases c63 : x16_4 < (x10_32.length : Int)
             ·rw [if_pos c63] at H
              have c63b0 : decide (x16_4 < (x10_32.length : Int)) = true := decide_eq_true c63
              clear c63
              replace H := Option.bind_eq_some_iff.mp H
              obtain ⟨⟨t412, t413, t414, t415, t416, t417, t418, t419⟩, A640, H⟩ := H
              have A64 := Aside0.mk A640
              clear A640
              replace H := Option.bind_eq_some_iff.mp H
              obtain ⟨⟨t420, t423⟩, A650, H⟩ := H
              have A65 := Aside0.mk A650
              clear A650
              have H' := Aside0.mk H
              clear H
              have p398 : 0 ≤ (x16_4 : Int) := of_decide_eq_true zq4_11
              have q398 : x16_4 < (x5_1.length : Int) := of_decide_eq_true zq4_11
              obtain ⟨ad398, e398, hx398_0, hx398_1, hx398_2, hx398_3, hx398_4, hx398_5, hx398_6, hx398_7, hx398_8⟩ := at_T28 (Kd.R_reads' HO_5.out).2.2 x16_4 p398 q398
              cases e398
              replace p398 := eq_true p398
              replace q398 := eq_true q398
              go_wp2_with (first | ((with_reducible refine gate_callee (f := 12) rfl ?_); refine goesL_ (some 136) rfl rfl Try.func12 (by kernel_rfl) rfl #[.agg #[.int .i64 ((rd_T28 x5_1 x16_4).f0), .string ((rd_T28 x5_1 x16_4).f1.f0), .int .i64 ((rd_T28 x5_1 x16_4).f1.f1), .int .i64 ((rd_T28 x5_1 x16_4).f1.f2), .bool ((rd_T28 x5_1 x16_4).f2), .int .i64 ((rd_T28 x5_1 x16_4).f3.f0), .int .i64 ((rd_T28 x5_1 x16_4).f3.f1), .string ((rd_T28 x5_1 x16_4).f4), .bool ((rd_T28 x5_1 x16_4).f5)]] rfl zq4_3 ?_; (with_reducible refine (cenotaphlaw07_To.calls ((rd_T28 x5_1 x16_4).f0) ((rd_T28 x5_1 x16_4).f1.f0) ((rd_T28 x5_1 x16_4).f1.f1) ((rd_T28 x5_1 x16_4).f1.f2) ((rd_T28 x5_1 x16_4).f2) ((rd_T28 x5_1 x16_4).f3.f0) ((rd_T28 x5_1 x16_4).f3.f1) ((rd_T28 x5_1 x16_4).f4) ((rd_T28 x5_1 x16_4).f5) t399 t400 t401 t402 t403 t404 t405 t406 _ A61.out).mono ?_); rintro e w66 ⟨rfl, hb⟩; refine ⟨_, rfl, ?_⟩; replace HO_5 := Aside0.mk (Kd.R_below zq4_10 hb); replace HO_10 := Aside0.mk (Kd.R_below zq4_6 hb); replace HO_14 := Aside0.mk (Kd.R_below zq4_7 hb); replace HO_15 := Aside0.mk (Kd.R_below zq4_8 hb); replace HB := Aside0.mk (below_step zq4_4 hb); (try clear hb); (try clear hb2); (try clear hk); (try clear hi); obtain ⟨Ao67, co67, eo67⟩ := Kd.R_slice HO_14.out; subst eo67) | ((with_reducible refine gate_callee (f := 11) rfl ?_); refine goesL_ (some 137) rfl rfl Try.func11 (by kernel_rfl) rfl #[.slice Ao67 x14_4.length co67, .agg #[.int .i64 t399, .string t400, .int .i64 t401, .int .i64 t402, .bool t403, .complex .f64 t404.re t404.im, .string t405, .bool t406]] rfl zq4_3 ?_; (with_reducible refine (store_Put.calls _ _ x14_4 t399 t400 t401 t402 t403 t404 t405 t406 t407 t410 _ ?side1 ?side2 A62.out).mono ?_); (case side1 => repeat (first | exact (Kd.R_reads' HO_14.out).2.2 | (with_reducible refine Kd.C_alloc ?_ _) | (with_reducible refine Kd.C_drewN ?_ _) | (with_reducible refine Kd.C_drew ?_))); (case side2 => exact (Kd.R_reads' HO_14.out).2.1); rintro e w68 ⟨v408, rfl, ho0, hb⟩; refine ⟨_, rfl, ?_⟩; replace HO_5 := Aside0.mk (Kd.R_below zq4_10 hb); replace HO_10 := Aside0.mk (Kd.R_below zq4_6 hb); have HO409 := Aside0.mk (Kd.R_lower (Kd.R_new' (Kd.R_new' ho0 (Kd.R_lt zq4_7)) (Kd.R_lt zq4_8)) (below_size zq4_4)); replace HO_14 := Aside0.mk (Kd.R_elder' zq4_7 (Kd.R_base ho0) hb); replace HO_15 := Aside0.mk (Kd.R_elder' zq4_8 (Kd.R_base ho0) hb); replace HB := Aside0.mk (below_step zq4_4 hb); (try clear hb); (try clear hb2); (try clear hk); (try clear hi); (try clear ho0); obtain ⟨Ao69, co69, eo69⟩ := Kd.R_slice HO_10.out; subst eo69; have p411 : 0 ≤ (x16_4 : Int) := of_decide_eq_true zq4_11; have q411 : x16_4 < (x10_32.length : Int) := of_decide_eq_true zq4_11; obtain ⟨ad411, e411, hx411_0, hx411_1, hx411_2, hx411_3, hx411_4, hx411_5, hx411_6, hx411_7, hx411_8⟩ := at_T28 (Kd.R_reads' HO_10.out).2.2 x16_4 p411 q411; cases e411; replace p411 := eq_true p411; replace q411 := eq_true q411) | ((with_reducible refine gate_callee (f := 12) rfl ?_); refine goesL_ (some 146) rfl rfl Try.func12 (by kernel_rfl) rfl #[.agg #[.int .i64 ((rd_T28 x10_32 x16_4).f0), .string ((rd_T28 x10_32 x16_4).f1.f0), .int .i64 ((rd_T28 x10_32 x16_4).f1.f1), .int .i64 ((rd_T28 x10_32 x16_4).f1.f2), .bool ((rd_T28 x10_32 x16_4).f2), .int .i64 ((rd_T28 x10_32 x16_4).f3.f0), .int .i64 ((rd_T28 x10_32 x16_4).f3.f1), .string ((rd_T28 x10_32 x16_4).f4), .bool ((rd_T28 x10_32 x16_4).f5)]] rfl zq4_3 ?_; (with_reducible refine (cenotaphlaw07_To.calls ((rd_T28 x10_32 x16_4).f0) ((rd_T28 x10_32 x16_4).f1.f0) ((rd_T28 x10_32 x16_4).f1.f1) ((rd_T28 x10_32 x16_4).f1.f2) ((rd_T28 x10_32 x16_4).f2) ((rd_T28 x10_32 x16_4).f3.f0) ((rd_T28 x10_32 x16_4).f3.f1) ((rd_T28 x10_32 x16_4).f4) ((rd_T28 x10_32 x16_4).f5) t412 t413 t414 t415 t416 t417 t418 t419 _ A64.out).mono ?_); rintro e w70 ⟨rfl, hb⟩; refine ⟨_, rfl, ?_⟩; replace HO_5 := Aside0.mk (Kd.R_below zq4_10 hb); replace HO_10 := Aside0.mk (Kd.R_below zq4_6 hb); replace HO_14 := Aside0.mk (Kd.R_below zq4_7 hb); replace HO_15 := Aside0.mk (Kd.R_below zq4_8 hb); replace HO409 := Aside0.mk (Kd.R_below zq4_9 hb); replace HB := Aside0.mk (below_step zq4_4 hb); (try clear hb); (try clear hb2); (try clear hk); (try clear hi); obtain ⟨Ao71, co71, eo71⟩ := Kd.R_slice HO_15.out; subst eo71) | ((with_reducible refine gate_callee (f := 11) rfl ?_); refine goesL_ (some 147) rfl rfl Try.func11 (by kernel_rfl) rfl #[.slice Ao71 x15_4.length co71, .agg #[.int .i64 t412, .string t413, .int .i64 t414, .int .i64 t415, .bool t416, .complex .f64 t417.re t417.im, .string t418, .bool t419]] rfl zq4_3 ?_; (with_reducible refine (store_Put.calls _ _ x15_4 t412 t413 t414 t415 t416 t417 t418 t419 t420 t423 _ ?side1 ?side2 A65.out).mono ?_); (case side1 => repeat (first | exact (Kd.R_reads' HO_15.out).2.2 | (with_reducible refine Kd.C_alloc ?_ _) | (with_reducible refine Kd.C_drewN ?_ _) | (with_reducible refine Kd.C_drew ?_))); (case side2 => exact (Kd.R_reads' HO_15.out).2.1); rintro e w72 ⟨v421, rfl, ho0, hb⟩; refine ⟨_, rfl, ?_⟩; replace HO_5 := Aside0.mk (Kd.R_below zq4_10 hb); replace HO_10 := Aside0.mk (Kd.R_below zq4_6 hb); have HO422 := Aside0.mk (Kd.R_lower (Kd.R_new' (Kd.R_new' (Kd.R_new' ho0 (Kd.R_lt zq4_7)) (Kd.R_lt zq4_8)) (Kd.R_lt zq4_9)) (below_size zq4_4)); replace HO_14 := Aside0.mk (Kd.R_elder' zq4_7 (Kd.R_base ho0) hb); replace HO_15 := Aside0.mk (Kd.R_elder' zq4_8 (Kd.R_base ho0) hb); replace HO409 := Aside0.mk (Kd.R_elder' zq4_9 (Kd.R_base ho0) hb); replace HB := Aside0.mk (below_step zq4_4 hb); (try clear hb); (try clear hb2); (try clear hk); (try clear hi); (try clear ho0)))
              go_roundg k4
              case measure => have := HK1.out; have := HJ2.out; have := HJ32.out; have := HK4.out; omega
              case rel => exact ⟨(t407), (t420), (wrap64 (x16_4 + 1)), zq4_12, H', ⟨by have := HK1.out; have := HJ2.out; have := HJ32.out; have := HK4.out; omega⟩, ⟨by (with_reducible repeat (first | apply Kd.R_alloc | apply Kd.R_drewN | apply Kd.R_drew)); exact HO_5.out⟩, ⟨by (with_reducible repeat (first | apply Kd.R_alloc | apply Kd.R_drewN | apply Kd.R_drew)); exact HO_10.out⟩, ⟨by (with_reducible repeat (first | apply Kd.R_alloc | apply Kd.R_drewN | apply Kd.R_drew)); exact Kd.R_mono HO409.out (fun _ hk => hk.2)⟩, ⟨by (with_reducible repeat (first | apply Kd.R_alloc | apply Kd.R_drewN | apply Kd.R_drew)); exact Kd.R_mono HO422.out (fun _ hk => hk.2)⟩, ⟨by repeat (first | (with_reducible first | exact HB.out | apply below_alloc | apply pw_below_drewN | apply below_drew1) | exact HB.out)⟩⟩
             ·rw [if_neg c63] at H
              exact absurd H (by simp)
            ·rw [if_neg c60] at H
             exact absurd H (by simp)
           ·rw [if_neg c59] at H
            have c59b0 : decide (x16_4 < (x5_1.length : Int)) = false := decide_eq_false c59
            clear c59
            have HC73 := Aside0.mk H
            clear H
            go_upto_region 27 with (fail)
            go_cut [158] (fun v158 wc => ∃ (kq : Nat) (x158_72 : Bool), v158 = .bool x158_72 ∧ Aside0 (cenotaphlaw08_StoreOrders.j7 kq x5_1 x14_4 x15_4 x158_72 = some r) ∧ Aside0 (kq ≤ k4) ∧ Aside0 (Kd.R k28 28 wc w.heap.size (fun _ => True) (.slice Ao37 x5_1.length co37) x5_1) ∧ Aside0 (Kd.R k41 41 wc w.heap.size (fun k_ => some k_ ≠ (u15 : Value).ownBlock) u14 x14_4) ∧ Aside0 (Kd.R k41 41 wc w.heap.size (fun k_ => some k_ ≠ (u14 : Value).ownBlock) u15 x15_4) ∧ Aside0 (Below w.heap.size w wc))
            case first =>
             have H := HC73.out
             clear HC73
             replace H := Option.bind_eq_some_iff.mp H
             obtain ⟨t424, A740, H⟩ := H
             have A74 := Aside0.mk A740
             clear A740
             by_cases c75 : t424 = true
             ·subst c75
              have H1 : (cenotaphlaw08_StoreOrders.j7 k4 x5_1 x14_4 x15_4 ((x14_4.length : Int) != (x15_4.length : Int))) = some r := by rw [if_pos rfl] at H; exact H
              clear H
              have H := H1
              clear H1
              have H' := Aside0.mk H
              clear H
              go_wp2_with (first | ((with_reducible refine gate_callee (f := 16) rfl ?_); refine goesL_ (some 150) rfl rfl Try.func16 (by kernel_rfl) rfl #[] rfl zq4_3 ?_; (with_reducible refine (cenotaphlaw08_told.calls k4  true _ A74.out).mono ?_); rintro e w76 ⟨rfl, hb⟩; refine ⟨_, rfl, ?_⟩; replace HO_5 := Aside0.mk (Kd.R_below zq4_10 hb); replace HO_10 := Aside0.mk (Kd.R_below zq4_6 hb); replace HO_14 := Aside0.mk (Kd.R_below zq4_7 hb); replace HO_15 := Aside0.mk (Kd.R_below zq4_8 hb); replace HB := Aside0.mk (below_step zq4_4 hb); (try clear hb); (try clear hb2); (try clear hk); (try clear hi); obtain ⟨Ao77, co77, eo77⟩ := Kd.R_slice HO_14.out; subst eo77; obtain ⟨Ao78, co78, eo78⟩ := Kd.R_slice HO_15.out; subst eo78))
              go_meet
              case rel => exact ⟨_, (((x14_4.length : Int) != (x15_4.length : Int))), zq4_12, H', ⟨by have := HK1.out; have := HJ2.out; have := HJ32.out; have := HK4.out; first | omega | exact Nat.le_refl _⟩, ⟨by (with_reducible repeat (first | apply Kd.R_alloc | apply Kd.R_drewN | apply Kd.R_drew)); exact Kd.R_mono HO_5.out (fun _ hk => trivial)⟩, ⟨by (with_reducible repeat (first | apply Kd.R_alloc | apply Kd.R_drewN | apply Kd.R_drew)); exact HO_14.out⟩, ⟨by (with_reducible repeat (first | apply Kd.R_alloc | apply Kd.R_drewN | apply Kd.R_drew)); exact HO_15.out⟩, ⟨by repeat (first | (with_reducible first | exact HB.out | apply below_alloc | apply pw_below_drewN | apply below_drew1) | exact HB.out)⟩⟩
             ·replace c75 := Bool.eq_false_iff.mpr c75
              subst c75
              have H1 : (cenotaphlaw08_StoreOrders.j7 k4 x5_1 x14_4 x15_4 true) = some r := by rw [if_neg (show ¬ (false = true) by decide)] at H; exact H
              clear H
              have H := H1
              clear H1
              have H' := Aside0.mk H
              clear H
              go_wp2_with (first | ((with_reducible refine gate_callee (f := 16) rfl ?_); refine goesL_ (some 150) rfl rfl Try.func16 (by kernel_rfl) rfl #[] rfl zq4_3 ?_; (with_reducible refine (cenotaphlaw08_told.calls k4  false _ A74.out).mono ?_); rintro e w79 ⟨rfl, hb⟩; refine ⟨_, rfl, ?_⟩; replace HO_5 := Aside0.mk (Kd.R_below zq4_10 hb); replace HO_10 := Aside0.mk (Kd.R_below zq4_6 hb); replace HO_14 := Aside0.mk (Kd.R_below zq4_7 hb); replace HO_15 := Aside0.mk (Kd.R_below zq4_8 hb); replace HB := Aside0.mk (below_step zq4_4 hb); (try clear hb); (try clear hb2); (try clear hk); (try clear hi)))
              go_meet
              case rel => exact ⟨_, (true), zq4_12, H', ⟨by have := HK1.out; have := HJ2.out; have := HJ32.out; have := HK4.out; first | omega | exact Nat.le_refl _⟩, ⟨by (with_reducible repeat (first | apply Kd.R_alloc | apply Kd.R_drewN | apply Kd.R_drew)); exact Kd.R_mono HO_5.out (fun _ hk => trivial)⟩, ⟨by (with_reducible repeat (first | apply Kd.R_alloc | apply Kd.R_drewN | apply Kd.R_drew)); exact HO_14.out⟩, ⟨by (with_reducible repeat (first | apply Kd.R_alloc | apply Kd.R_drewN | apply Kd.R_drew)); exact HO_15.out⟩, ⟨by repeat (first | (with_reducible first | exact HB.out | apply below_alloc | apply pw_below_drewN | apply below_drew1) | exact HB.out)⟩⟩
            case rest =>
             clear HC73
             (try clear c1); (try clear p2); (try clear c3); (try clear p3); (try clear q3); (try clear hx3); (try clear c4); (try clear p4); (try clear q4); (try clear hx4); (try clear c5); (try clear p5); (try clear q5); (try clear hx5); (try clear hf5); (try clear c6); (try clear p6); (try clear c7); (try clear c11); (try clear c12); (try clear c16); (try clear p36); (try clear q36); (try clear hx36); (try clear p37); (try clear q37); (try clear hx37); (try clear c38); (try clear c38b0); (try clear c39); (try clear c39b0); (try clear c39b1); (try clear p39); (try clear q39); (try clear hx39); (try clear c40); (try clear c40b0); (try clear c41); (try clear c41b0); (try clear c41b1); (try clear c41b2); (try clear p41); (try clear q41); (try clear hx41); (try clear c42); (try clear c42b0); (try clear c43); (try clear c43b0); (try clear c43b1); (try clear c45); (try clear c45b0); (try clear c46); (try clear c46b0); (try clear c48); (try clear c48b0); (try clear c49); (try clear c49b0); (try clear c50); (try clear p50); (try clear q50); (try clear hx50); (try clear hf50); (try clear c51); (try clear p51); (try clear q51); (try clear hx51); (try clear hf51); (try clear c55); (try clear c56); (try clear c59); (try clear c59b0); (try clear c60); (try clear c60b0); (try clear c63); (try clear c63b0); (try clear p64); (try clear c75); (try clear hcz30_5); (try clear hcz30_6); (try clear hcz30_7); (try clear hcz30_8); (try clear hfz11_0); (try clear hfz11_1); (try clear hfz11_2); (try clear hfz11_3); (try clear hfz11_4); (try clear hfz11_5); (try clear hfz11_6); (try clear hfz11_7); (try clear hfz11_8); (try clear hfz23_0); (try clear hfz23_1); (try clear hfz23_2); (try clear hfz23_3); (try clear hfz23_4); (try clear hfz23_5); (try clear hfz23_6); (try clear hfz23_7); (try clear hfz23_8); (try clear hfz25_0); (try clear hfz25_1); (try clear hfz25_2); (try clear hfz25_3); (try clear hfz25_4); (try clear hfz25_5); (try clear hfz25_6); (try clear hfz25_7); (try clear hfz25_8); (try clear hfz27_0); (try clear hfz27_1); (try clear hfz27_2); (try clear hfz27_3); (try clear hfz27_4); (try clear hfz27_5); (try clear hfz27_6); (try clear hfz27_7); (try clear hfz27_8); (try clear hfz30_0); (try clear hfz30_1); (try clear hfz30_2); (try clear hfz30_3); (try clear hfz30_4); (try clear hfz30_5); (try clear hfz30_6); (try clear hfz30_7); (try clear hfz30_8); (try clear hx361_0); (try clear hx361_1); (try clear hx361_2); (try clear hx361_3); (try clear hx361_4); (try clear hx361_5); (try clear hx361_6); (try clear hx361_7); (try clear hx361_8); (try clear hx375_0); (try clear hx375_1); (try clear hx375_2); (try clear hx375_3); (try clear hx375_4); (try clear hx375_5); (try clear hx375_6); (try clear hx375_7); (try clear hx375_8); (try clear hx376_0); (try clear hx376_1); (try clear hx376_2); (try clear hx376_3); (try clear hx376_4); (try clear hx376_5); (try clear hx376_6); (try clear hx376_7); (try clear hx376_8); (try clear hx377_0); (try clear hx377_1); (try clear hx377_2); (try clear hx377_3); (try clear hx377_4); (try clear hx377_5); (try clear hx377_6); (try clear hx377_7); (try clear hx377_8); (try clear hx393_0); (try clear hx394_0); (try clear hx394_1); (try clear hx394_2); (try clear hx394_3); (try clear hx394_4); (try clear hx394_5); (try clear hx394_6); (try clear hx394_7); (try clear hx394_8); (try clear hx395_0); (try clear hx395_1); (try clear hx395_2); (try clear hx395_3); (try clear hx395_4); (try clear hx395_5); (try clear hx395_6); (try clear hx395_7); (try clear hx395_8); (try clear hx398_0); (try clear hx398_1); (try clear hx398_2); (try clear hx398_3); (try clear hx398_4); (try clear hx398_5); (try clear hx398_6); (try clear hx398_7); (try clear hx398_8); (try clear hx411_0); (try clear hx411_1); (try clear hx411_2); (try clear hx411_3); (try clear hx411_4); (try clear hx411_5); (try clear hx411_6); (try clear hx411_7); (try clear hx411_8); (try clear hx50_0); (try clear hx50_1); (try clear hx50_2); (try clear hx50_3); (try clear hx50_4); (try clear hx50_5); (try clear hx50_6); (try clear hx50_7); (try clear hx50_8); (try clear hx51_0); (try clear hx51_1); (try clear hx51_2); (try clear hx51_3); (try clear hx51_4); (try clear hx51_5); (try clear hx51_6); (try clear hx51_7); (try clear hx51_8); (try clear p2); (try clear p3); (try clear p36); (try clear p361); (try clear p37); (try clear p375); (try clear p376); (try clear p377); (try clear p39); (try clear p393); (try clear p394); (try clear p395); (try clear p398); (try clear p411); (try clear p5); (try clear p50); (try clear p51); (try clear p6); (try clear q3); (try clear q36); (try clear q361); (try clear q37); (try clear q375); (try clear q376); (try clear q377); (try clear q39); (try clear q393); (try clear q394); (try clear q395); (try clear q398); (try clear q411); (try clear q5); (try clear q50); (try clear q51)
             obtain ⟨kq, x158_72, rfl, HA, HJ72, HO_5, HO_14, HO_15, HB⟩ := hcut
             cases kq with
             | zero => exact absurd HA.out (by simp [cenotaphlaw08_StoreOrders.j7])
             | succ kj72 =>
              have H := HA.out
              clear HA
              simp only [cenotaphlaw08_StoreOrders.j7] at H
              by_cases c80 : x158_72 = true
              ·subst c80
               have H1 : (none) = some r := by rw [if_pos rfl] at H; exact H
               clear H
               have H := H1
               clear H1
               exact absurd H (by simp)
              ·replace c80 := Bool.eq_false_iff.mpr c80
               subst c80
               have H1 : (cenotaphlaw08_StoreOrders.l4 kj72 x5_1 x14_4 x15_4 0) = some r := by rw [if_neg (show ¬ (false = true) by decide)] at H; exact H
               clear H
               have H := H1
               clear H1
               have H' := Aside0.mk H
               clear H
               go_step
               go_step
               go_step
               go_step
               go_step
               exact cenotaphlaw08_StoreOrders.tail _ _ _ _ _ _ _ _ k k1 kj2 kj32 k4 kj72 _ _ _ _ _ _ _ _ _ _ _ _ _ _ _ _ _ _ _ _ _ _ _ _ _ _ _ _ _ _ _ _ _ _ _ _ _ _ _ _ _ _ _ _ _ _ _ _ _ _ _ _ _ _ _ _ _ _ _ _ _ _ _ _ _ _ _ _ _ _ _ _ _ _ _ _ _ _ _ _ _ _ _ _ _ _ _ _ _ _ _ _ _ _ _ _ _ _ _ _ _ _ _ _ _ _ _ _ _ _ _ _ _ _ _ _ _ _ _ _ _ _ _ _ _ _ _ _ _ _ _ _ _ _ _ _ _ _ _ _ _ _ _ _ _ _ _ _ _ _ _ _ _ _ _ _ _ _ _ _ _ _ _ _ _ _ _ _ _ _ _ _ _ _ _ _ _ _ _ _ _ _ _ _ _ _ _ _ _ _ _ _ _ _ _ _ _ _ _ _ _ _ _ _ _ _ _ _ _ _ _ _ _ _ _ _ _ _ _ _ _ _ _ _ _ _ _ _ _ _ _ _ _ _ _ _ _ _ _ _ _ _ _ _ _ _ _ _ _ _ _ _ _ _ _ _ _ _ _ _ _ _ _ _ _ HK1 HJ2 HJ32 HK4 HJ72 HO_5 HO_14 HO_15 HB H'
      ·rw [if_neg c32] at H
       exact absurd H (by simp)

end Go.Proofs.Ytgdkgobplinelaa.P
