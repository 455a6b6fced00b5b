-- Written by a program of this session (wip/pp.py over the kit's printer, with our own texts put in).
import Derived.Test.YtkmhanpamdgnjaaP0
import Derived.Test.YtkmhanpamdgnjaaP2
namespace Go.Proofs.Ytkmhanpamdgnjaa.P
open Go.RowKit Go.Proofs.YtkmhanpamdgnjaaW.PrintWords Go.Proofs.YtkmhanpamdgnjaaW.PrintLast Go.Proofs.YtkmhanpamdgnjaaW.PrintMore
attribute [local go_sem] max2_int min2_int max_two min_two max_three min_three max_four min_four   -- for this text's walks alone
set_option linter.unusedVariables false
set_option linter.unusedSimpArgs false

/-! ### cenotaphlaw07_told: function 11 -/
set_option maxHeartbeats 8000000 in
set_option maxRecDepth 100000 in
theorem wire_Read.made (A0 : Option Addr) (c0 : Nat) (l0 : List Int) (w : World) (hr0 : Kd.C (Kd.int .u8) w A0 l0.length l0) (hc0 : l0.length ≤ c0) (hl : l0.length < 8796093022208) :
    Calls Try.prog 13 #[.slice A0 l0.length c0] w fun e w' => ∃ (g : Nat) (w1 : World), e = .returned (.pointer (some ⟨g, 0, none⟩)) ∧ IsS69 w1 w' g l0 0 0 ∧ Below w.heap.size w w1 ∧ Below w1.heap.size w1 w' := by
  have HCL := Aside0.mk (fun (W : World) (hW : Below w.heap.size w W) => slices_Clone_byte_byte.calls A0 c0 l0 l0 W (Kd.C_below hr0 hW) hc0 (by simp only [slices_Clone_byte_byte.f, Option.bind_some, List.length_nil, List.nil_append]; first | rw [if_pos (by omega)] | simp | skip))
  have HB := Aside0.mk (Below.refl w.heap.size w)
  clear hr0 hc0
  go_enter Try.func13, Try.ntmps13
  go_wp2_with fail
  refine (HCL.out _ HB.out).mono ?_
  rintro e w1 ⟨v, rfl, ho, hb⟩
  obtain ⟨A, c, rfl, hlc, hC⟩ := Kd.R_reads ho
  obtain ⟨d, rfl⟩ : ∃ d, c = l0.length + d := ⟨c - l0.length, by omega⟩
  have HC := Aside0.mk hC
  have HB1 := Aside0.mk hb
  clear ho hC hb HCL HB
  go_wp2
  go_ret
  exact ⟨w1.heap.size, w1, rfl, ⟨A, d, by simpa using heap_alloc_new w1 _, Nat.le_refl _, HC.out⟩, HB1.out, below_alloc (Below.refl _ _) _⟩

theorem rd_call {w : World} {g : Nat} {l : List Int} {a e : Int} (h : RD 69 w g l a e) : IsS69 (cutW w g) w g l a e ∧ Below (cutW w g).heap.size (cutW w g) w := by
  have hlt := h.lt
  obtain ⟨A, c, hg, hc⟩ := h
  exact ⟨⟨A, c, hg, by rw [cutW_size (Nat.le_of_lt hlt)]; exact Nat.le_refl _, hc⟩, cutW_below (Nat.le_of_lt hlt)⟩
theorem rd_of {w1 w : World} {g : Nat} {l : List Int} {a e : Int} (h : IsS69 w1 w g l a e) (hb : Below w1.heap.size w1 w) : RD 69 w g l a e := by
  obtain ⟨A, c, hg, hge, hc⟩ := h
  exact RD.of hg hge hc hb
theorem rd_read (A0 : Option Addr) (c0 : Nat) (l0 : List Int) (w : World) (hr0 : Kd.C (Kd.int .u8) w A0 l0.length l0) (hc0 : l0.length ≤ c0) (hl : l0.length < 8796093022208) :
    Calls Try.prog 13 #[.slice A0 l0.length c0] w fun e w' => ∃ g, e = .returned (.pointer (some ⟨g, 0, none⟩)) ∧ RD 69 w' g l0 0 0 ∧ w.heap.size ≤ g ∧ Below w.heap.size w w' := by
  refine (wire_Read.made A0 c0 l0 w hr0 hc0 hl).mono ?_
  rintro e w' ⟨g, w1, rfl, hi, hb, hb1⟩
  exact ⟨g, rfl, rd_of hi hb1, Nat.le_trans hb.size hi.ge, below_step hb hb1⟩
theorem rd_num (k : Nat) (g : Nat) (l : List Int) (a e m r1 r2 r3 : Int) (w : World) (hI : RD 69 w g l a e) (h : wire_Reader_Num.f k l a e m = some (r1, r2, r3)) :
    Calls Try.prog 32 #[.pointer (some ⟨g, 0, none⟩), .int .i64 m] w fun x w' => x = .returned (.int .i64 r1) ∧ RD 69 w' g l r2 r3 ∧ (∀ w0 : World, w0.heap.size ≤ g → Below w0.heap.size w0 w → Below w0.heap.size w0 w') ∧ KeepBut w w' g none := by
  obtain ⟨hi, hb⟩ := rd_call hI
  refine (wire_Reader_Num.calls k g l a e m r1 r2 r3 _ w hi hb h).mono ?_
  rintro x w' ⟨rfl, hi, hb, hk⟩
  exact ⟨rfl, rd_of hi hb, fun w0 hge hB => hI.base hge hB hb hk, hk⟩
theorem rd_text (k : Nat) (g : Nat) (l : List Int) (a e m : Int) (r1 : ByteArray) (r2 r3 : Int) (w : World) (hI : RD 69 w g l a e) (h : wire_Reader_Text.f k l a e m = some (r1, r2, r3)) :
    Calls Try.prog 33 #[.pointer (some ⟨g, 0, none⟩), .int .i64 m] w fun x w' => x = .returned (.string r1) ∧ RD 69 w' g l r2 r3 ∧ (∀ w0 : World, w0.heap.size ≤ g → Below w0.heap.size w0 w → Below w0.heap.size w0 w') ∧ KeepBut w w' g none := by
  obtain ⟨hi, hb⟩ := rd_call hI
  refine (wire_Reader_Text.calls k g l a e m r1 r2 r3 _ w hi hb h).mono ?_
  rintro x w' ⟨rfl, hi, hb, hk⟩
  exact ⟨rfl, rd_of hi hb, fun w0 hge hB => hI.base hge hB hb hk, hk⟩
theorem rd_end (g : Nat) (l : List Int) (a e : Int) (w : World) (hI : RD 69 w g l a e) :
    Calls Try.prog 28 #[.pointer (some ⟨g, 0, none⟩)] w fun x w' => x = .returned (.int .i64 (if e = 0 ∧ a < (l.length : Int) then 3 else e)) ∧ RD 69 w' g l a e ∧ (∀ w0 : World, w0.heap.size ≤ g → Below w0.heap.size w0 w → Below w0.heap.size w0 w') ∧ KeepBut w w' g none := by
  obtain ⟨hi, hb⟩ := rd_call hI
  refine (wire_Reader_End.calls g l a e _ a e _ w hi hb rfl).mono ?_
  rintro x w' ⟨rfl, hi, hb, hk⟩
  exact ⟨rfl, rd_of hi hb, fun w0 hge hB => hI.base hge hB hb hk, hk⟩
theorem rd_err (g : Nat) (l : List Int) (a e : Int) (w : World) (hI : RD 69 w g l a e) :
    Calls Try.prog 17 #[.pointer (some ⟨g, 0, none⟩)] w fun x w' => x = .returned (.int .i64 e) ∧ RD 69 w' g l a e ∧ (∀ w0 : World, w0.heap.size ≤ g → Below w0.heap.size w0 w → Below w0.heap.size w0 w') ∧ KeepBut w w' g none := by
  obtain ⟨hi, hb⟩ := rd_call hI
  refine (wire_Reader_Err.calls g l a e e a e _ w hi hb rfl).mono ?_
  rintro x w' ⟨rfl, hi, hb, hk⟩
  exact ⟨rfl, rd_of hi hb, fun w0 hge hB => hI.base hge hB hb hk, hk⟩

theorem run_store_complex {P : Program} {w : World} {a : Addr} {m : Mode} (k : FloatKind) (x y : Nat) : (store a (.complex k x y) m).run P w = stored P w a (.complex k x y) m := run_store P w a _ m rfl
attribute [local go_sem] run_store_complex
theorem fl_bnd {n : Int} (h0 : -1099511627776 ≤ n) (h1 : n ≤ 1099511627776) : n.natAbs < 2 ^ 53 := by omega
theorem trunc_run {P : Program} {w : World} {b c : Nat} {neg : Bool} {m : Nat} {p : Int} (nm : String) (h : FloatKind.f64.decode b = .number neg m p) (h1 : FloatKind.f64.encode (Ieee.Datum.integral .zero (.number neg m p)) = c) : ((Extern.MathFloor.toIntegral nm .zero) #[.float .f64 b]).run P w = .ok (.float .f64 c) w := by
  subst h1
  have e : (Extern.MathFloor.toIntegral nm .zero) #[.float .f64 b] = (match FloatKind.f64.decode b with
    | .nan s t =>
      if FloatKind.f64.format.quiet t = t then pure (.float .f64 b) else do
      let kept ← choose (.extern "math.Floor,Ceil,Trunc,RoundToEven.signallingNaN kept" 2)
      pure (.float .f64 (if kept == 1 then b else FloatKind.f64.encode (.nan s (FloatKind.f64.format.quiet t))))
    | d => pure (.float .f64 (FloatKind.f64.encode (d.integral .zero)))) := rfl
  rw [e, h]
  rfl
set_option maxHeartbeats 800000 in
set_option maxRecDepth 100000 in
theorem it_trunc (n : Int) (w : World) (h : n.natAbs < 2 ^ 53) : Calls Try.prog 57 #[.float .f64 (fl n)] w fun e w' => e = .returned (.float .f64 (fl n)) ∧ w' = w := by
  obtain ⟨q, hq, -⟩ := fl_read n h
  have hb := fl_back n h
  have HQ := Aside0.mk hq
  have HBK := Aside0.mk hb
  clear hq hb
  go_enter Try.func57, Try.ntmps57
  go_wp2
  rw [run_callFunc_extern Try.func60 (by kernel_rfl) (by kernel_rfl) (by kernel_rfl) (e := Extern.MathFloor.toIntegral "math.archTrunc" .zero) (by kernel_rfl)]
  have hrun : ((Extern.MathFloor.toIntegral "math.archTrunc" .zero) #[.float .f64 (fl n)]).run Try.prog w = .ok (.float .f64 (fl n)) w := by
    have h1 := HBK.out
    rw [HQ.out] at h1
    exact trunc_run "math.archTrunc" HQ.out h1
  rw [hrun]
  simp only [Result.andThen]
  rw [Oper.upon_value]
  go_wp2
  go_ret
  exact ⟨rfl, rfl⟩
set_option maxHeartbeats 800000 in
set_option maxRecDepth 100000 in
theorem it_wholeTo (x lo hi : Int) (w : World) (h : x.natAbs < 2 ^ 53) (h1 : lo.natAbs < 2 ^ 53) (h2 : hi.natAbs < 2 ^ 53) : Calls Try.prog 53 #[.float .f64 (fl x), .float .f64 (fl lo), .float .f64 (fl hi)] w fun e w' => e = .returned (.bool (decide (lo ≤ x ∧ x ≤ hi))) ∧ Below w.heap.size w w' := by
  have g1 := fl_ge x lo h h1
  have g2 := fl_le x hi h h2
  have g3 := fl_eq x x h h
  rw [decide_eq_true rfl] at g3
  have HT := Aside0.mk (it_trunc x w h)
  by_cases c1 : lo ≤ x
  rotate_left
  · rw [decide_eq_false c1] at g1
    rw [decide_eq_false (fun h => c1 h.1)]
    clear g2 g3
    go_enter Try.func53, Try.ntmps53
    go_wp2_with fail
    go_ret
    exact ⟨rfl, Below.refl _ _⟩
  rw [decide_eq_true c1] at g1
  by_cases c2 : x ≤ hi
  rotate_left
  · rw [decide_eq_false c2] at g2
    rw [decide_eq_false (fun h => c2 h.2)]
    clear g3
    go_enter Try.func53, Try.ntmps53
    go_wp2_with fail
    go_ret
    exact ⟨rfl, Below.refl _ _⟩
  rw [decide_eq_true c2] at g2
  rw [decide_eq_true ⟨c1, c2⟩]
  clear c1 c2
  go_enter Try.func53, Try.ntmps53
  go_wp2_with fail
  refine HT.out.mono ?_
  rintro e w1 ⟨rfl, rfl⟩
  clear HT
  go_wp2_with fail
  go_ret
  exact ⟨rfl, Below.refl _ _⟩
theorem fl_lo : (13875379345695965184 : Nat) = fl (-1000) := by decide +kernel
theorem fl_hi : (4652007308841189376 : Nat) = fl 1000 := by decide +kernel
theorem fl_0 : (0 : Nat) = fl 0 := by decide +kernel
/-- May a place be? -/
def spotOk (x y : Int) : Bool := decide (-1000 ≤ x ∧ x ≤ 1000) && decide (-1000 ≤ y ∧ y ≤ 1000)
set_option maxHeartbeats 800000 in
set_option maxRecDepth 100000 in
theorem it_whole (x y : Int) (w : World) (h : x.natAbs < 2 ^ 53) (h1 : y.natAbs < 2 ^ 53) : Calls Try.prog 45 #[.complex .f64 (fl x) (fl y)] w fun e w' => e = .returned (.bool (spotOk x y)) ∧ Below w.heap.size w w' := by
  have H1 := Aside0.mk (fun (W : World) => it_wholeTo x (-1000) 1000 W h (by omega) (by omega))
  have H2 := Aside0.mk (fun (W : World) => it_wholeTo y (-1000) 1000 W h1 (by omega) (by omega))
  rw [← fl_lo, ← fl_hi] at H1 H2
  unfold spotOk
  generalize decide (-1000 ≤ x ∧ x ≤ 1000) = b1 at H1 ⊢
  generalize decide (-1000 ≤ y ∧ y ≤ 1000) = b2 at H2 ⊢
  go_enter Try.func45, Try.ntmps45
  go_wp2_with fail
  refine (H1.out _).mono ?_
  rintro e w1 ⟨rfl, hb⟩
  have HB := Aside0.mk hb
  clear hb H1
  cases b1 with
  | false =>
    go_wp2_with fail
    go_ret
    exact ⟨rfl, HB.out⟩
  | true =>
    go_wp2_with fail
    refine (H2.out _).mono ?_
    rintro e w2 ⟨rfl, hb⟩
    replace HB := Aside0.mk (below_step HB.out hb)
    clear hb H2
    go_wp2_with fail
    go_ret
    exact ⟨rfl, HB.out⟩
/-- What an item is as a value. -/
abbrev itC (k : Int) (i : ByteArray) (q s : Int) (d : Bool) (x y : Int) (t : ByteArray) (h : Bool) : Array Value := #[.int .i64 k, .string i, .int .i64 q, .int .i64 s, .bool d, .complex .f64 (fl x) (fl y), .string t, .bool h]
theorem it_cells {w : World} {g : Nat} {k : Int} {i : ByteArray} {q s : Int} {d : Bool} {x y : Nat} {t : ByteArray} {h : Bool} {T : TypeId} (b : w.heap[g]? = some (.cells #[.int .i64 k, .string i, .int .i64 q, .int .i64 s, .bool d, .complex .f64 x y, .string t, .bool h] T (0, 0))) :
    w.cell? ⟨g, 0, none⟩ = some (.int .i64 k) ∧ w.cell? ⟨g, 1, none⟩ = some (.string i) ∧ w.cell? ⟨g, 2, none⟩ = some (.int .i64 q) ∧ w.cell? ⟨g, 3, none⟩ = some (.int .i64 s) ∧ w.cell? ⟨g, 4, none⟩ = some (.bool d) ∧ w.cell? ⟨g, 5, none⟩ = some (.complex .f64 x y) ∧ w.cell? ⟨g, 6, none⟩ = some (.string t) ∧ w.cell? ⟨g, 7, none⟩ = some (.bool h) :=
  ⟨(blk_cell b 0).trans rfl, (blk_cell b 1).trans rfl, (blk_cell b 2).trans rfl, (blk_cell b 3).trans rfl, (blk_cell b 4).trans rfl, (blk_cell b 5).trans rfl, (blk_cell b 6).trans rfl, (blk_cell b 7).trans rfl⟩
/-- May an item be? -/
def itRight (k : Int) (i : ByteArray) (q s : Int) (d : Bool) (x y : Int) (t : ByteArray) (h : Bool) : Option Bool :=
  if k < 0 then some false else if 32 ≤ k then some false else (item_Version_right.f i q s).bind fun v => if v = false then some false else if spotOk x y = false then some false else if 16 < (t.size : Int) then some false
    else if d = true ∧ (h = true ∨ ¬ (x = 0 ∧ y = 0)) then some false else if h = true then some true else some t.toList.isEmpty
theorem it_spot0 (x y : Int) (hx : x.natAbs < 2 ^ 53) (hy : y.natAbs < 2 ^ 53) : ((FloatKind.f64.format.order (fl x) 0 == some .eq) && (FloatKind.f64.format.order (fl y) 0 == some .eq)) = decide (x = 0 ∧ y = 0) := by
  rw [fl_0, fl_eq x 0 hx (by decide), fl_eq y 0 hy (by decide)]
  by_cases h1 : x = 0 <;> by_cases h2 : y = 0 <;> simp [h1, h2]
set_option maxHeartbeats 800000 in
set_option maxRecDepth 100000 in
theorem it_right (k : Int) (i : ByteArray) (q s : Int) (d : Bool) (x y : Int) (t : ByteArray) (h : Bool) (r : Bool) (w : World) (hx : x.natAbs < 2 ^ 53) (hy : y.natAbs < 2 ^ 53) (hr : itRight k i q s d x y t h = some r) : Calls Try.prog 23 #[.agg (itC k i q s d x y t h)] w fun e w' => e = .returned (.bool r) ∧ Below w.heap.size w w' := by
  have HR := Aside0.mk hr
  clear hr
  rw [itRight] at HR
  have HW := Aside0.mk (fun (W : World) => it_whole x y W hx hy)
  have HS := Aside0.mk (it_spot0 x y hx hy)
  clear hx hy
  generalize spotOk x y = so at HR HW
  have BK := Aside0.mk (blk_new w (.cells (itC k i q s d x y t h) 40))
  have HB := Aside0.mk (below_alloc (Below.refl w.heap.size w) (.cells (itC k i q s d x y t h) 40))
  by_cases c1 : k < 0
  · have e1 : decide (k < 0) = true := decide_eq_true c1
    replace HR := Aside0.mk ((if_pos c1).symm.trans HR.out)
    obtain rfl := Option.some.inj HR.out
    clear HR
    go_enter Try.func23, Try.ntmps23
    go_wp2_with fail
    go_ret
    exact ⟨rfl, HB.out⟩
  replace HR := Aside0.mk ((if_neg c1).symm.trans HR.out)
  have e1 : decide (k < 0) = false := decide_eq_false c1
  by_cases c2 : 32 ≤ k
  · have e2 : decide (32 ≤ k) = true := decide_eq_true c2
    replace HR := Aside0.mk ((if_pos c2).symm.trans HR.out)
    obtain rfl := Option.some.inj HR.out
    clear HR
    go_enter Try.func23, Try.ntmps23
    go_wp2_with fail
    go_ret
    exact ⟨rfl, HB.out⟩
  replace HR := Aside0.mk ((if_neg c2).symm.trans HR.out)
  have e2 : decide (32 ≤ k) = false := decide_eq_false c2
  obtain ⟨v, hv, h2⟩ := Option.bind_eq_some_iff.mp HR.out
  have HV := Aside0.mk hv
  replace HR := Aside0.mk h2
  clear hv h2
  go_enter Try.func23, Try.ntmps23
  go_wp2_with fail
  refine (item_Version_right.calls i q s v _ HV.out).mono ?_
  rintro e w1 ⟨rfl, hb⟩
  replace BK := Aside0.mk (blk_below BK.out hb)
  replace HB := Aside0.mk (below_step HB.out hb)
  obtain ⟨h0, h1, h2, h3, h4, h5, h6, h7⟩ := it_cells BK.out
  clear hb HV
  cases v with
  | false =>
    replace HR := Aside0.mk ((if_pos rfl).symm.trans HR.out)
    obtain rfl := Option.some.inj HR.out
    clear HR
    go_wp2_with fail
    go_ret
    exact ⟨rfl, HB.out⟩
  | true =>
    replace HR := Aside0.mk ((if_neg (by decide)).symm.trans HR.out)
    go_wp2_with fail
    refine (HW.out _).mono ?_
    rintro e w2 ⟨rfl, hb⟩
    clear h0 h1 h2 h3 h4 h5 h6 h7
    replace BK := Aside0.mk (blk_below BK.out hb)
    replace HB := Aside0.mk (below_step HB.out hb)
    obtain ⟨h0, h1, h2, h3, h4, h5, h6, h7⟩ := it_cells BK.out
    clear hb HW
    cases so with
    | false =>
      replace HR := Aside0.mk ((if_pos rfl).symm.trans HR.out)
      obtain rfl := Option.some.inj HR.out
      clear HR
      go_wp2_with fail
      go_ret
      exact ⟨rfl, HB.out⟩
    | true =>
      replace HR := Aside0.mk ((if_neg (by decide)).symm.trans HR.out)
      by_cases c3 : 16 < (t.size : Int)
      · have e3 : decide (16 < (t.size : Int)) = true := decide_eq_true c3
        have e4 : decide (16 < t.size) = true := decide_eq_true (by omega)
        replace HR := Aside0.mk ((if_pos c3).symm.trans HR.out)
        obtain rfl := Option.some.inj HR.out
        clear HR
        go_wp2_with fail
        go_ret
        exact ⟨rfl, HB.out⟩
      replace HR := Aside0.mk ((if_neg c3).symm.trans HR.out)
      have e3 : decide (16 < (t.size : Int)) = false := decide_eq_false c3
      have e4 : decide (16 < t.size) = false := decide_eq_false (by omega)
      clear c3
      have hs := HS.out
      clear HS
      cases d with
      | true =>
        cases h with
        | true =>
          replace HR := Aside0.mk ((if_pos ⟨rfl, .inl rfl⟩).symm.trans HR.out)
          obtain rfl := Option.some.inj HR.out
          clear HR hs
          go_wp2_with fail
          go_ret
          exact ⟨rfl, HB.out⟩
        | false =>
          by_cases cz : x = 0 ∧ y = 0
          · rw [decide_eq_true cz] at hs
            replace HR := Aside0.mk ((if_neg (fun hh => hh.2.elim (fun z => Bool.noConfusion z) (fun z => z cz))).symm.trans HR.out)
            replace HR := Aside0.mk ((if_neg (by decide)).symm.trans HR.out)
            obtain rfl := Option.some.inj HR.out
            clear HR cz
            go_wp2_with fail
            go_ret
            exact ⟨rfl, HB.out⟩
          · rw [decide_eq_false cz] at hs
            replace HR := Aside0.mk ((if_pos ⟨rfl, .inr cz⟩).symm.trans HR.out)
            obtain rfl := Option.some.inj HR.out
            clear HR cz
            go_wp2_with fail
            go_ret
            exact ⟨rfl, HB.out⟩
      | false =>
        replace HR := Aside0.mk ((if_neg (fun hh => Bool.noConfusion hh.1)).symm.trans HR.out)
        cases h with
        | true =>
          replace HR := Aside0.mk ((if_pos rfl).symm.trans HR.out)
          obtain rfl := Option.some.inj HR.out
          clear HR hs
          go_wp2_with fail
          go_ret
          exact ⟨rfl, HB.out⟩
        | false =>
          replace HR := Aside0.mk ((if_neg (by decide)).symm.trans HR.out)
          obtain rfl := Option.some.inj HR.out
          clear HR hs
          go_wp2_with fail
          go_ret
          exact ⟨rfl, HB.out⟩
set_option maxHeartbeats 800000 in
set_option maxRecDepth 100000 in
theorem it_stub (k : Int) (i : ByteArray) (q s : Int) (d : Bool) (x y : Int) (t : ByteArray) (h : Bool) (w : World) : Calls Try.prog 25 #[.agg (itC k i q s d x y t h)] w fun e w' => e = .returned (.agg (itC k i q s d x y ⟨#[]⟩ false)) ∧ Below w.heap.size w w' := by
  have hu := Try.underlying40
  go_enter Try.func25, Try.ntmps25
  go_wp2_with fail
  exact bodyPost_ret (results_cell_row rfl _ _ (w.heap.size + 1) 40 (itC k i q s d x y ⟨#[]⟩ false) (0, 0) _ rfl (by
    have h := blk_new (w.alloc (.cells (itC k i q s d x y ⟨#[]⟩ false) 40)) (.cells (itC k i q s d x y ⟨#[]⟩ false) 40)
    have e : (w.alloc (.cells (itC k i q s d x y ⟨#[]⟩ false) 40)).heap.size = w.heap.size + 1   := Array.size_push _
    rwa [e] at h) hu rfl rfl) rfl ⟨rfl, below_alloc (below_alloc (Below.refl _ _) _) _⟩
set_option maxHeartbeats 800000 in
set_option maxRecDepth 100000 in
theorem it_kind (k : Int) (i : ByteArray) (q s : Int) (d : Bool) (x y : Int) (t : ByteArray) (h : Bool) (w : World) : Calls Try.prog 40 #[.agg (itC k i q s d x y t h)] w fun e w' => e = .returned (.int .i64 (if d then 0 else if h then 2 else 1)) ∧ Below w.heap.size w w' := by
  cases d <;> cases h <;> (go_enter Try.func40, Try.ntmps40; go_wp2_with fail; go_ret; exact ⟨rfl, below_alloc (Below.refl _ _) _⟩)
set_option maxHeartbeats 800000 in
set_option maxRecDepth 100000 in
theorem it_part (k : Nat) (g : Nat) (l : List Int) (a e r1 r2 r3 : Int) (w : World) (hI : RD 69 w g l a e) (h : wire_Reader_Num.f k l a e 2000 = some (r1, r2, r3)) (h0 : 0 ≤ r1) (h1 : r1 ≤ 2000) :
    Calls Try.prog 34 #[.pointer (some ⟨g, 0, none⟩)] w fun x w' => x = .returned (.float .f64 (fl (r1 - 1000))) ∧ RD 69 w' g l r2 r3 ∧ (∀ w0 : World, w0.heap.size ≤ g → Below w0.heap.size w0 w → Below w0.heap.size w0 w') ∧ KeepBut w w' g none := by
  have HN := Aside0.mk h
  have HI := Aside0.mk hI
  have hw : wrap64 (r1 - 1000) = r1 - 1000 := Go.Proofs.Ytkmhanpamdgnjaa.Pure.wrap_id (by omega) (by omega)
  clear h hI
  go_enter Try.func34, Try.ntmps34
  go_wp2_with fail
  refine (rd_num k g l a e _ r1 r2 r3 w HI.out HN.out).mono ?_
  rintro e w1 ⟨rfl, hi, hb, hk⟩
  have HX := Aside0.mk (And.intro hi (And.intro hb hk))
  clear hi hb hk HI HN
  go_wp2_with fail
  go_ret
  exact ⟨rfl, HX.out.1, HX.out.2.1, HX.out.2.2⟩
set_option maxHeartbeats 800000 in
set_option maxRecDepth 100000 in
theorem it_spot (x y : Int) (w : World) : Calls Try.prog 43 #[.agg #[.int .i64 x, .int .i64 y]] w fun e w' => e = .returned (.complex .f64 (fl x) (fl y)) ∧ Below w.heap.size w w' := by
  go_enter Try.func43, Try.ntmps43
  go_wp2_with fail
  go_ret
  exact ⟨rfl, below_alloc (Below.refl _ _) _⟩
set_option maxHeartbeats 800000 in
set_option maxRecDepth 100000 in
theorem it_place (x y : Int) (w : World) (hx : x.natAbs < 2 ^ 53) (hy : y.natAbs < 2 ^ 53) : Calls Try.prog 37 #[.complex .f64 (fl x) (fl y)] w fun e w' => e = .returned (.agg #[.int .i64 x, .int .i64 y]) ∧ Below w.heap.size w w' := by
  have f1 := fun (W : World) => run_convert_float_int (P := Try.prog) W 72 3 .f64 .i64 (fl x) x rfl Try.underlying3 (fl_int x hx)
  have f2 := fun (W : World) => run_convert_float_int (P := Try.prog) W 72 3 .f64 .i64 (fl y) y rfl Try.underlying3 (fl_int y hy)
  have hu := Try.underlying44
  go_enter Try.func37, Try.ntmps37
  go_wp2_with fail
  exact bodyPost_ret (results_cell_row rfl _ _ w.heap.size 44 #[.int .i64 x, .int .i64 y] (0, 0) _ rfl (blk_new _ _) hu rfl rfl) rfl ⟨rfl, below_alloc (Below.refl _ _) _⟩
/-- An item. -/
structure It where
  (k : Int) (i : ByteArray) (q s : Int) (d : Bool) (x y : Int) (t : ByteArray) (h : Bool)
abbrev It.v (I : It) : Array Value := itC I.k I.i I.q I.s I.d I.x I.y I.t I.h
def It.zero : It := ⟨0, ⟨#[]⟩, 0, 0, false, 0, 0, ⟨#[]⟩, false⟩
def It.right (I : It) : Option Bool := itRight I.k I.i I.q I.s I.d I.x I.y I.t I.h
abbrev zC : Array Value := #[.int .i64 0, .string ⟨#[]⟩, .int .i64 0, .int .i64 0, .bool false, .complex .f64 0 0, .string ⟨#[]⟩, .bool false]
theorem zC_eq : zC = It.zero.v := by
  show zC = itC 0 ⟨#[]⟩ 0 0 false 0 0 ⟨#[]⟩ false
  rw [zC, itC, ← fl_0]
/-- A part of a place that is taken. -/
def itPart (k : Nat) (l : List Int) (a e : Int) : Option (Int × Int × Int) := (wire_Reader_Num.f k l a e 2000).bind fun p => if 0 ≤ p.1 ∧ p.1 ≤ 2000 then some (p.1 - 1000, p.2.1, p.2.2) else none
def itSpot (k : Nat) (l : List Int) (kd a e : Int) : Option (Int × Int × Int × Int) := if kd = 0 then some (0, 0, a, e) else (itPart k l a e).bind fun p => (itPart k l p.2.1 p.2.2).bind fun p' => some (p.1, p'.1, p'.2.1, p'.2.2)
def itText (k : Nat) (l : List Int) (kd a e : Int) : Option (ByteArray × Int × Int) := if kd = 2 then wire_Reader_Text.f k l a e 16 else some (⟨#[]⟩, a, e)
def itEnd (I : It) (a e : Int) : Option (It × Bool × Int × Int) := if e = 0 then (I.right).bind fun r => if r = true then some (I, true, a, e) else some (It.zero, false, a, e) else some (It.zero, false, a, e)
def itTake (k : Nat) (l : List Int) (a e : Int) : Option (It × Bool × Int × Int) :=
  (wire_Reader_Num.f k l a e 31).bind fun p1 => (wire_Reader_Text.f k l p1.2.1 p1.2.2 6).bind fun p2 => (wire_Reader_Num.f k l p2.2.1 p2.2.2 1048576).bind fun p3 => (wire_Reader_Num.f k l p3.2.1 p3.2.2 1048576).bind fun p4 =>
  (wire_Reader_Num.f k l p4.2.1 p4.2.2 2).bind fun p5 => (itSpot k l p5.1 p5.2.1 p5.2.2).bind fun p6 => (itText k l p5.1 p6.2.2.1 p6.2.2.2).bind fun p7 =>
  itEnd ⟨p1.1, p2.1, p3.1, p4.1, p5.1 == 0, p6.1, p6.2.1, p7.1, p5.1 == 2⟩ p7.2.1 p7.2.2
theorem tk_put8 {t T : TypeId} {w W : World} {g gr gx : Nat} {l : List Int} {a e : Int} {o0 o1 o2 o3 o4 o5 o6 o7 : Value} {cs : Array Value} (h : TK t T w W g gr gx l a e #[o0, o1, o2, o3, o4, o5, o6, o7] cs) (v0 v1 v2 v3 v4 v5 v6 v7 : Value) :
    TK t T w ((((((((W.setCell ⟨gr, 0, none⟩ v0).setCell ⟨gr, 1, none⟩ v1).setCell ⟨gr, 2, none⟩ v2).setCell ⟨gr, 3, none⟩ v3).setCell ⟨gr, 4, none⟩ v4).setCell ⟨gr, 5, none⟩ v5).setCell ⟨gr, 6, none⟩ v6).setCell ⟨gr, 7, none⟩ v7) g gr gx l a e #[v0, v1, v2, v3, v4, v5, v6, v7] cs := by
  have h0 : TK t T w (W.setCell ⟨gr, 0, none⟩ v0) g gr gx l a e #[v0, o1, o2, o3, o4, o5, o6, o7] cs := h.setr 0 v0
  have h1 : TK t T w ((W.setCell ⟨gr, 0, none⟩ v0).setCell ⟨gr, 1, none⟩ v1) g gr gx l a e #[v0, v1, o2, o3, o4, o5, o6, o7] cs := h0.setr 1 v1
  have h2 : TK t T w (((W.setCell ⟨gr, 0, none⟩ v0).setCell ⟨gr, 1, none⟩ v1).setCell ⟨gr, 2, none⟩ v2) g gr gx l a e #[v0, v1, v2, o3, o4, o5, o6, o7] cs := h1.setr 2 v2
  have h3 : TK t T w ((((W.setCell ⟨gr, 0, none⟩ v0).setCell ⟨gr, 1, none⟩ v1).setCell ⟨gr, 2, none⟩ v2).setCell ⟨gr, 3, none⟩ v3) g gr gx l a e #[v0, v1, v2, v3, o4, o5, o6, o7] cs := h2.setr 3 v3
  have h4 : TK t T w (((((W.setCell ⟨gr, 0, none⟩ v0).setCell ⟨gr, 1, none⟩ v1).setCell ⟨gr, 2, none⟩ v2).setCell ⟨gr, 3, none⟩ v3).setCell ⟨gr, 4, none⟩ v4) g gr gx l a e #[v0, v1, v2, v3, v4, o5, o6, o7] cs := h3.setr 4 v4
  have h5 : TK t T w ((((((W.setCell ⟨gr, 0, none⟩ v0).setCell ⟨gr, 1, none⟩ v1).setCell ⟨gr, 2, none⟩ v2).setCell ⟨gr, 3, none⟩ v3).setCell ⟨gr, 4, none⟩ v4).setCell ⟨gr, 5, none⟩ v5) g gr gx l a e #[v0, v1, v2, v3, v4, v5, o6, o7] cs := h4.setr 5 v5
  have h6 : TK t T w (((((((W.setCell ⟨gr, 0, none⟩ v0).setCell ⟨gr, 1, none⟩ v1).setCell ⟨gr, 2, none⟩ v2).setCell ⟨gr, 3, none⟩ v3).setCell ⟨gr, 4, none⟩ v4).setCell ⟨gr, 5, none⟩ v5).setCell ⟨gr, 6, none⟩ v6) g gr gx l a e #[v0, v1, v2, v3, v4, v5, v6, o7] cs := h5.setr 6 v6
  have h7 : TK t T w ((((((((W.setCell ⟨gr, 0, none⟩ v0).setCell ⟨gr, 1, none⟩ v1).setCell ⟨gr, 2, none⟩ v2).setCell ⟨gr, 3, none⟩ v3).setCell ⟨gr, 4, none⟩ v4).setCell ⟨gr, 5, none⟩ v5).setCell ⟨gr, 6, none⟩ v6).setCell ⟨gr, 7, none⟩ v7) g gr gx l a e #[v0, v1, v2, v3, v4, v5, v6, v7] cs := h6.setr 7 v7
  exact h7
theorem itSpot_bnd {k : Nat} {l : List Int} {kd a e x y a' e' : Int} (h : itSpot k l kd a e = some (x, y, a', e')) : x.natAbs ≤ 1000 ∧ y.natAbs ≤ 1000 := by
  have hp : ∀ {b d z b' d' : Int}, itPart k l b d = some (z, b', d') → z.natAbs ≤ 1000 := by
    intro b d z b' d' hz
    rw [itPart] at hz
    obtain ⟨⟨m, b1, d1⟩, -, hz⟩ := Option.bind_eq_some_iff.mp hz
    dsimp only at hz
    by_cases hr : 0 ≤ m ∧ m ≤ 2000
    · rw [if_pos hr] at hz
      simp only [Option.some.injEq, Prod.mk.injEq] at hz
      omega
    · rw [if_neg hr] at hz; cases hz
  rw [itSpot] at h
  by_cases h0 : kd = 0
  · rw [if_pos h0] at h
    simp only [Option.some.injEq, Prod.mk.injEq] at h
    omega
  · rw [if_neg h0] at h
    obtain ⟨⟨x8, a8, e8⟩, g8, h⟩ := Option.bind_eq_some_iff.mp h
    obtain ⟨⟨x9, a9, e9⟩, g9, h⟩ := Option.bind_eq_some_iff.mp h
    dsimp only at g8 g9 h
    simp only [Option.some.injEq, Prod.mk.injEq] at h
    have h8 := hp g8
    have h9 := hp g9
    omega
theorem tk_cells {W : World} {g : Nat} {k : Int} {i : ByteArray} {q s : Int} {d : Bool} {x y : Nat} {t : ByteArray} {h : Bool} {T : TypeId} (b : W.heap[g]? = some (.cells #[.int .i64 k, .string i, .int .i64 q, .int .i64 s, .bool d, .complex .f64 x y, .string t, .bool h] T (0, 0))) :
    (W.cell? ⟨g, 0, none⟩ = some (.int .i64 k) ∧ W.cell? ⟨g, 1, none⟩ = some (.string i) ∧ W.cell? ⟨g, 2, none⟩ = some (.int .i64 q) ∧ W.cell? ⟨g, 3, none⟩ = some (.int .i64 s) ∧ W.cell? ⟨g, 4, none⟩ = some (.bool d) ∧ W.cell? ⟨g, 5, none⟩ = some (.complex .f64 x y) ∧ W.cell? ⟨g, 6, none⟩ = some (.string t) ∧ W.cell? ⟨g, 7, none⟩ = some (.bool h)) ∧
    W.frozen? ⟨g, 0, none⟩ = false ∧ W.frozen? ⟨g, 1, none⟩ = false ∧ W.frozen? ⟨g, 2, none⟩ = false ∧ W.frozen? ⟨g, 3, none⟩ = false ∧ W.frozen? ⟨g, 4, none⟩ = false ∧ W.frozen? ⟨g, 5, none⟩ = false ∧ W.frozen? ⟨g, 6, none⟩ = false ∧ W.frozen? ⟨g, 7, none⟩ = false :=
  ⟨it_cells b, blk_frozen b 0, blk_frozen b 1, blk_frozen b 2, blk_frozen b 3, blk_frozen b 4, blk_frozen b 5, blk_frozen b 6, blk_frozen b 7⟩
set_option maxHeartbeats 8000000 in
set_option maxRecDepth 100000 in
theorem it_take (k : Nat) (g : Nat) (l : List Int) (a e : Int) (I : It) (ok : Bool) (a' e' : Int) (w : World) (hI : RD 69 w g l a e) (h : itTake k l a e = some (I, ok, a', e')) :
    Calls Try.prog 14 #[.pointer (some ⟨g, 0, none⟩)] w fun x w' => x = .returned (.tuple #[.agg I.v, .bool ok]) ∧ RD 69 w' g l a' e' ∧ (∀ w0 : World, w0.heap.size ≤ g → Below w0.heap.size w0 w → Below w0.heap.size w0 w') ∧ KeepBut w w' g none := by
  obtain ⟨⟨n1, a1, e1⟩, f1, h⟩ := Option.bind_eq_some_iff.mp h
  obtain ⟨⟨t2, a2, e2⟩, f2, h⟩ := Option.bind_eq_some_iff.mp h
  obtain ⟨⟨n3, a3, e3⟩, f3, h⟩ := Option.bind_eq_some_iff.mp h
  obtain ⟨⟨n4, a4, e4⟩, f4, h⟩ := Option.bind_eq_some_iff.mp h
  obtain ⟨⟨n5, a5, e5⟩, f5, h⟩ := Option.bind_eq_some_iff.mp h
  obtain ⟨⟨x6, y6, a6, e6⟩, f6, h⟩ := Option.bind_eq_some_iff.mp h
  obtain ⟨⟨t7, a7, e7⟩, f7, h⟩ := Option.bind_eq_some_iff.mp h
  dsimp only at f1 f2 f3 f4 f5 f6 f7 h
  have F1 := Aside0.mk f1
  have F2 := Aside0.mk f2
  have F3 := Aside0.mk f3
  have F4 := Aside0.mk f4
  have F5 := Aside0.mk f5
  have F6 := Aside0.mk f6
  have F7 := Aside0.mk f7
  have F8 := Aside0.mk h
  clear f1 f2 f3 f4 f5 f6 f7 h
  have HXB := Aside0.mk (itSpot_bnd F6.out)
  have HI := Aside0.mk (hI.below (below_alloc (Below.refl w.heap.size w) (.cells zC 40)))
  have HLT := Aside0.mk hI.lt
  clear hI
  have hu := Try.underlying40
  go_enter Try.func14, Try.ntmps14
  go_wp2_with fail
  refine (rd_num k g l a e _ n1 a1 e1 _ HI.out F1.out).mono ?_
  rintro ev w1 ⟨rfl, hi, hb, hk⟩
  have HW := Aside0.mk (show w.heap.size < w1.heap.size from Nat.lt_of_lt_of_le (blk_lt (blk_new w _)) hk.1)
  have HT := Aside0.mk (show TK 69 40 w (w1.alloc (.cells #[.int .i64 n1, .string ⟨#[]⟩, .int .i64 0, .int .i64 0, .bool false, .complex .f64 0 0, .string ⟨#[]⟩, .bool false] 40)) g w.heap.size w1.heap.size l a1 e1 zC #[.int .i64 n1, .string ⟨#[]⟩, .int .i64 0, .int .i64 0, .bool false, .complex .f64 0 0, .string ⟨#[]⟩, .bool false] from by
    have h1 : w1.heap[w.heap.size]? = some (.cells zC 40 (0, 0)) := hk.blk (blk_new w _) (by have := HLT.out; omega) (by simp)
    refine ⟨hi.below (below_alloc (Below.refl _ _) _), blk_below h1 (below_alloc (Below.refl _ _) _), blk_new _ _, keep_alloc ((keep_alloc (KeepBut.refl w g none) _).trans hk (.inl rfl)) _, fun w0 hg hB => below_alloc (hb w0 hg (below_alloc hB _)) _, HLT.out, Nat.le_refl _, Nat.le_of_lt HW.out, by have := HW.out; omega⟩)
  clear hi hb hk HI F1
  go_wp2_with fail
  refine (rd_text k g l a1 e1 _ t2 a2 e2 _ HT.out.1 F2.out).mono ?_
  rintro ev w2 ⟨rfl, hi, hb, hk⟩
  replace HT := Aside0.mk (HT.out.call hi hb hk)
  clear hi hb hk F2
  generalize w1.heap.size = gx at HW HT ⊢
  obtain ⟨⟨c0, c1, c2, c3, c4, c5, c6, c7⟩, z0, z1, z2, z3, z4, z5, z6, z7⟩ := tk_cells HT.out.2.2.1
  go_wp2_with fail
  replace HT := Aside0.mk (show TK 69 40 w (w2.setCell ⟨gx, 1, none⟩ (.string t2)) g w.heap.size gx l a2 e2 zC #[.int .i64 n1, .string t2, .int .i64 0, .int .i64 0, .bool false, .complex .f64 0 0, .string ⟨#[]⟩, .bool false] from HT.out.set 1 (.string t2))
  clear c0 c1 c2 c3 c4 c5 c6 c7 z0 z1 z2 z3 z4 z5 z6 z7
  refine (rd_num k g l a2 e2 _ n3 a3 e3 _ HT.out.1 F3.out).mono ?_
  rintro ev w3 ⟨rfl, hi, hb, hk⟩
  replace HT := Aside0.mk (HT.out.call hi hb hk)
  clear hi hb hk F3
  go_wp2_with fail
  refine (rd_num k g l a3 e3 _ n4 a4 e4 _ HT.out.1 F4.out).mono ?_
  rintro ev w4 ⟨rfl, hi, hb, hk⟩
  replace HT := Aside0.mk (HT.out.call hi hb hk)
  clear hi hb hk F4
  obtain ⟨⟨c0, c1, c2, c3, c4, c5, c6, c7⟩, z0, z1, z2, z3, z4, z5, z6, z7⟩ := tk_cells HT.out.2.2.1
  go_wp2_with fail
  replace HT := Aside0.mk (show TK 69 40 w ((w4.setCell ⟨gx, 2, none⟩ (.int .i64 n3)).setCell ⟨gx, 3, none⟩ (.int .i64 n4)) g w.heap.size gx l a4 e4 zC #[.int .i64 n1, .string t2, .int .i64 n3, .int .i64 n4, .bool false, .complex .f64 0 0, .string ⟨#[]⟩, .bool false] from (HT.out.set 2 (.int .i64 n3)).set 3 (.int .i64 n4))
  clear c0 c1 c2 c3 c4 c5 c6 c7 z0 z1 z2 z3 z4 z5 z6 z7
  refine (rd_num k g l a4 e4 _ n5 a5 e5 _ HT.out.1 F5.out).mono ?_
  rintro ev w5 ⟨rfl, hi, hb, hk⟩
  replace HT := Aside0.mk (HT.out.call hi hb hk)
  clear hi hb hk F5
  obtain ⟨⟨c0, c1, c2, c3, c4, c5, c6, c7⟩, z0, z1, z2, z3, z4, z5, z6, z7⟩ := tk_cells HT.out.2.2.1
  go_upto_if 31 with fail
  replace HT := Aside0.mk (show TK 69 40 w ((w5.setCell ⟨gx, 4, none⟩ (.bool (n5 == 0))).setCell ⟨gx, 7, none⟩ (.bool (n5 == 2))) g w.heap.size gx l a5 e5 zC #[.int .i64 n1, .string t2, .int .i64 n3, .int .i64 n4, .bool (n5 == 0), .complex .f64 0 0, .string ⟨#[]⟩, .bool (n5 == 2)] from (HT.out.set 4 (.bool (n5 == 0))).set 7 (.bool (n5 == 2)))
  clear c0 c1 c2 c3 c4 c5 c6 c7 z0 z1 z2 z3 z4 z5 z6 z7
  go_cut [] (fun wc => TK 69 40 w wc g w.heap.size gx l a6 e6 zC #[.int .i64 n1, .string t2, .int .i64 n3, .int .i64 n4, .bool (n5 == 0), .complex .f64 (fl x6) (fl y6), .string ⟨#[]⟩, .bool (n5 == 2)])
  case first =>
    generalize (w5.setCell ⟨gx, 4, none⟩ (.bool (n5 == 0))).setCell ⟨gx, 7, none⟩ (.bool (n5 == 2)) = wq at HT ⊢
    have f6 := F6.out
    rw [itSpot] at f6
    clear F6
    by_cases hn : n5 = 0
    · have hn1 : (n5 != 0) = false := bne_eq_false_iff_eq.mpr hn
      rw [if_pos hn] at f6
      simp only [Option.some.injEq, Prod.mk.injEq] at f6
      obtain ⟨rfl, rfl, rfl, rfl⟩ := f6
      rw [hn1]
      clear hn hn1
      go_wp2_with fail
      go_meet
      case rel => rw [← fl_0]; exact HT.out
    · have hn1 : (n5 != 0) = true := bne_iff_ne.mpr hn
      rw [if_neg hn] at f6
      obtain ⟨⟨x8, a8, e8⟩, g8, f6⟩ := Option.bind_eq_some_iff.mp f6
      obtain ⟨⟨x9, a9, e9⟩, g9, f6⟩ := Option.bind_eq_some_iff.mp f6
      dsimp only at g8 g9 f6
      simp only [Option.some.injEq, Prod.mk.injEq] at f6
      obtain ⟨rfl, rfl, rfl, rfl⟩ := f6
      rw [itPart] at g8 g9
      obtain ⟨⟨m8, b8, d8⟩, j8, k8⟩ := Option.bind_eq_some_iff.mp g8
      obtain ⟨⟨m9, b9, d9⟩, j9, k9⟩ := Option.bind_eq_some_iff.mp g9
      dsimp only at k8 k9
      clear g8 g9
      by_cases hr8 : 0 ≤ m8 ∧ m8 ≤ 2000
      rotate_left
      · rw [if_neg hr8] at k8; cases k8
      by_cases hr9 : 0 ≤ m9 ∧ m9 ≤ 2000
      rotate_left
      · rw [if_neg hr9] at k9; cases k9
      rw [if_pos hr8] at k8
      rw [if_pos hr9] at k9
      simp only [Option.some.injEq, Prod.mk.injEq] at k8 k9
      obtain ⟨rfl, rfl, rfl⟩ := k8
      obtain ⟨rfl, rfl, rfl⟩ := k9
      have J8 := Aside0.mk j8
      have J9 := Aside0.mk j9
      clear j8 j9 hn
      rw [hn1]
      clear hn1
      go_wp2_with fail
      refine (it_part k g l a5 e5 m8 b8 d8 _ HT.out.1 J8.out hr8.1 hr8.2).mono ?_
      rintro ev w6 ⟨rfl, hi, hb, hk⟩
      replace HT := Aside0.mk (HT.out.call hi hb hk)
      clear hi hb hk J8
      go_wp2_with fail
      refine (it_part k g l b8 d8 m9 b9 d9 _ HT.out.1 J9.out hr9.1 hr9.2).mono ?_
      rintro ev w7 ⟨rfl, hi, hb, hk⟩
      replace HT := Aside0.mk (HT.out.call hi hb hk)
      clear hi hb hk J9
      obtain ⟨⟨c0, c1, c2, c3, c4, c5, c6, c7⟩, z0, z1, z2, z3, z4, z5, z6, z7⟩ := tk_cells HT.out.2.2.1
      go_wp2_with fail
      go_meet
      case rel => exact HT.out.set 5 (.complex .f64 (fl (m8 - 1000)) (fl (m9 - 1000)))
  case rest =>
    clear HT F6
    have HT := Aside0.mk hcut
    clear hcut
    go_upto_if 40 with fail
    go_cut [] (fun wd => TK 69 40 w wd g w.heap.size gx l a7 e7 zC #[.int .i64 n1, .string t2, .int .i64 n3, .int .i64 n4, .bool (n5 == 0), .complex .f64 (fl x6) (fl y6), .string t7, .bool (n5 == 2)])
    case first =>
      have f7 := F7.out
      rw [itText] at f7
      clear F7
      by_cases hn : n5 = 2
      · have hn1 : (n5 == 2) = true := beq_iff_eq.mpr hn
        rw [if_pos hn] at f7
        rw [hn1]
        clear hn hn1
        go_wp2_with fail
        refine (rd_text k g l a6 e6 _ t7 a7 e7 _ HT.out.1 f7).mono ?_
        rintro ev w6 ⟨rfl, hi, hb, hk⟩
        replace HT := Aside0.mk (HT.out.call hi hb hk)
        clear hi hb hk f7
        obtain ⟨⟨c0, c1, c2, c3, c4, c5, c6, c7⟩, z0, z1, z2, z3, z4, z5, z6, z7⟩ := tk_cells HT.out.2.2.1
        go_wp2_with fail
        go_meet
        case rel => exact HT.out.set 6 (.string t7)
      · have hn1 : (n5 == 2) = false := beq_eq_false_iff_ne.mpr hn
        rw [if_neg hn] at f7
        simp only [Option.some.injEq, Prod.mk.injEq] at f7
        obtain ⟨rfl, rfl, rfl⟩ := f7
        rw [hn1]
        clear hn hn1
        go_wp2_with fail
        go_meet
        case rel => exact HT.out
    case rest =>
      clear HT F7
      have HT := Aside0.mk hcut
      clear hcut
      go_wp2_with fail
      refine (rd_err g l a7 e7 _ HT.out.1).mono ?_
      rintro ev w8 ⟨rfl, hi, hb, hk⟩
      replace HT := Aside0.mk (HT.out.call hi hb hk)
      clear hi hb hk
      have f8 := F8.out
      rw [itEnd] at f8
      clear F8
      by_cases he : e7 = 0
      rotate_left
      · have he1 : (e7 != 0) = true := bne_iff_ne.mpr he
        rw [if_neg he] at f8
        simp only [Option.some.injEq, Prod.mk.injEq] at f8
        obtain ⟨rfl, rfl, rfl, rfl⟩ := f8
        obtain ⟨⟨c0, c1, c2, c3, c4, c5, c6, c7⟩, z0, z1, z2, z3, z4, z5, z6, z7⟩ := tk_cells HT.out.2.1
        go_wp2_with fail
        have ht := tk_put8 HT.out (.int .i64 0) (.string ⟨#[]⟩) (.int .i64 0) (.int .i64 0) (.bool false) (.complex .f64 0 0) (.string ⟨#[]⟩) (.bool false)
        exact bodyPost_ret (results_ct rfl _ _ w.heap.size 40 _ (0, 0) _ rfl ht.2.1 hu rfl (by kernel_rfl)) rfl ⟨by rw [← zC_eq]; rfl, ht.1, ht.2.2.2.2.1, ht.2.2.2.1⟩
      have he1 : (e7 != 0) = false := bne_eq_false_iff_eq.mpr he
      rw [if_pos he] at f8
      clear he
      obtain ⟨rt, hrt, f8⟩ := Option.bind_eq_some_iff.mp f8
      have HRT := Aside0.mk (show itRight n1 t2 n3 n4 (n5 == 0) x6 y6 t7 (n5 == 2) = some rt from hrt)
      have F8 := Aside0.mk f8
      clear hrt f8
      obtain ⟨⟨c0, c1, c2, c3, c4, c5, c6, c7⟩, z0, z1, z2, z3, z4, z5, z6, z7⟩ := tk_cells HT.out.2.2.1
      go_wp2_with fail
      refine (it_right n1 t2 n3 n4 (n5 == 0) x6 y6 t7 (n5 == 2) rt w8 (by have := HXB.out; omega) (by have := HXB.out; omega) HRT.out).mono ?_
      rintro ev w9 ⟨rfl, hb⟩
      replace HT := Aside0.mk (HT.out.below hb)
      clear hb c0 c1 c2 c3 c4 c5 c6 c7 z0 z1 z2 z3 z4 z5 z6 z7
      have f8 := F8.out
      clear F8
      cases rt with
      | false =>
        rw [if_neg (by decide)] at f8
        simp only [Option.some.injEq, Prod.mk.injEq] at f8
        obtain ⟨rfl, rfl, rfl, rfl⟩ := f8
        obtain ⟨⟨c0, c1, c2, c3, c4, c5, c6, c7⟩, z0, z1, z2, z3, z4, z5, z6, z7⟩ := tk_cells HT.out.2.1
        go_wp2_with fail
        have ht := tk_put8 HT.out (.int .i64 0) (.string ⟨#[]⟩) (.int .i64 0) (.int .i64 0) (.bool false) (.complex .f64 0 0) (.string ⟨#[]⟩) (.bool false)
        exact bodyPost_ret (results_ct rfl _ _ w.heap.size 40 _ (0, 0) _ rfl ht.2.1 hu rfl (by kernel_rfl)) rfl ⟨by rw [← zC_eq]; rfl, ht.1, ht.2.2.2.2.1, ht.2.2.2.1⟩
      | true =>
        rw [if_pos rfl] at f8
        simp only [Option.some.injEq, Prod.mk.injEq] at f8
        obtain ⟨rfl, rfl, rfl, rfl⟩ := f8
        obtain ⟨⟨c0, c1, c2, c3, c4, c5, c6, c7⟩, z0, z1, z2, z3, z4, z5, z6, z7⟩ := tk_cells HT.out.2.1
        obtain ⟨⟨d0, d1, d2, d3, d4, d5, d6, d7⟩, -⟩ := tk_cells HT.out.2.2.1
        go_wp2_with fail
        have ht := tk_put8 HT.out (.int .i64 n1) (.string t2) (.int .i64 n3) (.int .i64 n4) (.bool (n5 == 0)) (.complex .f64 (fl x6) (fl y6)) (.string t7) (.bool (n5 == 2))
        exact bodyPost_ret (results_ct rfl _ _ w.heap.size 40 _ (0, 0) _ rfl ht.2.1 hu rfl (by kernel_rfl)) rfl ⟨rfl, ht.1, ht.2.2.2.2.1, ht.2.2.2.1⟩
theorem ta_cells {W : World} {g : Nat} {k : Int} {i : ByteArray} {q s : Int} {d : Bool} {x y : Int} {t : ByteArray} {h : Bool} {T : TypeId} (b : W.heap[g]? = some (.cells #[.int .i64 k, .string i, .int .i64 q, .int .i64 s, .bool d, .int .i64 x, .int .i64 y, .string t, .bool h] T (0, 0))) :
    W.cell? ⟨g, 0, none⟩ = some (.int .i64 k) ∧ W.cell? ⟨g, 1, none⟩ = some (.string i) ∧ W.cell? ⟨g, 2, none⟩ = some (.int .i64 q) ∧ W.cell? ⟨g, 3, none⟩ = some (.int .i64 s) ∧ W.cell? ⟨g, 4, none⟩ = some (.bool d) ∧ W.cell? ⟨g, 5, none⟩ = some (.int .i64 x) ∧ W.cell? ⟨g, 6, none⟩ = some (.int .i64 y) ∧ W.cell? ⟨g, 7, none⟩ = some (.string t) ∧ W.cell? ⟨g, 8, none⟩ = some (.bool h) :=
  ⟨(blk_cell b 0).trans rfl, (blk_cell b 1).trans rfl, (blk_cell b 2).trans rfl, (blk_cell b 3).trans rfl, (blk_cell b 4).trans rfl, (blk_cell b 5).trans rfl, (blk_cell b 6).trans rfl, (blk_cell b 7).trans rfl, (blk_cell b 8).trans rfl⟩
theorem below_new {w : World} (o o' : Obj) : Below w.heap.size w ((w.alloc o).alloc o') := below_alloc (below_alloc (Below.refl _ _) _) _
/-- The document's item, as cells. -/
abbrev rfC (k : Int) (i : ByteArray) (q s : Int) (d : Bool) (x y : Int) (t : ByteArray) (h : Bool) : Array Value := #[.int .i64 k, .string i, .int .i64 q, .int .i64 s, .bool d, .int .i64 x, .int .i64 y, .string t, .bool h]
theorem below_put8 {B : Nat} {w W : World} {g : Nat} (h : Below B w W) (hg : B ≤ g) (v0 v1 v2 v3 v4 v5 v6 v7 : Value) : Below B w ((((((((W.setCell ⟨g, 0, none⟩ v0).setCell ⟨g, 1, none⟩ v1).setCell ⟨g, 2, none⟩ v2).setCell ⟨g, 3, none⟩ v3).setCell ⟨g, 4, none⟩ v4).setCell ⟨g, 5, none⟩ v5).setCell ⟨g, 6, none⟩ v6).setCell ⟨g, 7, none⟩ v7) :=
  (((((((h.setCell hg _).setCell hg _).setCell hg _).setCell hg _).setCell hg _).setCell hg _).setCell hg _).setCell hg _
theorem blk_put8 {W : World} {g : Nat} {T : TypeId} {o0 o1 o2 o3 o4 o5 o6 o7 : Value} (h : W.heap[g]? = some (.cells #[o0, o1, o2, o3, o4, o5, o6, o7] T (0, 0))) (v0 v1 v2 v3 v4 v5 v6 v7 : Value) : ((((((((W.setCell ⟨g, 0, none⟩ v0).setCell ⟨g, 1, none⟩ v1).setCell ⟨g, 2, none⟩ v2).setCell ⟨g, 3, none⟩ v3).setCell ⟨g, 4, none⟩ v4).setCell ⟨g, 5, none⟩ v5).setCell ⟨g, 6, none⟩ v6).setCell ⟨g, 7, none⟩ v7).heap[g]? = some (.cells #[v0, v1, v2, v3, v4, v5, v6, v7] T (0, 0)) := by
  have h0 := blk_put (cs' := #[v0, o1, o2, o3, o4, o5, o6, o7]) h 0 v0 rfl
  have h1 := blk_put (cs' := #[v0, v1, o2, o3, o4, o5, o6, o7]) h0 1 v1 rfl
  have h2 := blk_put (cs' := #[v0, v1, v2, o3, o4, o5, o6, o7]) h1 2 v2 rfl
  have h3 := blk_put (cs' := #[v0, v1, v2, v3, o4, o5, o6, o7]) h2 3 v3 rfl
  have h4 := blk_put (cs' := #[v0, v1, v2, v3, v4, o5, o6, o7]) h3 4 v4 rfl
  have h5 := blk_put (cs' := #[v0, v1, v2, v3, v4, v5, o6, o7]) h4 5 v5 rfl
  have h6 := blk_put (cs' := #[v0, v1, v2, v3, v4, v5, v6, o7]) h5 6 v6 rfl
  exact blk_put (cs' := #[v0, v1, v2, v3, v4, v5, v6, v7]) h6 7 v7 rfl
theorem blk_put9 {W : World} {g : Nat} {T : TypeId} {o0 o1 o2 o3 o4 o5 o6 o7 o8 : Value} (h : W.heap[g]? = some (.cells #[o0, o1, o2, o3, o4, o5, o6, o7, o8] T (0, 0))) (v0 v1 v2 v3 v4 v5 v6 v7 v8 : Value) : (((((((((W.setCell ⟨g, 0, none⟩ v0).setCell ⟨g, 1, none⟩ v1).setCell ⟨g, 2, none⟩ v2).setCell ⟨g, 3, none⟩ v3).setCell ⟨g, 4, none⟩ v4).setCell ⟨g, 5, none⟩ v5).setCell ⟨g, 6, none⟩ v6).setCell ⟨g, 7, none⟩ v7).setCell ⟨g, 8, none⟩ v8).heap[g]? = some (.cells #[v0, v1, v2, v3, v4, v5, v6, v7, v8] T (0, 0)) := by
  have h0 := blk_put (cs' := #[v0, o1, o2, o3, o4, o5, o6, o7, o8]) h 0 v0 rfl
  have h1 := blk_put (cs' := #[v0, v1, o2, o3, o4, o5, o6, o7, o8]) h0 1 v1 rfl
  have h2 := blk_put (cs' := #[v0, v1, v2, o3, o4, o5, o6, o7, o8]) h1 2 v2 rfl
  have h3 := blk_put (cs' := #[v0, v1, v2, v3, o4, o5, o6, o7, o8]) h2 3 v3 rfl
  have h4 := blk_put (cs' := #[v0, v1, v2, v3, v4, o5, o6, o7, o8]) h3 4 v4 rfl
  have h5 := blk_put (cs' := #[v0, v1, v2, v3, v4, v5, o6, o7, o8]) h4 5 v5 rfl
  have h6 := blk_put (cs' := #[v0, v1, v2, v3, v4, v5, v6, o7, o8]) h5 6 v6 rfl
  have h7 := blk_put (cs' := #[v0, v1, v2, v3, v4, v5, v6, v7, o8]) h6 7 v7 rfl
  exact blk_put (cs' := #[v0, v1, v2, v3, v4, v5, v6, v7, v8]) h7 8 v8 rfl
set_option maxHeartbeats 8000000 in
set_option maxRecDepth 100000 in
theorem it_to (k : Int) (i : ByteArray) (q s : Int) (d : Bool) (x y : Int) (t : ByteArray) (h : Bool) (w : World) : Calls Try.prog 21 #[.agg (rfC k i q s d x y t h)] w fun e w' => e = .returned (.agg (itC k i q s d x y t h)) ∧ Below w.heap.size w w' := by
  have hu := Try.underlying40
  have hu2 := Try.underlying46
  have HLT := Aside0.mk (blk_lt (blk_new w (.cells (rfC k i q s d x y t h) 46)))
  have HB1 := Aside0.mk (below_alloc (Below.refl (w.alloc (.cells (rfC k i q s d x y t h) 46)).heap.size (w.alloc (.cells (rfC k i q s d x y t h) 46))) (.cells #[.int .i64 0, .string ⟨#[]⟩, .int .i64 0, .int .i64 0, .bool false, .complex .f64 0 0, .string ⟨#[]⟩, .bool false] 40))
  have BX := Aside0.mk (blk_below (blk_new w (.cells (rfC k i q s d x y t h) 46)) HB1.out)
  have BR := Aside0.mk (blk_new (w.alloc (.cells (rfC k i q s d x y t h) 46)) (.cells #[.int .i64 0, .string ⟨#[]⟩, .int .i64 0, .int .i64 0, .bool false, .complex .f64 0 0, .string ⟨#[]⟩, .bool false] 40))
  have HB := Aside0.mk (below_new (w := w) (.cells (rfC k i q s d x y t h) 46) (.cells #[.int .i64 0, .string ⟨#[]⟩, .int .i64 0, .int .i64 0, .bool false, .complex .f64 0 0, .string ⟨#[]⟩, .bool false] 40))
  have e : (w.alloc (.cells (rfC k i q s d x y t h) 46)).heap.size = w.heap.size + 1 := Array.size_push _
  rw [e] at BR
  clear e HB1 HLT
  go_enter Try.func21, Try.ntmps21
  go_upto_region 1 with fail
  generalize (w.alloc _).alloc _ = w1 at BX BR HB ⊢
  refine start_ (n := 16) (S := fun w' => w'.cell? ⟨w.heap.size, 0, none⟩ = some (.int .i64 k) ∧ w'.cell? ⟨w.heap.size, 1, none⟩ = some (.string i) ∧ w'.cell? ⟨w.heap.size, 2, none⟩ = some (.int .i64 q) ∧ w'.cell? ⟨w.heap.size, 3, none⟩ = some (.int .i64 s) ∧ w'.cell? ⟨w.heap.size, 4, none⟩ = some (.bool d) ∧ w'.cell? ⟨w.heap.size, 5, none⟩ = some (.int .i64 x) ∧ w'.cell? ⟨w.heap.size, 6, none⟩ = some (.int .i64 y) ∧ w'.cell? ⟨w.heap.size, 7, none⟩ = some (.string t) ∧ w'.cell? ⟨w.heap.size, 8, none⟩ = some (.bool h)) (ds := [15]) #[false, false, false, false, false, false, false, false, false, false, false, false, false, false, false, false] (by kernel_rfl) rfl rfl (ta_cells (blk_drew BX.out)) (fun hHeld => ?_)
  replace BX := Aside0.mk (blk_drew BX.out)
  replace BR := Aside0.mk (blk_drew BR.out)
  replace HB := Aside0.mk (below_drew1 HB.out)
  generalize w1.drew = w2 at BX BR HB hHeld ⊢
  refine pure_ (i := 0) (N := some 3) (v := ?_) (a' := ?_) #[true, false, false, false, false, false, false, false, false, false, false, false, false, false, false, false] rfl rfl (by kernel_rfl) (fun _ _ _ h => h) (Or.inl ⟨by rfl, ?_⟩) ?_ ?_
  rotate_left
  · intro w'
    go_simp
    with_reducible rfl
  rotate_left
  · simp only [Act.put, List.setIfInBounds_toArray, List.set_cons_zero, List.set_cons_succ, i64_w, i32_w]
    rfl
  refine take_ (i := 1) (N := some 4) (v := ?_) (a' := ?_) #[true, true, false, false, false, false, false, false, false, false, false, false, false, false, false, false] rfl rfl (by kernel_rfl) (fun _ _ _ h => h) (Or.inl ⟨by rfl, ?_⟩) hHeld ?_ ?_
  rotate_left
  · rintro w' ⟨s0, s1, s2, s3, s4, s5, s6, s7, s8⟩
    go_simp
    with_reducible rfl
  rotate_left
  · simp only [Act.put, List.setIfInBounds_toArray, List.set_cons_zero, List.set_cons_succ, i64_w, i32_w]
    rfl
  refine pure_ (i := 2) (N := some 5) (v := ?_) (a' := ?_) #[true, true, true, false, false, false, false, false, false, false, false, false, false, false, false, false] rfl rfl (by kernel_rfl) (fun _ _ _ h => h) (Or.inl ⟨by rfl, ?_⟩) ?_ ?_
  rotate_left
  · intro w'
    go_simp
    with_reducible rfl
  rotate_left
  · simp only [Act.put, List.setIfInBounds_toArray, List.set_cons_zero, List.set_cons_succ, i64_w, i32_w]
    rfl
  refine take_ (i := 3) (N := some 6) (v := ?_) (a' := ?_) #[true, true, true, true, false, false, false, false, false, false, false, false, false, false, false, false] rfl rfl (by kernel_rfl) (fun _ _ _ h => h) (Or.inl ⟨by rfl, ?_⟩) hHeld ?_ ?_
  rotate_left
  · rintro w' ⟨s0, s1, s2, s3, s4, s5, s6, s7, s8⟩
    go_simp
    with_reducible rfl
  rotate_left
  · simp only [Act.put, List.setIfInBounds_toArray, List.set_cons_zero, List.set_cons_succ, i64_w, i32_w]
    rfl
  refine pure_ (i := 5) (N := some 8) (v := ?_) (a' := ?_) #[true, true, true, true, false, true, false, false, false, false, false, false, false, false, false, false] rfl rfl (by kernel_rfl) (fun _ _ _ h => h) (Or.inl ⟨by rfl, ?_⟩) ?_ ?_
  rotate_left
  · intro w'
    go_simp
    with_reducible rfl
  rotate_left
  · simp only [Act.put, List.setIfInBounds_toArray, List.set_cons_zero, List.set_cons_succ, i64_w, i32_w]
    rfl
  refine take_ (i := 6) (N := some 9) (v := ?_) (a' := ?_) #[true, true, true, true, false, true, true, false, false, false, false, false, false, false, false, false] rfl rfl (by kernel_rfl) (fun _ _ _ h => h) (Or.inl ⟨by rfl, ?_⟩) hHeld ?_ ?_
  rotate_left
  · rintro w' ⟨s0, s1, s2, s3, s4, s5, s6, s7, s8⟩
    go_simp
    with_reducible rfl
  rotate_left
  · simp only [Act.put, List.setIfInBounds_toArray, List.set_cons_zero, List.set_cons_succ, i64_w, i32_w]
    rfl
  refine pure_ (i := 7) (N := some 10) (v := ?_) (a' := ?_) #[true, true, true, true, false, true, true, true, false, false, false, false, false, false, false, false] rfl rfl (by kernel_rfl) (fun _ _ _ h => h) (Or.inl ⟨by rfl, ?_⟩) ?_ ?_
  rotate_left
  · intro w'
    go_simp
    with_reducible rfl
  rotate_left
  · simp only [Act.put, List.setIfInBounds_toArray, List.set_cons_zero, List.set_cons_succ, i64_w, i32_w]
    rfl
  refine take_ (i := 8) (N := some 11) (v := ?_) (a' := ?_) #[true, true, true, true, false, true, true, true, true, false, false, false, false, false, false, false] rfl rfl (by kernel_rfl) (fun _ _ _ h => h) (Or.inl ⟨by rfl, ?_⟩) hHeld ?_ ?_
  rotate_left
  · rintro w' ⟨s0, s1, s2, s3, s4, s5, s6, s7, s8⟩
    go_simp
    with_reducible rfl
  rotate_left
  · simp only [Act.put, List.setIfInBounds_toArray, List.set_cons_zero, List.set_cons_succ, i64_w, i32_w]
    rfl
  refine pure_ (i := 10) (N := some 13) (v := ?_) (a' := ?_) #[true, true, true, true, false, true, true, true, true, false, true, false, false, false, false, false] rfl rfl (by kernel_rfl) (fun _ _ _ h => h) (Or.inl ⟨by rfl, ?_⟩) ?_ ?_
  rotate_left
  · intro w'
    go_simp
    with_reducible rfl
  rotate_left
  · simp only [Act.put, List.setIfInBounds_toArray, List.set_cons_zero, List.set_cons_succ, i64_w, i32_w]
    rfl
  refine take_ (i := 11) (N := some 14) (v := ?_) (a' := ?_) #[true, true, true, true, false, true, true, true, true, false, true, true, false, false, false, false] rfl rfl (by kernel_rfl) (fun _ _ _ h => h) (Or.inl ⟨by rfl, ?_⟩) hHeld ?_ ?_
  rotate_left
  · rintro w' ⟨s0, s1, s2, s3, s4, s5, s6, s7, s8⟩
    go_simp
    with_reducible rfl
  rotate_left
  · simp only [Act.put, List.setIfInBounds_toArray, List.set_cons_zero, List.set_cons_succ, i64_w, i32_w]
    rfl
  refine pure_ (i := 12) (N := some 15) (v := ?_) (a' := ?_) #[true, true, true, true, false, true, true, true, true, false, true, true, true, false, false, false] rfl rfl (by kernel_rfl) (fun _ _ _ h => h) (Or.inl ⟨by rfl, ?_⟩) ?_ ?_
  rotate_left
  · intro w'
    go_simp
    with_reducible rfl
  rotate_left
  · simp only [Act.put, List.setIfInBounds_toArray, List.set_cons_zero, List.set_cons_succ, i64_w, i32_w]
    rfl
  refine take_ (i := 13) (N := some 16) (v := ?_) (a' := ?_) #[true, true, true, true, false, true, true, true, true, false, true, true, true, true, false, false] rfl rfl (by kernel_rfl) (fun _ _ _ h => h) (Or.inl ⟨by rfl, ?_⟩) hHeld ?_ ?_
  rotate_left
  · rintro w' ⟨s0, s1, s2, s3, s4, s5, s6, s7, s8⟩
    go_simp
    with_reducible rfl
  rotate_left
  · simp only [Act.put, List.setIfInBounds_toArray, List.set_cons_zero, List.set_cons_succ, i64_w, i32_w]
    rfl
  refine one_ (i := 4) (N := some 7) #[true, true, true, true, true, true, true, true, true, false, true, true, true, true, false, false] rfl rfl (by kernel_rfl) (by decide) (fun K hK => ?_)
  refine goes_ Try.func10 (by kernel_rfl) rfl #[.agg #[.string i, .int .i64 q, .int .i64 s]] (by rfl) rfl rfl (by (try simp only [List.map_toArray, List.map_cons, List.map_nil]); first | done | rfl) ?_
  refine (cenotaphlaw07_Ver.calls i q s i q s w2 rfl).mono ?_
  rintro ev w3 ⟨rfl, hb⟩
  refine ⟨_, rfl, ?_⟩
  replace BX := Aside0.mk (blk_below BX.out hb)
  replace BR := Aside0.mk (blk_below BR.out hb)
  replace HB := Aside0.mk (below_step HB.out hb)
  clear hb
  refine hK.out _ _ (ta_cells BX.out) (fun hHeld => ?_)
  clear hK K
  refine norm_ (a' := ?_) ?_ ?_
  rotate_left
  · show Act.put _ (some 7) _ = _
    simp only [Act.put, List.setIfInBounds_toArray, List.set_cons_zero, List.set_cons_succ, i64_w, i32_w]
    rfl
  refine one_ (i := 9) (N := some 12) #[true, true, true, true, true, true, true, true, true, true, true, true, true, true, false, false] rfl rfl (by kernel_rfl) (by decide) (fun K hK => ?_)
  refine goes_ Try.func43 (by kernel_rfl) rfl #[.agg #[.int .i64 x, .int .i64 y]] (by rfl) rfl rfl (by (try simp only [List.map_toArray, List.map_cons, List.map_nil]); first | done | rfl) ?_
  refine (it_spot x y w3).mono ?_
  rintro ev w4 ⟨rfl, hb⟩
  refine ⟨_, rfl, ?_⟩
  replace BX := Aside0.mk (blk_below BX.out hb)
  replace BR := Aside0.mk (blk_below BR.out hb)
  replace HB := Aside0.mk (below_step HB.out hb)
  clear hb
  refine hK.out _ _ (ta_cells BX.out) (fun hHeld => ?_)
  clear hK K
  refine norm_ (a' := ?_) ?_ ?_
  rotate_left
  · show Act.put _ (some 12) _ = _
    simp only [Act.put, List.setIfInBounds_toArray, List.set_cons_zero, List.set_cons_succ, i64_w, i32_w]
    rfl
  refine pure_ (i := 14) (N := some 17) (v := ?_) (a' := ?_) #[true, true, true, true, true, true, true, true, true, true, true, true, true, true, true, false] rfl rfl (by kernel_rfl) (fun _ _ _ h => h) (Or.inl ⟨by rfl, ?_⟩) ?_ ?_
  rotate_left
  · intro w'
    go_simp
    with_reducible rfl
  rotate_left
  · simp only [Act.put, List.setIfInBounds_toArray, List.set_cons_zero, List.set_cons_succ, i64_w, i32_w]
    rfl
  refine last_ (i := 15) (N := none) #[true, true, true, true, true, true, true, true, true, true, true, true, true, true, true, true] rfl rfl (by kernel_rfl) (by decide) (fun K hK => ?_)
  obtain ⟨⟨c0, c1, c2, c3, c4, c5, c6, c7⟩, z0, z1, z2, z3, z4, z5, z6, z7⟩ := tk_cells BR.out
  refine skip_ (w1 := ?_) (by rfl) rfl ?_ ?_
  rotate_left
  · go_simp
    rfl
  refine hK.out _ _ ?_
  clear hK K
  refine done_ (by kernel_rfl) ?_
  go_wp2_with fail
  exact bodyPost_ret (results_cell_row rfl _ _ (w.heap.size + 1) 40 (itC k i q s d x y t h) (0, 0) _ rfl (blk_put8 BR.out _ _ _ _ _ _ _ _) hu rfl (by kernel_rfl)) rfl ⟨rfl, below_put8 HB.out (Nat.le_succ _) _ _ _ _ _ _ _ _⟩
theorem below_put9 {B : Nat} {w W : World} {g : Nat} (h : Below B w W) (hg : B ≤ g) (v0 v1 v2 v3 v4 v5 v6 v7 v8 : Value) : Below B w (((((((((W.setCell ⟨g, 0, none⟩ v0).setCell ⟨g, 1, none⟩ v1).setCell ⟨g, 2, none⟩ v2).setCell ⟨g, 3, none⟩ v3).setCell ⟨g, 4, none⟩ v4).setCell ⟨g, 5, none⟩ v5).setCell ⟨g, 6, none⟩ v6).setCell ⟨g, 7, none⟩ v7).setCell ⟨g, 8, none⟩ v8) :=
  (below_put8 h hg v0 v1 v2 v3 v4 v5 v6 v7).setCell hg _
theorem tf_cells {W : World} {g : Nat} {T : TypeId} {v0 v1 v2 v3 v4 v5 v6 v7 v8 : Value} (b : W.heap[g]? = some (.cells #[v0, v1, v2, v3, v4, v5, v6, v7, v8] T (0, 0))) :
    (W.cell? ⟨g, 0, none⟩ = some v0 ∧ W.cell? ⟨g, 1, none⟩ = some v1 ∧ W.cell? ⟨g, 2, none⟩ = some v2 ∧ W.cell? ⟨g, 3, none⟩ = some v3 ∧ W.cell? ⟨g, 4, none⟩ = some v4 ∧ W.cell? ⟨g, 5, none⟩ = some v5 ∧ W.cell? ⟨g, 6, none⟩ = some v6 ∧ W.cell? ⟨g, 7, none⟩ = some v7 ∧ W.cell? ⟨g, 8, none⟩ = some v8) ∧
    W.frozen? ⟨g, 0, none⟩ = false ∧ W.frozen? ⟨g, 1, none⟩ = false ∧ W.frozen? ⟨g, 2, none⟩ = false ∧ W.frozen? ⟨g, 3, none⟩ = false ∧ W.frozen? ⟨g, 4, none⟩ = false ∧ W.frozen? ⟨g, 5, none⟩ = false ∧ W.frozen? ⟨g, 6, none⟩ = false ∧ W.frozen? ⟨g, 7, none⟩ = false ∧ W.frozen? ⟨g, 8, none⟩ = false :=
  ⟨⟨(blk_cell b 0).trans rfl, (blk_cell b 1).trans rfl, (blk_cell b 2).trans rfl, (blk_cell b 3).trans rfl, (blk_cell b 4).trans rfl, (blk_cell b 5).trans rfl, (blk_cell b 6).trans rfl, (blk_cell b 7).trans rfl, (blk_cell b 8).trans rfl⟩, blk_frozen b 0, blk_frozen b 1, blk_frozen b 2, blk_frozen b 3, blk_frozen b 4, blk_frozen b 5, blk_frozen b 6, blk_frozen b 7, blk_frozen b 8⟩
set_option maxHeartbeats 8000000 in
set_option maxRecDepth 100000 in
theorem it_from (k : Int) (i : ByteArray) (q s : Int) (d : Bool) (x y : Int) (t : ByteArray) (h : Bool) (w : World) (hx : x.natAbs < 2 ^ 53) (hy : y.natAbs < 2 ^ 53) : Calls Try.prog 16 #[.agg (itC k i q s d x y t h)] w fun e w' => e = .returned (.agg (rfC k i q s d x y t h)) ∧ Below w.heap.size w w' := by
  have HP := Aside0.mk (fun (W : World) => it_place x y W hx hy)
  clear hx hy
  have hu := Try.underlying40
  have hu2 := Try.underlying46
  have HB1 := Aside0.mk (below_alloc (Below.refl (w.alloc (.cells (itC k i q s d x y t h) 40)).heap.size (w.alloc (.cells (itC k i q s d x y t h) 40))) (.cells #[.int .i64 0, .string ⟨#[]⟩, .int .i64 0, .int .i64 0, .bool false, .int .i64 0, .int .i64 0, .string ⟨#[]⟩, .bool false] 46))
  have BX := Aside0.mk (blk_below (blk_new w (.cells (itC k i q s d x y t h) 40)) HB1.out)
  have BR := Aside0.mk (blk_new (w.alloc (.cells (itC k i q s d x y t h) 40)) (.cells #[.int .i64 0, .string ⟨#[]⟩, .int .i64 0, .int .i64 0, .bool false, .int .i64 0, .int .i64 0, .string ⟨#[]⟩, .bool false] 46))
  have HB := Aside0.mk (below_new (w := w) (.cells (itC k i q s d x y t h) 40) (.cells #[.int .i64 0, .string ⟨#[]⟩, .int .i64 0, .int .i64 0, .bool false, .int .i64 0, .int .i64 0, .string ⟨#[]⟩, .bool false] 46))
  have e : (w.alloc (.cells (itC k i q s d x y t h) 40)).heap.size = w.heap.size + 1 := Array.size_push _
  rw [e] at BR
  clear e HB1
  go_enter Try.func16, Try.ntmps16
  go_upto_region 1 with fail
  generalize (w.alloc _).alloc _ = w1 at BX BR HB ⊢
  refine start_ (n := 23) (S := fun w' => w'.cell? ⟨w.heap.size, 0, none⟩ = some (.int .i64 k) ∧ w'.cell? ⟨w.heap.size, 1, none⟩ = some (.string i) ∧ w'.cell? ⟨w.heap.size, 2, none⟩ = some (.int .i64 q) ∧ w'.cell? ⟨w.heap.size, 3, none⟩ = some (.int .i64 s) ∧ w'.cell? ⟨w.heap.size, 4, none⟩ = some (.bool d) ∧ w'.cell? ⟨w.heap.size, 5, none⟩ = some (.complex .f64 (fl x) (fl y)) ∧ w'.cell? ⟨w.heap.size, 6, none⟩ = some (.string t) ∧ w'.cell? ⟨w.heap.size, 7, none⟩ = some (.bool h)) (ds := [22]) #[false, false, false, false, false, false, false, false, false, false, false, false, false, false, false, false, false, false, false, false, false, false, false] (by kernel_rfl) rfl rfl (it_cells (blk_drew BX.out)) (fun hHeld => ?_)
  replace BX := Aside0.mk (blk_drew BX.out)
  replace BR := Aside0.mk (blk_drew BR.out)
  replace HB := Aside0.mk (below_drew1 HB.out)
  generalize w1.drew = w2 at BX BR HB hHeld ⊢
  refine pure_ (i := 0) (N := some 3) (v := ?_) (a' := ?_) #[true, false, false, false, false, false, false, false, false, false, false, false, false, false, false, false, false, false, false, false, false, false, false] rfl rfl (by kernel_rfl) (fun _ _ _ h => h) (Or.inl ⟨by rfl, ?_⟩) ?_ ?_
  rotate_left
  · intro w'
    go_simp
    with_reducible rfl
  rotate_left
  · simp only [Act.put, List.setIfInBounds_toArray, List.set_cons_zero, List.set_cons_succ, i64_w, i32_w]
    rfl
  refine take_ (i := 1) (N := some 4) (v := ?_) (a' := ?_) #[true, true, false, false, false, false, false, false, false, false, false, false, false, false, false, false, false, false, false, false, false, false, false] rfl rfl (by kernel_rfl) (fun _ _ _ h => h) (Or.inl ⟨by rfl, ?_⟩) hHeld ?_ ?_
  rotate_left
  · rintro w' ⟨s0, s1, s2, s3, s4, s5, s6, s7⟩
    go_simp
    with_reducible rfl
  rotate_left
  · simp only [Act.put, List.setIfInBounds_toArray, List.set_cons_zero, List.set_cons_succ, i64_w, i32_w]
    rfl
  refine pure_ (i := 2) (N := some 5) (v := ?_) (a' := ?_) #[true, true, true, false, false, false, false, false, false, false, false, false, false, false, false, false, false, false, false, false, false, false, false] rfl rfl (by kernel_rfl) (fun _ _ _ h => h) (Or.inl ⟨by rfl, ?_⟩) ?_ ?_
  rotate_left
  · intro w'
    go_simp
    with_reducible rfl
  rotate_left
  · simp only [Act.put, List.setIfInBounds_toArray, List.set_cons_zero, List.set_cons_succ, i64_w, i32_w]
    rfl
  refine pure_ (i := 3) (N := some 6) (v := ?_) (a' := ?_) #[true, true, true, true, false, false, false, false, false, false, false, false, false, false, false, false, false, false, false, false, false, false, false] rfl rfl (by kernel_rfl) (fun _ _ _ h => h) (Or.inl ⟨by rfl, ?_⟩) ?_ ?_
  rotate_left
  · intro w'
    go_simp
    with_reducible rfl
  rotate_left
  · simp only [Act.put, List.setIfInBounds_toArray, List.set_cons_zero, List.set_cons_succ, i64_w, i32_w]
    rfl
  refine take_ (i := 4) (N := some 7) (v := ?_) (a' := ?_) #[true, true, true, true, true, false, false, false, false, false, false, false, false, false, false, false, false, false, false, false, false, false, false] rfl rfl (by kernel_rfl) (fun _ _ _ h => h) (Or.inl ⟨by rfl, ?_⟩) hHeld ?_ ?_
  rotate_left
  · rintro w' ⟨s0, s1, s2, s3, s4, s5, s6, s7⟩
    go_simp
    with_reducible rfl
  rotate_left
  · simp only [Act.put, List.setIfInBounds_toArray, List.set_cons_zero, List.set_cons_succ, i64_w, i32_w]
    rfl
  refine pure_ (i := 5) (N := some 8) (v := ?_) (a' := ?_) #[true, true, true, true, true, true, false, false, false, false, false, false, false, false, false, false, false, false, false, false, false, false, false] rfl rfl (by kernel_rfl) (fun _ _ _ h => h) (Or.inl ⟨by rfl, ?_⟩) ?_ ?_
  rotate_left
  · intro w'
    go_simp
    with_reducible rfl
  rotate_left
  · simp only [Act.put, List.setIfInBounds_toArray, List.set_cons_zero, List.set_cons_succ, i64_w, i32_w]
    rfl
  refine pure_ (i := 6) (N := some 9) (v := ?_) (a' := ?_) #[true, true, true, true, true, true, true, false, false, false, false, false, false, false, false, false, false, false, false, false, false, false, false] rfl rfl (by kernel_rfl) (fun _ _ _ h => h) (Or.inl ⟨by rfl, ?_⟩) ?_ ?_
  rotate_left
  · intro w'
    go_simp
    with_reducible rfl
  rotate_left
  · simp only [Act.put, List.setIfInBounds_toArray, List.set_cons_zero, List.set_cons_succ, i64_w, i32_w]
    rfl
  refine take_ (i := 7) (N := some 10) (v := ?_) (a' := ?_) #[true, true, true, true, true, true, true, true, false, false, false, false, false, false, false, false, false, false, false, false, false, false, false] rfl rfl (by kernel_rfl) (fun _ _ _ h => h) (Or.inl ⟨by rfl, ?_⟩) hHeld ?_ ?_
  rotate_left
  · rintro w' ⟨s0, s1, s2, s3, s4, s5, s6, s7⟩
    go_simp
    with_reducible rfl
  rotate_left
  · simp only [Act.put, List.setIfInBounds_toArray, List.set_cons_zero, List.set_cons_succ, i64_w, i32_w]
    rfl
  refine pure_ (i := 8) (N := some 11) (v := ?_) (a' := ?_) #[true, true, true, true, true, true, true, true, true, false, false, false, false, false, false, false, false, false, false, false, false, false, false] rfl rfl (by kernel_rfl) (fun _ _ _ h => h) (Or.inl ⟨by rfl, ?_⟩) ?_ ?_
  rotate_left
  · intro w'
    go_simp
    with_reducible rfl
  rotate_left
  · simp only [Act.put, List.setIfInBounds_toArray, List.set_cons_zero, List.set_cons_succ, i64_w, i32_w]
    rfl
  refine pure_ (i := 9) (N := some 12) (v := ?_) (a' := ?_) #[true, true, true, true, true, true, true, true, true, true, false, false, false, false, false, false, false, false, false, false, false, false, false] rfl rfl (by kernel_rfl) (fun _ _ _ h => h) (Or.inl ⟨by rfl, ?_⟩) ?_ ?_
  rotate_left
  · intro w'
    go_simp
    with_reducible rfl
  rotate_left
  · simp only [Act.put, List.setIfInBounds_toArray, List.set_cons_zero, List.set_cons_succ, i64_w, i32_w]
    rfl
  refine take_ (i := 10) (N := some 13) (v := ?_) (a' := ?_) #[true, true, true, true, true, true, true, true, true, true, true, false, false, false, false, false, false, false, false, false, false, false, false] rfl rfl (by kernel_rfl) (fun _ _ _ h => h) (Or.inl ⟨by rfl, ?_⟩) hHeld ?_ ?_
  rotate_left
  · rintro w' ⟨s0, s1, s2, s3, s4, s5, s6, s7⟩
    go_simp
    with_reducible rfl
  rotate_left
  · simp only [Act.put, List.setIfInBounds_toArray, List.set_cons_zero, List.set_cons_succ, i64_w, i32_w]
    rfl
  refine pure_ (i := 11) (N := some 14) (v := ?_) (a' := ?_) #[true, true, true, true, true, true, true, true, true, true, true, true, false, false, false, false, false, false, false, false, false, false, false] rfl rfl (by kernel_rfl) (fun _ _ _ h => h) (Or.inl ⟨by rfl, ?_⟩) ?_ ?_
  rotate_left
  · intro w'
    go_simp
    with_reducible rfl
  rotate_left
  · simp only [Act.put, List.setIfInBounds_toArray, List.set_cons_zero, List.set_cons_succ, i64_w, i32_w]
    rfl
  refine pure_ (i := 12) (N := some 15) (v := ?_) (a' := ?_) #[true, true, true, true, true, true, true, true, true, true, true, true, true, false, false, false, false, false, false, false, false, false, false] rfl rfl (by kernel_rfl) (fun _ _ _ h => h) (Or.inl ⟨by rfl, ?_⟩) ?_ ?_
  rotate_left
  · intro w'
    go_simp
    with_reducible rfl
  rotate_left
  · simp only [Act.put, List.setIfInBounds_toArray, List.set_cons_zero, List.set_cons_succ, i64_w, i32_w]
    rfl
  refine take_ (i := 13) (N := some 16) (v := ?_) (a' := ?_) #[true, true, true, true, true, true, true, true, true, true, true, true, true, true, false, false, false, false, false, false, false, false, false] rfl rfl (by kernel_rfl) (fun _ _ _ h => h) (Or.inl ⟨by rfl, ?_⟩) hHeld ?_ ?_
  rotate_left
  · rintro w' ⟨s0, s1, s2, s3, s4, s5, s6, s7⟩
    go_simp
    with_reducible rfl
  rotate_left
  · simp only [Act.put, List.setIfInBounds_toArray, List.set_cons_zero, List.set_cons_succ, i64_w, i32_w]
    rfl
  refine pure_ (i := 14) (N := some 17) (v := ?_) (a' := ?_) #[true, true, true, true, true, true, true, true, true, true, true, true, true, true, true, false, false, false, false, false, false, false, false] rfl rfl (by kernel_rfl) (fun _ _ _ h => h) (Or.inl ⟨by rfl, ?_⟩) ?_ ?_
  rotate_left
  · intro w'
    go_simp
    with_reducible rfl
  rotate_left
  · simp only [Act.put, List.setIfInBounds_toArray, List.set_cons_zero, List.set_cons_succ, i64_w, i32_w]
    rfl
  refine take_ (i := 15) (N := some 18) (v := ?_) (a' := ?_) #[true, true, true, true, true, true, true, true, true, true, true, true, true, true, true, true, false, false, false, false, false, false, false] rfl rfl (by kernel_rfl) (fun _ _ _ h => h) (Or.inl ⟨by rfl, ?_⟩) hHeld ?_ ?_
  rotate_left
  · rintro w' ⟨s0, s1, s2, s3, s4, s5, s6, s7⟩
    go_simp
    with_reducible rfl
  rotate_left
  · simp only [Act.put, List.setIfInBounds_toArray, List.set_cons_zero, List.set_cons_succ, i64_w, i32_w]
    rfl
  refine pure_ (i := 17) (N := some 20) (v := ?_) (a' := ?_) #[true, true, true, true, true, true, true, true, true, true, true, true, true, true, true, true, false, true, false, false, false, false, false] rfl rfl (by kernel_rfl) (fun _ _ _ h => h) (Or.inl ⟨by rfl, ?_⟩) ?_ ?_
  rotate_left
  · intro w'
    go_simp
    with_reducible rfl
  rotate_left
  · simp only [Act.put, List.setIfInBounds_toArray, List.set_cons_zero, List.set_cons_succ, i64_w, i32_w]
    rfl
  refine take_ (i := 18) (N := some 21) (v := ?_) (a' := ?_) #[true, true, true, true, true, true, true, true, true, true, true, true, true, true, true, true, false, true, true, false, false, false, false] rfl rfl (by kernel_rfl) (fun _ _ _ h => h) (Or.inl ⟨by rfl, ?_⟩) hHeld ?_ ?_
  rotate_left
  · rintro w' ⟨s0, s1, s2, s3, s4, s5, s6, s7⟩
    go_simp
    with_reducible rfl
  rotate_left
  · simp only [Act.put, List.setIfInBounds_toArray, List.set_cons_zero, List.set_cons_succ, i64_w, i32_w]
    rfl
  refine pure_ (i := 19) (N := some 22) (v := ?_) (a' := ?_) #[true, true, true, true, true, true, true, true, true, true, true, true, true, true, true, true, false, true, true, true, false, false, false] rfl rfl (by kernel_rfl) (fun _ _ _ h => h) (Or.inl ⟨by rfl, ?_⟩) ?_ ?_
  rotate_left
  · intro w'
    go_simp
    with_reducible rfl
  rotate_left
  · simp only [Act.put, List.setIfInBounds_toArray, List.set_cons_zero, List.set_cons_succ, i64_w, i32_w]
    rfl
  refine take_ (i := 20) (N := some 23) (v := ?_) (a' := ?_) #[true, true, true, true, true, true, true, true, true, true, true, true, true, true, true, true, false, true, true, true, true, false, false] rfl rfl (by kernel_rfl) (fun _ _ _ h => h) (Or.inl ⟨by rfl, ?_⟩) hHeld ?_ ?_
  rotate_left
  · rintro w' ⟨s0, s1, s2, s3, s4, s5, s6, s7⟩
    go_simp
    with_reducible rfl
  rotate_left
  · simp only [Act.put, List.setIfInBounds_toArray, List.set_cons_zero, List.set_cons_succ, i64_w, i32_w]
    rfl
  refine one_ (i := 16) (N := some 19) #[true, true, true, true, true, true, true, true, true, true, true, true, true, true, true, true, true, true, true, true, true, false, false] rfl rfl (by kernel_rfl) (by decide) (fun K hK => ?_)
  refine goes_ Try.func37 (by kernel_rfl) rfl #[.complex .f64 (fl x) (fl y)] (by rfl) rfl rfl (by (try simp only [List.map_toArray, List.map_cons, List.map_nil]); first | done | rfl) ?_
  refine (HP.out w2).mono ?_
  rintro ev w3 ⟨rfl, hb⟩
  refine ⟨_, rfl, ?_⟩
  replace BX := Aside0.mk (blk_below BX.out hb)
  replace BR := Aside0.mk (blk_below BR.out hb)
  replace HB := Aside0.mk (below_step HB.out hb)
  clear hb HP
  refine hK.out _ _ (it_cells BX.out) (fun hHeld => ?_)
  clear hK K
  refine norm_ (a' := ?_) ?_ ?_
  rotate_left
  · show Act.put _ (some 19) _ = _
    simp only [Act.put, List.setIfInBounds_toArray, List.set_cons_zero, List.set_cons_succ, i64_w, i32_w]
    rfl
  refine pure_ (i := 21) (N := some 24) (v := ?_) (a' := ?_) #[true, true, true, true, true, true, true, true, true, true, true, true, true, true, true, true, true, true, true, true, true, true, false] rfl rfl (by kernel_rfl) (fun _ _ _ h => h) (Or.inl ⟨by rfl, ?_⟩) ?_ ?_
  rotate_left
  · intro w'
    go_simp
    with_reducible rfl
  rotate_left
  · simp only [Act.put, List.setIfInBounds_toArray, List.set_cons_zero, List.set_cons_succ, i64_w, i32_w]
    rfl
  refine last_ (i := 22) (N := none) #[true, true, true, true, true, true, true, true, true, true, true, true, true, true, true, true, true, true, true, true, true, true, true] rfl rfl (by kernel_rfl) (by decide) (fun K hK => ?_)
  obtain ⟨⟨c0, c1, c2, c3, c4, c5, c6, c7, c8⟩, z0, z1, z2, z3, z4, z5, z6, z7, z8⟩ := tf_cells BR.out
  refine skip_ (w1 := ?_) (by rfl) rfl ?_ ?_
  rotate_left
  · go_simp
    rfl
  refine hK.out _ _ ?_
  clear hK K
  refine done_ (by kernel_rfl) ?_
  go_wp2_with fail
  exact bodyPost_ret (results_cell_row rfl _ _ (w.heap.size + 1) 46 (rfC k i q s d x y t h) (0, 0) _ rfl (blk_put9 BR.out _ _ _ _ _ _ _ _ _) hu2 rfl (by kernel_rfl)) rfl ⟨rfl, below_put9 HB.out (Nat.le_succ _) _ _ _ _ _ _ _ _ _⟩
theorem it_ix0 (a b c : Int) (w : World) : (Instr.index 78 (.agg #[.int .i64 a, .int .i64 b, .int .i64 c]) (.int .i64 0)).run Try.prog w = .ok (.int .i64 a) w := by kernel_rfl
theorem it_ix1 (a b c : Int) (w : World) : (Instr.index 78 (.agg #[.int .i64 a, .int .i64 b, .int .i64 c]) (.int .i64 1)).run Try.prog w = .ok (.int .i64 b) w := by kernel_rfl
theorem it_ix2 (a b c : Int) (w : World) : (Instr.index 78 (.agg #[.int .i64 a, .int .i64 b, .int .i64 c]) (.int .i64 2)).run Try.prog w = .ok (.int .i64 c) w := by kernel_rfl
attribute [local go_sem] it_ix0 it_ix1 it_ix2
def putAll (k : Nat) : List Int → List Int → Option (List Int)
  | b, [] => some b
  | b, n :: r => (wire_Put.f k b n).bind fun b' => putAll k b' r
def itKd (d h : Bool) : Int := if d then 0 else if h then 2 else 1
def itPutR (k : Nat) (l0 : List Int) (I : It) : Option (List Int) :=
  (wire_Put.f k l0 I.k).bind fun b1 => (wire_PutText.f k b1 I.i).bind fun b2 => (putAll k b2 [I.q, I.s, itKd I.d I.h]).bind fun b5 => if I.d = true then some b5 else
  (wire_Put.f k b5 (wrap64 (I.x + 1000))).bind fun b6 => (wire_Put.f k b6 (wrap64 (I.y + 1000))).bind fun b7 => if I.h = true then wire_PutText.f k b7 I.t else some b7
def itPut (k : Nat) (l0 : List Int) (I : It) : Option (List Int) := (I.right).bind fun rt => if rt = false then (if l0.length < 140737488355328 then some l0 else none) else itPutR k l0 I
set_option maxHeartbeats 8000000 in
set_option maxRecDepth 100000 in
theorem it_put (k : Nat) (A0 : Option Addr) (c0 : Nat) (l0 : List Int) (I : It) (r : List Int) (w : World) (hr0 : Kd.C (Kd.int .u8) w A0 l0.length l0) (hc0 : l0.length ≤ c0) (hx : I.x.natAbs < 2 ^ 53) (hy : I.y.natAbs < 2 ^ 53) (hr : itPut k l0 I = some r) :
    Calls Try.prog 18 #[.slice A0 l0.length c0, .agg I.v] w fun e w' => ∃ A c, e = .returned (.slice A r.length c) ∧ r.length ≤ c ∧ Kd.C (Kd.int .u8) w' A r.length r ∧ Below w.heap.size w w' := by
  obtain ⟨ik, ii, iq, is, idd, ix, iy, it, ih⟩ := I
  dsimp only [It.v, It.right] at *
  obtain ⟨rt, hrt, hr⟩ := Option.bind_eq_some_iff.mp hr
  have HRT := Aside0.mk (show itRight ik ii iq is idd ix iy it ih = some rt from hrt)
  have HR := Aside0.mk hr
  have HC := Aside0.mk hr0
  have HF := Aside0.mk (And.intro (fun (W : World) => run_convert_float_int (P := Try.prog) W 72 3 .f64 .i64 (fl ix) ix rfl Try.underlying3 (fl_int ix hx)) (fun (W : World) => run_convert_float_int (P := Try.prog) W 72 3 .f64 .i64 (fl iy) iy rfl Try.underlying3 (fl_int iy hy)))
  have HK := Aside0.mk (fun (W : World) => it_kind ik ii iq is idd ix iy it ih W)
  have hu := Try.underlying40
  have BX := Aside0.mk (blk_new w (.cells (itC ik ii iq is idd ix iy it ih) 40))
  have HB := Aside0.mk (below_alloc (Below.refl w.heap.size w) (.cells (itC ik ii iq is idd ix iy it ih) 40))
  have HX := Aside0.mk (And.intro hx hy)
  clear hr0 hx hy hrt hr
  go_enter Try.func18, Try.ntmps18
  go_wp2_with fail
  refine (it_right ik ii iq is idd ix iy it ih rt _ HX.out.1 HX.out.2 HRT.out).mono ?_
  rintro ev w1 ⟨rfl, hb⟩
  replace BX := Aside0.mk (blk_below BX.out hb)
  replace HB := Aside0.mk (below_step HB.out hb)
  clear hb HRT HX
  cases rt with
  | false =>
    by_cases hl : l0.length < 140737488355328
    rotate_left
    · have h4 := (if_neg hl).symm.trans ((if_pos rfl).symm.trans HR.out)
      cases h4
    obtain rfl := Option.some.inj ((if_pos hl).symm.trans ((if_pos rfl).symm.trans HR.out))
    have HL := Aside0.mk hl
    have HE := Aside0.mk (show ([] : List Int) ++ l0 = l0 from rfl)
    clear HR HK HF hl
    go_wp2_with (first | ((with_reducible refine gate_builtin (b := .append) (xs := #[.const (.slice none 0 0), .tmp 10]) rfl ?_); at_builtin; refine Kd.R_append_rows (Kd.int .u8) (w0 := w) w.heap.size rfl (.const (.slice none 0 0)) (.tmp 10) 32 5 (.int .u8 0) 1 rfl Try.underlying32 info5 rfl (by decide) (by omega) (.slice none 0 0) ([] : List Int) l0 _ _ _ (fun _ => True) (fun _ => False) rfl rfl ?aO ?aR (fun _ _ h => h) (fun _ h => h.elim) ?aF ?aB ?aS ?aL ?_; (case aR => exact Kd.C_below HC.out HB.out); (case aB => exact HB.out); (case aF => exact (fun _ _ => trivial)); (case aO => exact Kd.R_nil _ _ _ _ _); (case aS => exact (below_size HB.out)); (case aL => have := HL.out; simp; omega); intro v146 w8 ho hb hg hat; rw [HE.out] at ho; have n0_ := Aside0.mk (hb); have n1_ := Aside0.mk (ho); clear HB; have HB := n0_; have HO147 := n1_; clear n0_ n1_; clear ho hb hg hat))
    obtain ⟨A6, c6, rfl, hl6, hC6⟩ := Kd.R_reads HO147.out
    have HF := Aside0.mk (And.intro hl6 hC6)
    clear hl6 hC6
    go_wp2_with fail
    go_ret
    exact ⟨A6, c6, rfl, HF.out.1, HF.out.2, HB.out⟩
  | true =>
    replace HR := Aside0.mk (show itPutR k l0 ⟨ik, ii, iq, is, idd, ix, iy, it, ih⟩ = some r from (if_neg (by decide)).symm.trans HR.out)
    have hr := HR.out
    rw [itPutR] at hr
    obtain ⟨b1, g1, hr⟩ := Option.bind_eq_some_iff.mp hr
    obtain ⟨b2, g2, hr⟩ := Option.bind_eq_some_iff.mp hr
    obtain ⟨b5, g5, hr⟩ := Option.bind_eq_some_iff.mp hr
    dsimp only at g1 g2 g5 hr
    have G1 := Aside0.mk g1
    have G2 := Aside0.mk g2
    have G5 := Aside0.mk g5
    replace HR := Aside0.mk hr
    clear g1 g2 g5 hr
    obtain ⟨d0, d1, d2, d3, d4, d5, d6, d7⟩ := it_cells BX.out
    go_wp2_with fail
    refine (wire_Put.calls k A0 c0 l0 ik b1 w1 (Kd.C_below HC.out HB.out) hc0 G1.out).mono ?_
    rintro ev w2 ⟨u, rfl, ho, hb⟩
    obtain ⟨A1, c1, rfl, hl1, hC1⟩ := Kd.R_reads ho
    replace HC := Aside0.mk hC1
    replace BX := Aside0.mk (blk_below BX.out hb)
    replace HB := Aside0.mk (below_step HB.out hb)
    clear hb ho hC1 G1 d0 d1 d2 d3 d4 d5 d6 d7
    obtain ⟨d0, d1, d2, d3, d4, d5, d6, d7⟩ := it_cells BX.out
    go_wp2_with fail
    refine (wire_PutText.calls k A1 c1 b1 ii b2 w2 HC.out hl1 G2.out).mono ?_
    rintro ev w3 ⟨u, rfl, ho, hb⟩
    obtain ⟨A2, c2, rfl, hl2, hC2⟩ := Kd.R_reads ho
    replace HC := Aside0.mk hC2
    replace BX := Aside0.mk (blk_below BX.out hb)
    replace HB := Aside0.mk (below_step HB.out hb)
    clear hb ho hC2 G2 d0 d1 d2 d3 d4 d5 d6 d7
    go_upto_region 5 with fail
    refine start_ (n := 10) (S := fun w' => w'.cell? ⟨w.heap.size, 0, none⟩ = some (.int .i64 ik) ∧ w'.cell? ⟨w.heap.size, 1, none⟩ = some (.string ii) ∧ w'.cell? ⟨w.heap.size, 2, none⟩ = some (.int .i64 iq) ∧ w'.cell? ⟨w.heap.size, 3, none⟩ = some (.int .i64 is) ∧ w'.cell? ⟨w.heap.size, 4, none⟩ = some (.bool idd) ∧ w'.cell? ⟨w.heap.size, 5, none⟩ = some (.complex .f64 (fl ix) (fl iy)) ∧ w'.cell? ⟨w.heap.size, 6, none⟩ = some (.string it) ∧ w'.cell? ⟨w.heap.size, 7, none⟩ = some (.bool ih)) (ds := []) #[false, false, false, false, false, false, false, false, false, false] (by kernel_rfl) rfl rfl (it_cells (blk_drew BX.out)) (fun hHeld => ?_)
    replace BX := Aside0.mk (blk_drew BX.out)
    replace HC := Aside0.mk (Kd.C_drew HC.out)
    replace HB := Aside0.mk (below_drew1 HB.out)
    generalize w3.drew = w4 at BX HC HB hHeld ⊢
    refine pure_ (i := 0) (N := some 21) (v := ?_) (a' := ?_) #[true, false, false, false, false, false, false, false, false, false] rfl rfl (by kernel_rfl) (fun _ _ _ h => h) (Or.inl ⟨by rfl, ?_⟩) ?_ ?_
    rotate_left
    · intro w'
      go_simp
      with_reducible rfl
    rotate_left
    · simp only [Act.put, List.setIfInBounds_toArray, List.set_cons_zero, List.set_cons_succ, i64_w, i32_w]
      rfl
    refine pure_ (i := 1) (N := some 22) (v := ?_) (a' := ?_) #[true, true, false, false, false, false, false, false, false, false] rfl rfl (by kernel_rfl) (fun _ _ _ h => h) (Or.inl ⟨by rfl, ?_⟩) ?_ ?_
    rotate_left
    · intro w'
      go_simp
      with_reducible rfl
    rotate_left
    · simp only [Act.put, List.setIfInBounds_toArray, List.set_cons_zero, List.set_cons_succ, i64_w, i32_w]
      rfl
    refine take_ (i := 2) (N := some 23) (v := ?_) (a' := ?_) #[true, true, true, false, false, false, false, false, false, false] rfl rfl (by kernel_rfl) (fun _ _ _ h => h) (Or.inl ⟨by rfl, ?_⟩) hHeld ?_ ?_
    rotate_left
    · rintro w' ⟨s0, s1, s2, s3, s4, s5, s6, s7⟩
      go_simp
      with_reducible rfl
    rotate_left
    · simp only [Act.put, List.setIfInBounds_toArray, List.set_cons_zero, List.set_cons_succ, i64_w, i32_w]
      rfl
    refine pure_ (i := 3) (N := some 24) (v := ?_) (a' := ?_) #[true, true, true, true, false, false, false, false, false, false] rfl rfl (by kernel_rfl) (fun _ _ _ h => h) (Or.inl ⟨by rfl, ?_⟩) ?_ ?_
    rotate_left
    · intro w'
      go_simp
      with_reducible rfl
    rotate_left
    · simp only [Act.put, List.setIfInBounds_toArray, List.set_cons_zero, List.set_cons_succ, i64_w, i32_w]
      rfl
    refine pure_ (i := 4) (N := some 25) (v := ?_) (a' := ?_) #[true, true, true, true, true, false, false, false, false, false] rfl rfl (by kernel_rfl) (fun _ _ _ h => h) (Or.inl ⟨by rfl, ?_⟩) ?_ ?_
    rotate_left
    · intro w'
      go_simp
      with_reducible rfl
    rotate_left
    · simp only [Act.put, List.setIfInBounds_toArray, List.set_cons_zero, List.set_cons_succ, i64_w, i32_w]
      rfl
    refine take_ (i := 5) (N := some 26) (v := ?_) (a' := ?_) #[true, true, true, true, true, true, false, false, false, false] rfl rfl (by kernel_rfl) (fun _ _ _ h => h) (Or.inl ⟨by rfl, ?_⟩) hHeld ?_ ?_
    rotate_left
    · rintro w' ⟨s0, s1, s2, s3, s4, s5, s6, s7⟩
      go_simp
      with_reducible rfl
    rotate_left
    · simp only [Act.put, List.setIfInBounds_toArray, List.set_cons_zero, List.set_cons_succ, i64_w, i32_w]
      rfl
    refine take_ (i := 6) (N := some 27) (v := ?_) (a' := ?_) #[true, true, true, true, true, true, true, false, false, false] rfl rfl (by kernel_rfl) (fun _ _ _ h => h) (Or.inl ⟨by rfl, ?_⟩) hHeld ?_ ?_
    rotate_left
    · rintro w' ⟨s0, s1, s2, s3, s4, s5, s6, s7⟩
      go_simp
      with_reducible rfl
    rotate_left
    · simp only [Act.put, List.setIfInBounds_toArray, List.set_cons_zero, List.set_cons_succ, i64_w, i32_w]
      rfl
    refine pure_ (i := 9) (N := some 30) (v := ?_) (a' := ?_) #[true, true, true, true, true, true, true, false, false, true] rfl rfl (by kernel_rfl) (fun _ _ _ h => h) (Or.inl ⟨by rfl, ?_⟩) ?_ ?_
    rotate_left
    · intro w'
      go_simp
      with_reducible rfl
    rotate_left
    · simp only [Act.put, List.setIfInBounds_toArray, List.set_cons_zero, List.set_cons_succ, i64_w, i32_w]
      rfl
    refine one_ (i := 7) (N := some 28) #[true, true, true, true, true, true, true, true, false, true] rfl rfl (by kernel_rfl) (by decide) (fun K hK => ?_)
    refine goes_ Try.func40 (by kernel_rfl) rfl #[.agg (itC ik ii iq is idd ix iy it ih)] (by rfl) rfl rfl (by (try simp only [List.map_toArray, List.map_cons, List.map_nil]); first | done | rfl) ?_
    refine (HK.out w4).mono ?_
    rintro ev w5 ⟨rfl, hb⟩
    refine ⟨_, rfl, ?_⟩
    replace BX := Aside0.mk (blk_below BX.out hb)
    replace HC := Aside0.mk (Kd.C_below HC.out hb)
    replace HB := Aside0.mk (below_step HB.out hb)
    clear hb HK
    change Aside0 (putAll k b2 [iq, is, (if idd then 0 else if ih then 2 else 1)] = some b5) at G5
    generalize (if idd then (0 : Int) else if ih then 2 else 1) = kd at G5 ⊢
    refine hK.out _ _ (it_cells BX.out) (fun hHeld => ?_)
    clear hK K
    refine norm_ (a' := ?_) ?_ ?_
    rotate_left
    · show Act.put _ (some 28) _ = _
      simp only [Act.put, List.setIfInBounds_toArray, List.set_cons_zero, List.set_cons_succ, i64_w, i32_w]
      rfl
    refine pure_ (i := 8) (N := some 29) (v := ?_) (a' := ?_) #[true, true, true, true, true, true, true, true, true, true] rfl rfl (by kernel_rfl) (fun _ _ _ h => h) (Or.inl ⟨by rfl, ?_⟩) ?_ ?_
    rotate_left
    · intro w'
      go_simp
      with_reducible rfl
    rotate_left
    · simp only [Act.put, List.setIfInBounds_toArray, List.set_cons_zero, List.set_cons_succ, i64_w, i32_w]
      rfl
    refine done_ (by kernel_rfl) ?_
    have hl2' := hl2
    have hu3 := Try.underlying78
    clear hl2 hl1
    go_wp2_with fail
    go_loopg [0, 6, 30] 4 (fun m v0 v6 v30 w' => ∃ (A : Option Addr) (c : Nat) (b : List Int) (i : Nat), v0 = .slice A b.length c ∧ v30 = .int .i64 (i : Int) ∧ i + m = 4 ∧ i ≤ 3 ∧ Aside0 (b.length ≤ c ∧ Kd.C (Kd.int .u8) w' A b.length b) ∧ Aside0 (putAll k b (([iq, is, kd] : List Int).drop i) = some b5) ∧ Aside0 (w'.heap[w.heap.size]? = some (.cells (itC ik ii iq is idd ix iy it ih) 40 (0, 0))) ∧ Aside0 (Below w.heap.size w w'))
    case atStart => exact ⟨A2, c2, b2, 0, rfl, rfl, rfl, by omega, ⟨⟨hl2', HC.out⟩⟩, G5, BX, HB⟩
    case round =>
      clear G5 BX HB HC hl2'
      obtain ⟨A, c, b, i, rfl, rfl, him, hi3, HC, HP, BX, HB⟩ := hrel
      obtain ⟨m1, rfl⟩ : ∃ m1, gk = m1 + 1 := ⟨gk - 1, by omega⟩
      obtain rfl | rfl | rfl | rfl : i = 0 ∨ i = 1 ∨ i = 2 ∨ i = 3 := by omega
      · rw [show ((0 : Nat) : Int) = 0 from rfl]
        have hp := HP.out
        change putAll k b (iq :: [is, kd]) = some b5 at hp
        rw [putAll] at hp
        obtain ⟨b', hb', hp⟩ := Option.bind_eq_some_iff.mp hp
        have HB' := Aside0.mk hb'
        have HP' := Aside0.mk hp
        clear HP hp hb'
        go_wp2_with fail
        refine (wire_Put.calls k A c b iq b' wr HC.out.2 HC.out.1 HB'.out).mono ?_
        rintro ev w6 ⟨u, rfl, ho, hb⟩
        obtain ⟨A1, c1, rfl, hl1, hC1⟩ := Kd.R_reads ho
        replace HC := Aside0.mk (And.intro hl1 hC1)
        replace BX := Aside0.mk (blk_below BX.out hb)
        replace HB := Aside0.mk (below_step HB.out hb)
        clear hb ho hC1 hl1
        go_wp2_with fail
        go_roundg m1
        case measure => omega
        case rel => exact ⟨A1, c1, b', 1, rfl, rfl, by omega, by omega, HC, HP', BX, HB⟩
      · rw [show ((1 : Nat) : Int) = 1 from rfl]
        have hp := HP.out
        change putAll k b (is :: [kd]) = some b5 at hp
        rw [putAll] at hp
        obtain ⟨b', hb', hp⟩ := Option.bind_eq_some_iff.mp hp
        have HB' := Aside0.mk hb'
        have HP' := Aside0.mk hp
        clear HP hp hb'
        go_wp2_with fail
        refine (wire_Put.calls k A c b is b' wr HC.out.2 HC.out.1 HB'.out).mono ?_
        rintro ev w6 ⟨u, rfl, ho, hb⟩
        obtain ⟨A1, c1, rfl, hl1, hC1⟩ := Kd.R_reads ho
        replace HC := Aside0.mk (And.intro hl1 hC1)
        replace BX := Aside0.mk (blk_below BX.out hb)
        replace HB := Aside0.mk (below_step HB.out hb)
        clear hb ho hC1 hl1
        go_wp2_with fail
        go_roundg m1
        case measure => omega
        case rel => exact ⟨A1, c1, b', 2, rfl, rfl, by omega, by omega, HC, HP', BX, HB⟩
      · rw [show ((2 : Nat) : Int) = 2 from rfl]
        have hp := HP.out
        change putAll k b (kd :: []) = some b5 at hp
        rw [putAll] at hp
        obtain ⟨b', hb', hp⟩ := Option.bind_eq_some_iff.mp hp
        have HB' := Aside0.mk hb'
        have HP' := Aside0.mk hp
        clear HP hp hb'
        go_wp2_with fail
        refine (wire_Put.calls k A c b kd b' wr HC.out.2 HC.out.1 HB'.out).mono ?_
        rintro ev w6 ⟨u, rfl, ho, hb⟩
        obtain ⟨A1, c1, rfl, hl1, hC1⟩ := Kd.R_reads ho
        replace HC := Aside0.mk (And.intro hl1 hC1)
        replace BX := Aside0.mk (blk_below BX.out hb)
        replace HB := Aside0.mk (below_step HB.out hb)
        clear hb ho hC1 hl1
        go_wp2_with fail
        go_roundg m1
        case measure => omega
        case rel => exact ⟨A1, c1, b', 3, rfl, rfl, by omega, by omega, HC, HP', BX, HB⟩
      · rw [show ((3 : Nat) : Int) = 3 from rfl]
        obtain rfl : b = b5 := by
          have hp := HP.out
          change putAll k b [] = some b5 at hp
          rw [putAll] at hp
          exact Option.some.inj hp
        clear HP him hi3
        obtain ⟨d0, d1, d2, d3, d4, d5, d6, d7⟩ := it_cells BX.out
        have hr := HR.out
        clear HR
        cases idd with
        | true =>
          obtain rfl := Option.some.inj ((if_pos rfl).symm.trans hr)
          clear hr HF
          go_wp2_with fail
          go_ret
          exact ⟨A, c, rfl, HC.out.1, HC.out.2, HB.out⟩
        | false =>
          replace hr := (if_neg (by decide)).symm.trans hr
          obtain ⟨b6, g6, hr⟩ := Option.bind_eq_some_iff.mp hr
          obtain ⟨b7, g7, hr⟩ := Option.bind_eq_some_iff.mp hr
          try dsimp only at g6 g7 hr
          have G6 := Aside0.mk g6
          have G7 := Aside0.mk g7
          have HR := Aside0.mk hr
          clear g6 g7 hr
          obtain ⟨f1, f2⟩ := HF.out
          clear HF
          go_wp2_with fail
          refine (wire_Put.calls k A c b (wrap64 (ix + 1000)) b6 wr HC.out.2 HC.out.1 G6.out).mono ?_
          rintro ev w6 ⟨u, rfl, ho, hb⟩
          obtain ⟨A1, c1, rfl, hl1, hC1⟩ := Kd.R_reads ho
          replace HC := Aside0.mk (And.intro hl1 hC1)
          replace BX := Aside0.mk (blk_below BX.out hb)
          replace HB := Aside0.mk (below_step HB.out hb)
          clear hb ho hC1 hl1 G6 d0 d1 d2 d3 d4 d5 d6 d7
          obtain ⟨d0, d1, d2, d3, d4, d5, d6, d7⟩ := it_cells BX.out
          go_wp2_with fail
          refine (wire_Put.calls k A1 c1 b6 (wrap64 (iy + 1000)) b7 w6 HC.out.2 HC.out.1 G7.out).mono ?_
          rintro ev w7 ⟨u, rfl, ho, hb⟩
          obtain ⟨A3, c3, rfl, hl1, hC1⟩ := Kd.R_reads ho
          replace HC := Aside0.mk (And.intro hl1 hC1)
          replace BX := Aside0.mk (blk_below BX.out hb)
          replace HB := Aside0.mk (below_step HB.out hb)
          clear hb ho hC1 hl1 G7 d0 d1 d2 d3 d4 d5 d6 d7 f1 f2
          obtain ⟨d0, d1, d2, d3, d4, d5, d6, d7⟩ := it_cells BX.out
          have hr := HR.out
          clear HR
          cases ih with
          | false =>
            obtain rfl := Option.some.inj ((if_neg (by decide)).symm.trans hr)
            clear hr
            go_wp2_with fail
            go_ret
            exact ⟨A3, c3, rfl, HC.out.1, HC.out.2, HB.out⟩
          | true =>
            replace hr := (if_pos rfl).symm.trans hr
            have HR := Aside0.mk (show wire_PutText.f k b7 it = some r from hr)
            clear hr
            go_wp2_with fail
            refine (wire_PutText.calls k A3 c3 b7 it r w7 HC.out.2 HC.out.1 HR.out).mono ?_
            rintro ev w8 ⟨u, rfl, ho, hb⟩
            obtain ⟨A4, c4, rfl, hl1, hC1⟩ := Kd.R_reads ho
            replace HC := Aside0.mk (And.intro hl1 hC1)
            replace HB := Aside0.mk (below_step HB.out hb)
            clear hb ho hC1 hl1
            go_wp2_with fail
            go_ret
            exact ⟨A4, c4, rfl, HC.out.1, HC.out.2, HB.out⟩
theorem eqIn_cxd (e a b c d : Nat) (w : World) : (Op.equalIn (e + 1) 38 (.complex .f64 a b) (.complex .f64 c d)).run Try.prog w = .ok ((FloatKind.f64.format.order a c == some .eq) && (FloatKind.f64.format.order b d == some .eq)) w := by
  have hu := Try.underlying38
  simp [Op.equalIn, run_underlying hu, Op.complexOp, Op.Complex.cmp, Op.floatCmp, Op.floatEq, asBool]
theorem eqIn_cx (a b c d : Nat) (w : World) : (Op.equalIn 9999 38 (.complex .f64 a b) (.complex .f64 c d)).run Try.prog w = .ok ((FloatKind.f64.format.order a c == some .eq) && (FloatKind.f64.format.order b d == some .eq)) w := eqIn_cxd 9998 a b c d w
attribute [local go_sem] eqIn_cx
theorem eq_00 : (FloatKind.f64.format.order 0 0 == some Ordering.eq) = true := by decide +kernel
def tI : It := ⟨1, ⟨#[48]⟩, 1, 3, true, 0, 0, ⟨#[]⟩, false⟩
theorem t_put : itPut 20 [] tI = some [1, 1, 48, 1, 3, 0] := by kernel_rfl
theorem t_take : itTake 20 [1, 1, 48, 1, 3, 0] 0 0 = some (tI, true, 6, 0) := by kernel_rfl
theorem t_str : strOfNums [1, 1, 48, 1, 3, 0] = ⟨#[1, 1, 48, 1, 3, 0]⟩ := by rfl
theorem t_right : tI.right = some true := by kernel_rfl
theorem t_newer : item_Newer.f ⟨#[48, 49]⟩ 0 3 ⟨#[48]⟩ 1 3 = some true := by rfl
theorem t_eq (w : World) : (binOp .eql 40 (.agg tI.v) (.agg tI.v)).run Try.prog w = .ok (.bool true) w := by kernel_rfl
def cenotaphlaw07_told.f : Option Bool := some true
set_option maxHeartbeats 8000000 in
set_option maxRecDepth 100000 in
theorem cenotaphlaw07_told.calls (r : Bool) (w : World) (h : cenotaphlaw07_told.f = some r) : Calls Try.prog 11 #[] w fun e w' => e = .returned (.bool r) ∧ Below w.heap.size w w' := by
  obtain rfl := Option.some.inj h
  clear h
  have hu := Try.underlying40
  have ev : tI.v = #[.int .i64 1, .string ⟨#[48]⟩, .int .i64 1, .int .i64 3, .bool true, .complex .f64 0 0, .string ⟨#[]⟩, .bool false] := by rw [fl_0]; rfl
  have HP := Aside0.mk (fun (W : World) => it_put 20 none 0 [] tI _ W (Kd.C_nil _ _) (Nat.le_refl _) (by decide) (by decide) t_put)
  have HE := Aside0.mk (t_eq)
  have HT := Aside0.mk (fun (g : Nat) (W : World) (hi : RD 69 W g [1, 1, 48, 1, 3, 0] 0 0) => it_take 20 g [1, 1, 48, 1, 3, 0] 0 0 tI true 6 0 W hi t_take)
  have HI := Aside0.mk (fun (W : World) => it_right 1 ⟨#[48]⟩ 1 3 true 0 0 ⟨#[]⟩ false true W (by decide) (by decide) t_right)
  change Aside0 (∀ W, Calls Try.prog 23 #[.agg tI.v] W _) at HI
  rw [ev] at HP HE HT HI
  clear ev
  go_enter Try.func11, Try.ntmps11
  go_wp2_with fail
  refine (HP.out _).mono ?_
  rintro e w2 ⟨A2, c2, rfl, hl2, hC2, hb⟩
  have HB1 := Aside0.mk (below_alloc (Below.refl w.heap.size w) (.cells #[.int .i64 1, .string ⟨#[48]⟩, .int .i64 1, .int .i64 3, .bool true, .complex .f64 0 0, .string ⟨#[]⟩, .bool false] 40))
  have BX := Aside0.mk (blk_below (blk_new w (.cells #[.int .i64 1, .string ⟨#[48]⟩, .int .i64 1, .int .i64 3, .bool true, .complex .f64 0 0, .string ⟨#[]⟩, .bool false] 40)) hb)
  have HB := Aside0.mk (below_step HB1.out hb)
  have HLT := Aside0.mk (blk_lt BX.out)
  have HC := Aside0.mk hC2
  clear hC2 hb HP HB1
  go_wp2_with fail
  refine (rd_read A2 c2 [1, 1, 48, 1, 3, 0] w2 HC.out hl2 (by decide)).mono ?_
  rintro e w3 ⟨g, rfl, hi, hge, hb⟩
  have HRD := Aside0.mk hi
  have HGE := Aside0.mk hge
  replace HC := Aside0.mk (Kd.C_below HC.out hb)
  replace BX := Aside0.mk (blk_below BX.out hb)
  have HB2 := Aside0.mk HB.out
  replace HB := Aside0.mk (below_step HB.out hb)
  clear hi hge hb
  go_wp2_with fail
  refine (HT.out g w3 HRD.out).mono ?_
  rintro e w4 ⟨rfl, hi, hb, hk⟩
  have HG := Aside0.mk (show w.heap.size < g from Nat.lt_of_lt_of_le HLT.out HGE.out)
  replace BX := Aside0.mk (hk.blk BX.out (by have := HG.out; omega) (by simp))
  replace HC := Aside0.mk (HRD.out.C_keep hk HC.out)
  replace HB := Aside0.mk (hb w (Nat.le_of_lt HG.out) HB.out)
  clear hi hb hk HT HRD
  have hcv := Kd.C_string (P := Try.prog) (c := c2) Try.underlying32 Try.underlying5 Try.underlying9 (Kd.C_below HC.out (below_alloc (Below.refl w4.heap.size w4) (.cells #[.int .i64 1, .string ⟨#[48]⟩, .int .i64 1, .int .i64 3, .bool true, .complex .f64 0 0, .string ⟨#[]⟩, .bool false] 40)))
  rw [t_str, show [(1 : Int), 1, 48, 1, 3, 0].length = 6 from rfl] at hcv
  obtain ⟨c0, c1, c2_, c3, c4, c5, c6, c7⟩ := it_cells BX.out
  obtain ⟨d0, d1, d2, d3, d4, d5, d6, d7⟩ := it_cells (blk_below BX.out (below_alloc (Below.refl w4.heap.size w4) (.cells #[.int .i64 1, .string ⟨#[48]⟩, .int .i64 1, .int .i64 3, .bool true, .complex .f64 0 0, .string ⟨#[]⟩, .bool false] 40)))
  have HLT4 := Aside0.mk (blk_lt BX.out)
  replace BX := Aside0.mk (blk_below BX.out (below_alloc (Below.refl w4.heap.size w4) (.cells #[.int .i64 1, .string ⟨#[48]⟩, .int .i64 1, .int .i64 3, .bool true, .complex .f64 0 0, .string ⟨#[]⟩, .bool false] 40)))
  replace HB := Aside0.mk (below_step HB.out (below_alloc (Below.refl w4.heap.size w4) (.cells #[.int .i64 1, .string ⟨#[48]⟩, .int .i64 1, .int .i64 3, .bool true, .complex .f64 0 0, .string ⟨#[]⟩, .bool false] 40)))
  have heq := eq_00
  clear HE
  go_wp2_with fail
  refine (HI.out _).mono ?_
  rintro e w6 ⟨rfl, hb⟩
  replace BX := Aside0.mk (blk_below BX.out hb)
  replace HB := Aside0.mk (below_step HB.out hb)
  clear hb hcv heq c0 c1 c2_ c3 c4 c5 c6 c7 d0 d1 d2 d3 d4 d5 d6 d7
  obtain ⟨c0, c1, c2_, c3, c4, c5, c6, c7⟩ := it_cells BX.out
  go_wp2_with fail
  refine (item_Newer.calls ⟨#[48, 49]⟩ 0 3 ⟨#[48]⟩ 1 3 true w6 t_newer).mono ?_
  rintro e w7 ⟨rfl, hb⟩
  replace HB := Aside0.mk (below_step HB.out hb)
  clear hb
  go_wp2_with fail
  go_ret
  exact ⟨rfl, HB.out⟩

end Go.Proofs.Ytkmhanpamdgnjaa.P
