import Derived.Test.YtgdkgobplinelaaWMore
import Derived.Test.YtgdkgobplinelaaWShare
import Derived.Test.YtgdkgobplinelaaRow
import Derived.Test.YtgdkgobplinelaaFTwo
namespace Go.Proofs.Ytgdkgobplinelaa
open Go.RowKit Go.Proofs.YtgdkgobplinelaaW.PrintWords Go.Proofs.YtgdkgobplinelaaW.PrintWords.Kd
set_option linter.unusedVariables false
structure RW where
  f0 : ByteArray
  u : Int
  A : Option Addr
  n : Nat
  c : Nat
def zRW : RW := ⟨⟨#[]⟩, 0, none, 0, 0⟩
def kRW : Kd RW := Kd.iso (Kd.pair Kd.string (Kd.pair (Kd.int .i64) (Kd.scalar (fun p : Option Addr × Nat × Nat => .slice p.1 p.2.1 p.2.2) (fun _ => rfl)))) (fun x => (x.f0, (x.u, (x.A, x.n, x.c))))
theorem kRW_open {w : World} {x : RW} {cs : List Value} (h : kRW.K w x cs) : cs = [.string x.f0, .int .i64 x.u, .slice x.A x.n x.c] := by
  obtain ⟨_, _, rfl, rfl, ⟨_, _, rfl, rfl, rfl⟩⟩ := h
  exact rfl
theorem kRW_openM {w : World} {base : Nat} {ok : Nat → Prop} {x : RW} {cs : List Value} (h : kRW.M w base ok x cs) : cs = [.string x.f0, .int .i64 x.u, .slice x.A x.n x.c] := by
  obtain ⟨_, _, rfl, rfl, ⟨_, _, rfl, rfl, rfl⟩⟩ := h
  exact rfl
theorem kRW_mk (w : World) (x : RW) : kRW.K w x [.string x.f0, .int .i64 x.u, .slice x.A x.n x.c] := ⟨[.string x.f0], [.int .i64 x.u, .slice x.A x.n x.c], rfl, rfl, ⟨[.int .i64 x.u], [.slice x.A x.n x.c], rfl, rfl, rfl⟩⟩
theorem kRW_mkM (w : World) (base : Nat) (ok : Nat → Prop) (x : RW) : kRW.M w base ok x [.string x.f0, .int .i64 x.u, .slice x.A x.n x.c] := ⟨[.string x.f0], [.int .i64 x.u, .slice x.A x.n x.c], rfl, rfl, ⟨[.int .i64 x.u], [.slice x.A x.n x.c], rfl, rfl, rfl⟩⟩
def rd_RW (xs : List RW) (i : Int) : RW := xs.getD i.toNat zRW
theorem at_RW {w : World} {A : Option Addr} {n : Nat} {xs : List RW} (h : Kd.C kRW w A n xs) (i : Int) (h0 : 0 ≤ i) (h1 : i < n) : ∃ ad , A = some ad ∧ w.cell? (ad.add (i.toNat * 3)) = some (.string (rd_RW xs i).f0) ∧ w.cell? ⟨(ad.add (i.toNat * 3)).block, (ad.add (i.toNat * 3)).off + 1, none⟩ = some (.int .i64 (rd_RW xs i).u) ∧ w.cell? ⟨(ad.add (i.toNat * 3)).block, (ad.add (i.toNat * 3)).off + 2, none⟩ = some (.slice (rd_RW xs i).A (rd_RW xs i).n (rd_RW xs i).c) := by
  obtain ⟨ad, c, e, _, hK, hc0⟩ := Kd.C_get h zRW i h0 h1
  have hc : ∀ j u, c[j]? = some u → w.cell? (ad.add (i.toNat * 3 + j)) = some u := hc0
  obtain rfl := kRW_open hK
  exact ⟨ad, e, hc 0 _ rfl, by rw [← add_field _ _ 1 (by omega)]; exact hc 1 _ rfl, by rw [← add_field _ _ 2 (by omega)]; exact hc 2 _ rfl⟩
def IN {α : Type} (d : Kd α) (w : World) (ok : Nat → Prop) (r : RW) (s : ByteArray) (m : Int) (l : List α) : Prop := r.f0 = s ∧ r.u = m ∧ r.n = l.length ∧ l.length ≤ r.c ∧ Kd.F d w ok r.A l.length l
section
variable {α β : Type} {d : Kd α} {f : β → ByteArray} {h_ : β → Int} {g : β → List α} {w w1 : World} {ok ok' : Nat → Prop} {r : RW} {s : ByteArray} {mm : Int} {l : List α} {rs : List RW} {xs : List β} {e base : Nat} {v : Value}
theorem IN.step (h : IN d w ok r s mm l) (hm : ∀ k, ok k → k < w.heap.size → w1.heap[k]? = w.heap[k]?) : IN d w1 ok r s mm l := ⟨h.1, h.2.1, h.2.2.1, h.2.2.2.1, Kd.F_step h.2.2.2.2 hm⟩
theorem IN.mono (h : IN d w ok r s mm l) (hok : ∀ k, ok k → ok' k) : IN d w ok' r s mm l := ⟨h.1, h.2.1, h.2.2.1, h.2.2.2.1, Kd.F_mono h.2.2.2.2 hok⟩
theorem IN.below (h : IN d w ok r s mm l) (hb : Below w.heap.size w w1) : IN d w1 ok r s mm l := h.step (fun k _ hk => hb.block k hk)
theorem IN.now (h : IN d w ok r s mm l) : r.f0 = s ∧ r.u = mm ∧ r.n = l.length ∧ l.length ≤ r.c ∧ Kd.C d w r.A l.length l := ⟨h.1, h.2.1, h.2.2.1, h.2.2.2.1, Kd.F_now h.2.2.2.2⟩
def INs (d : Kd α) (f : β → ByteArray) (h_ : β → Int) (g : β → List α) (w : World) (ok : Nat → Prop) (rs : List RW) (xs : List β) : Prop := F2 (fun r x => IN d w ok r (f x) (h_ x) (g x)) rs xs
theorem INs.step (h : INs d f h_ g w ok rs xs) (hm : ∀ k, ok k → k < w.heap.size → w1.heap[k]? = w.heap[k]?) : INs d f h_ g w1 ok rs xs := F2.imp (fun _ _ h => h.step hm) h
theorem INs.mono (h : INs d f h_ g w ok rs xs) (hok : ∀ k, ok k → ok' k) : INs d f h_ g w ok' rs xs := F2.imp (fun _ _ h => h.mono hok) h
theorem INs.below (h : INs d f h_ g w ok rs xs) (hb : Below w.heap.size w w1) : INs d f h_ g w1 ok rs xs := h.step (fun k _ hk => hb.block k hk)
theorem INs.bound (h : INs d f h_ g w ok rs xs) : INs d f h_ g w (fun k => ok k ∧ k < w.heap.size) rs xs := F2.imp (fun _ _ h => ⟨h.1, h.2.1, h.2.2.1, h.2.2.2.1, Kd.F_bound h.2.2.2.2⟩) h
theorem INs.f0 (h : INs d f h_ g w ok rs xs) (z : β) (hz : f z = ⟨#[]⟩) (i : Nat) : (rs.getD i zRW).f0 = f (xs.getD i z) := by
  by_cases hi : i < xs.length
  · exact (F2.getD h hi zRW z).1
  · have hl := F2.len h
    rw [List.getD_eq_getElem?_getD, List.getD_eq_getElem?_getD, List.getElem?_eq_none (by omega), List.getElem?_eq_none (by omega)]
    exact hz.symm
structure LeadK (K : Kd β) (d : Kd α) (f : β → ByteArray) (h_ : β → Int) (g : β → List α) : Prop where
  sz : K.sz = 3
  heap : Kd.Heap d
  opn : ∀ {w : World} {x : β} {cs : List Value}, K.K w x cs → ∃ A c, cs = [.string (f x), .int .i64 (h_ x), .slice A (g x).length c] ∧ (g x).length ≤ c ∧ d.C w A (g x).length (g x)
  mkK : ∀ {w : World} {x : β} {A : Option Addr} {c : Nat}, (g x).length ≤ c → d.C w A (g x).length (g x) → K.K w x [.string (f x), .int .i64 (h_ x), .slice A (g x).length c]
variable {K : Kd β} (L : LeadK K d f h_ g)
include L
theorem lead_raw {A : Option Addr} {n : Nat} (h : K.C w A n xs) : ∃ rs, kRW.C w A n rs ∧ INs d f h_ g w (fun k => k < w.heap.size) rs xs := by
  obtain ⟨h1, h2, h3⟩ := h
  have hex : ∀ j : Fin xs.length, ∃ r : RW, (∀ ad, A = some ad → ∀ i u, [Value.string r.f0, .int .i64 r.u, .slice r.A r.n r.c][i]? = some u → w.cell? (ad.add (j.1 * 3 + i)) = some u) ∧ IN d w (fun k => k < w.heap.size) r (f xs[j.1]) (h_ xs[j.1]) (g xs[j.1]) := by
    intro j
    obtain ⟨ad, hA, hc⟩ := h3 (by have := j.2; omega)
    obtain ⟨c, hl, hK, hcell⟩ := hc j.1 _ (List.getElem?_eq_getElem j.2)
    obtain ⟨A1, c1, rfl, hle, hC⟩ := L.opn hK
    refine ⟨⟨f xs[j.1], h_ xs[j.1], A1, (g xs[j.1]).length, c1⟩, ?_, rfl, rfl, rfl, hle, Kd.C_F L.heap hC⟩
    intro ad2 hA2 i u hu
    obtain rfl : ad = ad2 := Option.some.inj (hA.symm.trans hA2)
    have := hcell i u hu
    rwa [L.sz] at this
  have hch := Classical.axiomOfChoice hex
  obtain ⟨ff, hff⟩ := hch
  refine ⟨List.ofFn ff, ⟨by simp [h1], h2, fun hn => ?_⟩, F2.of (by simp) (fun j r x hr hx => ?_)⟩
  · obtain ⟨ad, hA, hc⟩ := h3 hn
    refine ⟨ad, hA, fun j r hr => ?_⟩
    rw [List.getElem?_ofFn] at hr
    split at hr
    · rename_i hj
      obtain rfl := Option.some.inj hr
      exact ⟨_, rfl, kRW_mk w _, fun i u hu => (hff ⟨j, hj⟩).1 ad hA i u hu⟩
    · cases hr
  · rw [List.getElem?_ofFn] at hr
    split at hr
    · rename_i hj
      obtain rfl := Option.some.inj hr
      have := (hff ⟨j, hj⟩).2
      rw [List.getElem?_eq_getElem hj] at hx
      obtain rfl := Option.some.inj hx
      exact this
    · cases hr
theorem lead_C {A : Option Addr} {n : Nat} (h : kRW.C w A n rs) (h2 : INs d f h_ g w ok rs xs) : K.C w A n xs := by
  obtain ⟨a1, a2, a3⟩ := h
  have hl := F2.len h2
  refine ⟨by omega, a2, fun hn => ?_⟩
  obtain ⟨ad, hA, hc⟩ := a3 hn
  refine ⟨ad, hA, fun j x hx => ?_⟩
  have hj : j < rs.length := by rw [hl]; exact (List.getElem?_eq_some_iff.1 hx).1
  obtain ⟨c, hcl, hK, hcell⟩ := hc j _ (List.getElem?_eq_getElem hj)
  obtain rfl := kRW_open hK
  obtain ⟨b1, b0, b2, b3, b4⟩ := (F2.at h2 (List.getElem?_eq_getElem hj) hx).now
  refine ⟨[.string (f x), .int .i64 (h_ x), .slice rs[j].A (g x).length rs[j].c], by rw [L.sz]; rfl, ?_, fun i u hu => ?_⟩
  · exact L.mkK b3 b4
  · rw [← b1, ← b0, ← b2] at hu
    have := hcell i u hu
    rw [L.sz]
    exact this
theorem lead_own (h : kRW.R e w base ok v rs) (h2 : INs d f h_ g w ok' rs xs) : ∃ A c, v = .slice A xs.length c ∧ xs.length ≤ c ∧ K.C w A xs.length xs := by
  obtain ⟨A, c, rfl, hle, hC⟩ := Kd.R_reads h
  have hl := F2.len h2
  rw [hl] at hle hC
  exact ⟨A, c, by rw [hl], hle, lead_C L hC h2⟩
theorem lead_IN {x : β} {c : List Value} (h : FK K w ok x c) : ∃ r : RW, c = [.string r.f0, .int .i64 r.u, .slice r.A r.n r.c] ∧ IN d w ok r (f x) (h_ x) (g x) := by
  obtain ⟨A, c0, hc, hle⟩ := L.opn (h w (fun _ _ _ => rfl))
  refine ⟨⟨f x, h_ x, A, (g x).length, c0⟩, hc, rfl, rfl, rfl, hle.1, fun W' hW => ?_⟩
  obtain ⟨A', c', hc', _, hC⟩ := L.opn (h W' hW)
  rw [hc] at hc'
  injection hc' with _ e1
  injection e1 with _ e2
  injection e2 with e3 _
  injection e3 with e4 _ _
  rw [e4]; exact hC
theorem lead_N (h : Kd.N K e w base ok v xs) : ∃ rs, kRW.R e w base (fun _ => True) v rs ∧ INs d f h_ g w (fun k => ok k ∧ some k ≠ v.ownBlock) rs xs := by
  obtain ⟨h0, rows, hl, ⟨_, inner, ho, hr⟩, hf⟩ := h
  have hex : ∀ j : Fin xs.length, ∃ r : RW, rows[j.1]? = some [.string r.f0, .int .i64 r.u, .slice r.A r.n r.c] ∧ IN d w (fun k => ok k ∧ some k ≠ v.ownBlock) r (f xs[j.1]) (h_ xs[j.1]) (g xs[j.1]) := by
    intro j
    have hj : j.1 < rows.length := by rw [hl]; exact j.2
    obtain ⟨r, hc, hI⟩ := lead_IN L (hf j.1 _ _ (List.getElem?_eq_getElem j.2) (List.getElem?_eq_getElem hj))
    exact ⟨r, by rw [List.getElem?_eq_getElem hj, hc], hI⟩
  obtain ⟨ff, hff⟩ := Classical.axiomOfChoice hex
  refine ⟨List.ofFn ff, ⟨fun _ _ => trivial, inner, by rw [List.length_ofFn, ← hl]; have := L.sz; rw [show kRW.sz = 3 from rfl, ← this]; exact ho, ?_, fun j r hj => ?_⟩, F2.of (by simp) (fun j r x hr hx => ?_)⟩
  · have := hr.1
    rw [List.length_ofFn, ← hl, show kRW.sz = 3 from rfl, ← L.sz]; exact this
  · rw [List.getElem?_ofFn] at hj
    split at hj
    · rename_i hlt
      obtain rfl := Option.some.inj hj
      obtain ⟨a1, _, _⟩ := hr.2 j _ (hff ⟨j, hlt⟩).1
      have a2 : (inner.drop (j * K.sz)).take K.sz = [.string (ff ⟨j, hlt⟩).f0, .int .i64 (ff ⟨j, hlt⟩).u, .slice (ff ⟨j, hlt⟩).A (ff ⟨j, hlt⟩).n (ff ⟨j, hlt⟩).c] := a1
      rw [L.sz] at a2
      show kRW.M w base _ _ ((inner.drop (j * 3)).take 3)
      rw [a2]; exact kRW_mkM _ _ _ _
    · cases hj
  · rw [List.getElem?_ofFn] at hr
    split at hr
    · rename_i hj
      obtain rfl := Option.some.inj hr
      have := (hff ⟨j, hj⟩).2
      rw [List.getElem?_eq_getElem hj] at hx
      obtain rfl := Option.some.inj hx
      exact this
    · cases hr
theorem lead_view2 {b : Nat} {okv ok2 : Nat → Prop} (h : kRW.R e w base okv v rs) (h2 : INs d f h_ g w ok' rs xs) (hb : ∀ k, base ≤ k → ok2 k) (hk : ∀ k, ok' k → ok2 k) : Kd.V K e w b ok2 v xs := by
  obtain ⟨A, c, hv, hle, _⟩ := lead_own L h h2
  refine ⟨A, c, hv, hle, fun W' hW => ?_⟩
  have hR := Kd.R_step (w1 := W') (Kd.R_mono (Kd.R_bound h) (ok' := fun k => base ≤ k) (fun k hk => hk.2.1)) (fun k hk hlt => hW k (hb k hk) hlt)
  have hI := INs.step h2 (w1 := W') (fun k hk1 hlt => hW k (hk k hk1) hlt)
  obtain ⟨A', c', hv', _, hC⟩ := lead_own L hR hI
  rw [hv] at hv'
  injection hv' with ha _ _
  rw [ha]; exact hC
end
section
variable {α β : Type} {d : Kd α} {f : β → ByteArray} {h_ : β → Int} {g : β → List α} {w w1 : World} {ok ok' : Nat → Prop} {rs : List RW} {xs : List β} {e base : Nat}
def RW.cs (r : RW) : List Value := [.string r.f0, .int .i64 r.u, .slice r.A r.n r.c]
theorem RW_put {b n cp : Nat} (h : kRW.R e w base ok (.slice (some ⟨b, 0, none⟩) n cp) rs) {i : Nat} (hi : i < n) (r : RW) : kRW.R e (w.setCells b (i * 3) r.cs) base ok (.slice (some ⟨b, 0, none⟩) n cp) (rs.set i r) := by
  obtain ⟨c, hcl, hM, hcc, _⟩ := Kd.R_elem h zRW (i : Int) (by omega) (by omega)
  have hres := (Kd.R_seg (d := kRW) (okp := fun _ => False) h (i : Int) (by omega) (by omega) (seg := r.cs) (j := 0) hcl hcc (show 0 + 3 ≤ 3 by decide) (x' := r) (by
    have e1 : c.drop (0 + r.cs.length) = [] := List.drop_of_length_le (by rw [hcl]; exact Nat.le_refl _)
    rw [e1, List.take_zero, List.nil_append, List.append_nil]
    exact kRW_mkM _ _ _ _) (fun _ h => h.elim)).1
  rw [Int.toNat_natCast, Nat.add_zero] at hres
  exact hres
theorem INs.far {b o : Nat} {seg : List Value} (h : INs d f h_ g w ok rs xs) (hk : ∀ k, ok k → k ≠ b) : INs d f h_ g (w.setCells b o seg) ok rs xs := h.step (fun k hk1 _ => setCells_far seg _ k (hk k hk1))
end
end Go.Proofs.Ytgdkgobplinelaa
