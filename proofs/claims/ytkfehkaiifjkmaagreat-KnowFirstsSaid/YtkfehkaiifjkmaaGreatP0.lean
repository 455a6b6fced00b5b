import Derived.Test.YtkfehkaiifjkmaaGreatProg
import Derived.Below
import Derived.Deep.Draws
import Derived.Deep.AppendLies
import Derived.Maps.AppendAt
import Derived.OwnWalk
import Derived.Laws.BytesArg
import Derived.Laws.MakeOwn
import Derived.Laws.OwnMore
import Derived.Deep.OwnRows
import Derived.Tactics
import Derived.Lib.ConvBytes
import Derived.Laws.Slices
import Derived.WalkKit
import Derived.KernelRfl
import Derived.RowKit3
import Derived.Deep.LoopGhost
import Derived.Deep.QuietTactic
import Derived.BigQuiet
import Derived.WideLaws
import Derived.Deep.DeepCutAuto
import Derived.Deep.CutBlock
import Derived.Deep.RegionHeld3
import Derived.Laws.Rows
import Derived.Lib.AppendStr
import Derived.ArgAppend
import Derived.Laws.IdiomCopy
import Derived.OrdersHeld
import Derived.Laws.BitsLemmas
import Derived.RowKit
import Derived.Laws.Externs
import Derived.Lib.AppendZerosOnto
import Derived.Lib.Bytealg
import Derived.Lib.Overlaps
import Derived.Lib.Slices
import Derived.Lib.Strings
import Derived.Lib.Walk
import Derived.Shelf.SlicesE.Compact
import Derived.Shelf.SortM.Plain
import Derived.Shelf.SortM.SortNone
import Derived.Shelf.Spec.SlicesInsert
import Derived.Test.YtkfehkaiifjkmaaGreatBase
import Derived.Test.YtkfehkaiifjkmaaGreatFnd
import Derived.Test.YtkfehkaiifjkmaaGreatLeadT
import Derived.Test.YtkfehkaiifjkmaaGreatMem
import Derived.Test.YtkfehkaiifjkmaaGreatOrd
import Derived.Test.YtkfehkaiifjkmaaGreatOrdZ
import Derived.Test.YtkfehkaiifjkmaaGreatRow
import Derived.Test.YtkfehkaiifjkmaaGreatTl
import Derived.Test.YtkfehkaiifjkmaaGreatSteps
import Derived.WalkSpells
import Derived.Test.YtkfehkaiifjkmaaGreatWWords
import Derived.Test.YtkfehkaiifjkmaaGreatWLast
import Derived.Test.YtkfehkaiifjkmaaGreatWTab
import Derived.Test.YtkfehkaiifjkmaaGreatWApart
import Derived.Test.YtkfehkaiifjkmaaGreatWZeros
import Derived.Test.YtkfehkaiifjkmaaGreatWFoot
import Derived.Test.YtkfehkaiifjkmaaGreatWShare
import Derived.Test.YtkfehkaiifjkmaaGreatWN
import Derived.Test.YtkfehkaiifjkmaaGreatWEqStruct
import Derived.Test.YtkfehkaiifjkmaaGreatWRepsOne
import Derived.Test.YtkfehkaiifjkmaaGreatWGuard
import Derived.Test.YtkfehkaiifjkmaaGreatWNEv
import Derived.Test.YtkfehkaiifjkmaaGreatWMore
namespace Go.Proofs.YtkfehkaiifjkmaaGreat.P
open Go.RowKit Go.Proofs.YtkfehkaiifjkmaaGreatW.PrintWords Go.Proofs.YtkfehkaiifjkmaaGreatW.PrintLast Go.Proofs.YtkfehkaiifjkmaaGreatW.PrintMore
attribute [local go_sem] max2_int min2_int max_two min_two max_three min_three max_four min_four
set_option linter.unusedVariables false
set_option linter.unusedSimpArgs false
def errW : Option Int → Value
 | none => .nilIface
 | some c => .iface 0 (.int .i64 c)
theorem errW_none : errW none = .nilIface := rfl
theorem errW_some (c : Int) : errW (some c) = .iface 0 (.int .i64 c) := rfl
theorem info3 : (Tryz.prog.info? 3).map (fun i => (i.zero, i.size, i.bytes)) = some (some (.int .i64 0), 1, 8) := by kernel_rfl
theorem info9 : (Tryz.prog.info? 9).map (fun i => (i.zero, i.size, i.bytes)) = some (some (.string ⟨#[]⟩), 1, 16) := by kernel_rfl
theorem info51 : (Tryz.prog.info? 51).map (fun i => (i.zero, i.size, i.bytes)) = some (some (.string ⟨#[]⟩), 1, 16) := by kernel_rfl
theorem info61 : (Tryz.prog.info? 61).map (fun i => (i.zero, i.size, i.bytes)) = some (some (.agg #[(.string ⟨#[]⟩), (.int .i64 0), (.slice none 0 0)]), 3, 48) := by kernel_rfl
theorem info65 : (Tryz.prog.info? 65).map (fun i => (i.zero, i.size, i.bytes)) = some (some (.agg #[(.string ⟨#[]⟩), (.int .i64 0)]), 2, 24) := by kernel_rfl
theorem info72 : (Tryz.prog.info? 72).map (fun i => (i.zero, i.size, i.bytes)) = some (some (.agg #[(.string ⟨#[]⟩), (.int .i64 0), (.slice none 0 0)]), 3, 48) := by kernel_rfl
theorem info75 : (Tryz.prog.info? 75).map (fun i => (i.zero, i.size, i.bytes)) = some (some (.agg #[(.string ⟨#[]⟩), (.int .i64 0)]), 2, 24) := by kernel_rfl
structure S59 where
 f0 : Int
 f1 : (List Int)
def z59 : S59 := ⟨(0 : Int), ([] : List Int)⟩
def k59 : Kd S59 := Kd.iso (Kd.pair (Kd.int .i64) (Kd.slice 3 (Kd.int .i64))) (fun x : S59 => (x.f0, x.f1))
theorem k59_open {w : World} {x : S59} {cs : List Value} (h : k59.K w x cs) : ∃ A1 c1, cs = [.int .i64 x.f0, .slice A1 x.f1.length c1] ∧ x.f1.length ≤ c1 ∧ (Kd.int .i64).C w A1 x.f1.length x.f1 := by
 obtain ⟨_, _, rfl, rfl, ⟨A1, c1, rfl, l1, g1⟩⟩ := h
 exact ⟨A1, c1, rfl, l1, g1⟩
theorem k59_mk (w : World) (x : S59) {A1 : Option Addr} {c1 : Nat} (l1 : x.f1.length ≤ c1) (g1 : (Kd.int .i64).C w A1 x.f1.length x.f1) : k59.K w x [.int .i64 x.f0, .slice A1 x.f1.length c1] := ⟨[.int .i64 x.f0], [.slice A1 x.f1.length c1], rfl, rfl, ⟨A1, c1, rfl, l1, g1⟩⟩
theorem k59_mkM (w : World) (base : Nat) (ok : Nat → Prop) (x : S59) {v1 : Value} (g1 : (Kd.int .i64).R 3 w base ok v1 x.f1) : k59.M w base ok x [.int .i64 x.f0, v1] := ⟨[.int .i64 x.f0], [v1], rfl, rfl, ⟨v1, rfl, g1⟩⟩
structure S61 where
 f0 : ByteArray
 f1 : S59
def z61 : S61 := ⟨(⟨#[]⟩ : ByteArray), z59⟩
def k61 : Kd S61 := Kd.iso (Kd.pair Kd.string k59) (fun x : S61 => (x.f0, x.f1))
theorem k61_open {w : World} {x : S61} {cs : List Value} (h : k61.K w x cs) : ∃ A2 c2, cs = [.string x.f0, .int .i64 x.f1.f0, .slice A2 x.f1.f1.length c2] ∧ x.f1.f1.length ≤ c2 ∧ (Kd.int .i64).C w A2 x.f1.f1.length x.f1.f1 := by
 obtain ⟨_, _, rfl, rfl, s1⟩ := h
 obtain ⟨A2, c2, rfl, l2, g2⟩ := k59_open s1
 exact ⟨A2, c2, rfl, l2, g2⟩
theorem k61_mk (w : World) (x : S61) {A2 : Option Addr} {c2 : Nat} (l2 : x.f1.f1.length ≤ c2) (g2 : (Kd.int .i64).C w A2 x.f1.f1.length x.f1.f1) : k61.K w x [.string x.f0, .int .i64 x.f1.f0, .slice A2 x.f1.f1.length c2] := ⟨[.string x.f0], [.int .i64 x.f1.f0, .slice A2 x.f1.f1.length c2], rfl, rfl, (k59_mk w x.f1 l2 g2)⟩
theorem k61_mkM (w : World) (base : Nat) (ok : Nat → Prop) (x : S61) {v2 : Value} (g2 : (Kd.int .i64).R 3 w base ok v2 x.f1.f1) : k61.M w base ok x [.string x.f0, .int .i64 x.f1.f0, v2] := ⟨[.string x.f0], [.int .i64 x.f1.f0, v2], rfl, rfl, (k59_mkM w base ok x.f1 g2)⟩
theorem k61_openF {W : World} {ok : Nat → Prop} {x : S61} {cs : List Value} (h : Kd.FK k61 W ok x cs) : ∃ A2 c2, cs = [.string x.f0, .int .i64 x.f1.f0, .slice A2 x.f1.f1.length c2] ∧ x.f1.f1.length ≤ c2 ∧ Kd.F (Kd.int .i64) W ok A2 x.f1.f1.length x.f1.f1 := by
 obtain ⟨A2, c2, rfl, l2, _⟩ := k61_open (Kd.FK_now h)
 exact ⟨A2, c2, rfl, l2, (fun W' hW => by obtain ⟨A2_, c2_, he, l2_, g2_⟩ := k61_open (h W' hW); injection (sI (show some (Value.slice A2 x.f1.f1.length c2) = some (Value.slice A2_ x.f1.f1.length c2_) from congrArg (fun l => l[2]?) he)) with ha_ _ _; rw [ha_]; exact g2_)⟩
theorem k61_mkF (W : World) (ok : Nat → Prop) (x : S61) {A2 : Option Addr} {c2 : Nat} (l2 : x.f1.f1.length ≤ c2) (g2 : Kd.F (Kd.int .i64) W ok A2 x.f1.f1.length x.f1.f1) : Kd.FK k61 W ok x [.string x.f0, .int .i64 x.f1.f0, .slice A2 x.f1.f1.length c2] := fun W2 hW => k61_mk W2 x l2 (g2 W2 hW)
def rd_T61 (xs : List S61) (i : Int) : S61 := xs.getD i.toNat z61
theorem at_T61 {w : World} {A : Option Addr} {n : Nat} {xs : List S61} (h : Kd.C k61 w A n xs) (i : Int) (h0 : 0 ≤ i) (h1 : i < n) : ∃ ad A2 c2, A = some ad ∧ w.cell? (ad.add (i.toNat * 3)) = some (.string (rd_T61 xs i).f0) ∧ w.cell? ⟨(ad.add (i.toNat * 3)).block, (ad.add (i.toNat * 3)).off + 1, none⟩ = some (.int .i64 (rd_T61 xs i).f1.f0) ∧ w.cell? ⟨(ad.add (i.toNat * 3)).block, (ad.add (i.toNat * 3)).off + 2, none⟩ = some (.slice A2 (rd_T61 xs i).f1.f1.length c2) ∧ (rd_T61 xs i).f1.f1.length ≤ c2 ∧ (Kd.int .i64).C w A2 (rd_T61 xs i).f1.f1.length (rd_T61 xs i).f1.f1 := by
 obtain ⟨ad, c, e, _, hK, hc0⟩ := Kd.C_get h z61 i h0 h1
 have hc : ∀ j u, c[j]? = some u → w.cell? (ad.add (i.toNat * 3 + j)) = some u := hc0
 obtain ⟨A2, c2, rfl, l2, g2⟩ := k61_open hK
 exact ⟨ad, A2, c2, e, hc 0 _ rfl, by rw [← add_field _ _ 1 (by omega)]; exact hc 1 _ rfl, by rw [← add_field _ _ 2 (by omega)]; exact hc 2 _ rfl, l2, g2⟩
structure S65 where
 f0 : ByteArray
 f1 : Int
def z65 : S65 := ⟨(⟨#[]⟩ : ByteArray), (0 : Int)⟩
def k65 : Kd S65 := Kd.iso (Kd.pair Kd.string (Kd.int .i64)) (fun x : S65 => (x.f0, x.f1))
theorem k65_open {w : World} {x : S65} {cs : List Value} (h : k65.K w x cs) : cs = [.string x.f0, .int .i64 x.f1] := by
 obtain ⟨_, _, rfl, rfl, rfl⟩ := h
 exact rfl
theorem k65_openM {w : World} {base : Nat} {ok : Nat → Prop} {x : S65} {cs : List Value} (h : k65.M w base ok x cs) : cs = [.string x.f0, .int .i64 x.f1] := by
 obtain ⟨_, _, rfl, rfl, rfl⟩ := h
 exact rfl
theorem k65_mkM (w : World) (base : Nat) (ok : Nat → Prop) (x : S65)  : k65.M w base ok x [.string x.f0, .int .i64 x.f1] := ⟨[.string x.f0], [.int .i64 x.f1], rfl, rfl, rfl⟩
def rd_T65 (xs : List S65) (i : Int) : S65 := xs.getD i.toNat z65
theorem at_T65 {w : World} {A : Option Addr} {n : Nat} {xs : List S65} (h : Kd.C k65 w A n xs) (i : Int) (h0 : 0 ≤ i) (h1 : i < n) : ∃ ad , A = some ad ∧ w.cell? (ad.add (i.toNat * 2)) = some (.string (rd_T65 xs i).f0) ∧ w.cell? ⟨(ad.add (i.toNat * 2)).block, (ad.add (i.toNat * 2)).off + 1, none⟩ = some (.int .i64 (rd_T65 xs i).f1) := by
 obtain ⟨ad, c, e, _, hK, hc0⟩ := Kd.C_get h z65 i h0 h1
 have hc : ∀ j u, c[j]? = some u → w.cell? (ad.add (i.toNat * 2 + j)) = some u := hc0
 obtain rfl := k65_open hK
 exact ⟨ad, e, hc 0 _ rfl, by rw [← add_field _ _ 1 (by omega)]; exact hc 1 _ rfl⟩
structure S69 where
 f0 : Int
 f1 : (List Int)
def z69 : S69 := ⟨(0 : Int), ([] : List Int)⟩
def k69 : Kd S69 := Kd.iso (Kd.pair (Kd.int .i64) (Kd.slice 3 (Kd.int .i64))) (fun x : S69 => (x.f0, x.f1))
theorem k69_open {w : World} {x : S69} {cs : List Value} (h : k69.K w x cs) : ∃ A1 c1, cs = [.int .i64 x.f0, .slice A1 x.f1.length c1] ∧ x.f1.length ≤ c1 ∧ (Kd.int .i64).C w A1 x.f1.length x.f1 := by
 obtain ⟨_, _, rfl, rfl, ⟨A1, c1, rfl, l1, g1⟩⟩ := h
 exact ⟨A1, c1, rfl, l1, g1⟩
theorem k69_mk (w : World) (x : S69) {A1 : Option Addr} {c1 : Nat} (l1 : x.f1.length ≤ c1) (g1 : (Kd.int .i64).C w A1 x.f1.length x.f1) : k69.K w x [.int .i64 x.f0, .slice A1 x.f1.length c1] := ⟨[.int .i64 x.f0], [.slice A1 x.f1.length c1], rfl, rfl, ⟨A1, c1, rfl, l1, g1⟩⟩
theorem k69_mkM (w : World) (base : Nat) (ok : Nat → Prop) (x : S69) {v1 : Value} (g1 : (Kd.int .i64).R 3 w base ok v1 x.f1) : k69.M w base ok x [.int .i64 x.f0, v1] := ⟨[.int .i64 x.f0], [v1], rfl, rfl, ⟨v1, rfl, g1⟩⟩
structure S72 where
 f0 : ByteArray
 f1 : S69
def z72 : S72 := ⟨(⟨#[]⟩ : ByteArray), z69⟩
def k72 : Kd S72 := Kd.iso (Kd.pair Kd.string k69) (fun x : S72 => (x.f0, x.f1))
theorem k72_open {w : World} {x : S72} {cs : List Value} (h : k72.K w x cs) : ∃ A2 c2, cs = [.string x.f0, .int .i64 x.f1.f0, .slice A2 x.f1.f1.length c2] ∧ x.f1.f1.length ≤ c2 ∧ (Kd.int .i64).C w A2 x.f1.f1.length x.f1.f1 := by
 obtain ⟨_, _, rfl, rfl, s1⟩ := h
 obtain ⟨A2, c2, rfl, l2, g2⟩ := k69_open s1
 exact ⟨A2, c2, rfl, l2, g2⟩
theorem k72_mk (w : World) (x : S72) {A2 : Option Addr} {c2 : Nat} (l2 : x.f1.f1.length ≤ c2) (g2 : (Kd.int .i64).C w A2 x.f1.f1.length x.f1.f1) : k72.K w x [.string x.f0, .int .i64 x.f1.f0, .slice A2 x.f1.f1.length c2] := ⟨[.string x.f0], [.int .i64 x.f1.f0, .slice A2 x.f1.f1.length c2], rfl, rfl, (k69_mk w x.f1 l2 g2)⟩
theorem k72_mkM (w : World) (base : Nat) (ok : Nat → Prop) (x : S72) {v2 : Value} (g2 : (Kd.int .i64).R 3 w base ok v2 x.f1.f1) : k72.M w base ok x [.string x.f0, .int .i64 x.f1.f0, v2] := ⟨[.string x.f0], [.int .i64 x.f1.f0, v2], rfl, rfl, (k69_mkM w base ok x.f1 g2)⟩
def rd_T72 (xs : List S72) (i : Int) : S72 := xs.getD i.toNat z72
theorem at_T72 {w : World} {A : Option Addr} {n : Nat} {xs : List S72} (h : Kd.C k72 w A n xs) (i : Int) (h0 : 0 ≤ i) (h1 : i < n) : ∃ ad A2 c2, A = some ad ∧ w.cell? (ad.add (i.toNat * 3)) = some (.string (rd_T72 xs i).f0) ∧ w.cell? ⟨(ad.add (i.toNat * 3)).block, (ad.add (i.toNat * 3)).off + 1, none⟩ = some (.int .i64 (rd_T72 xs i).f1.f0) ∧ w.cell? ⟨(ad.add (i.toNat * 3)).block, (ad.add (i.toNat * 3)).off + 2, none⟩ = some (.slice A2 (rd_T72 xs i).f1.f1.length c2) ∧ (rd_T72 xs i).f1.f1.length ≤ c2 ∧ (Kd.int .i64).C w A2 (rd_T72 xs i).f1.f1.length (rd_T72 xs i).f1.f1 := by
 obtain ⟨ad, c, e, _, hK, hc0⟩ := Kd.C_get h z72 i h0 h1
 have hc : ∀ j u, c[j]? = some u → w.cell? (ad.add (i.toNat * 3 + j)) = some u := hc0
 obtain ⟨A2, c2, rfl, l2, g2⟩ := k72_open hK
 exact ⟨ad, A2, c2, e, hc 0 _ rfl, by rw [← add_field _ _ 1 (by omega)]; exact hc 1 _ rfl, by rw [← add_field _ _ 2 (by omega)]; exact hc 2 _ rfl, l2, g2⟩
structure S75 where
 f0 : ByteArray
 f1 : Int
def z75 : S75 := ⟨(⟨#[]⟩ : ByteArray), (0 : Int)⟩
def k75 : Kd S75 := Kd.iso (Kd.pair Kd.string (Kd.int .i64)) (fun x : S75 => (x.f0, x.f1))
theorem k75_open {w : World} {x : S75} {cs : List Value} (h : k75.K w x cs) : cs = [.string x.f0, .int .i64 x.f1] := by
 obtain ⟨_, _, rfl, rfl, rfl⟩ := h
 exact rfl
theorem k75_mkM (w : World) (base : Nat) (ok : Nat → Prop) (x : S75)  : k75.M w base ok x [.string x.f0, .int .i64 x.f1] := ⟨[.string x.f0], [.int .i64 x.f1], rfl, rfl, rfl⟩
def rd_T75 (xs : List S75) (i : Int) : S75 := xs.getD i.toNat z75
theorem at_T75 {w : World} {A : Option Addr} {n : Nat} {xs : List S75} (h : Kd.C k75 w A n xs) (i : Int) (h0 : 0 ≤ i) (h1 : i < n) : ∃ ad , A = some ad ∧ w.cell? (ad.add (i.toNat * 2)) = some (.string (rd_T75 xs i).f0) ∧ w.cell? ⟨(ad.add (i.toNat * 2)).block, (ad.add (i.toNat * 2)).off + 1, none⟩ = some (.int .i64 (rd_T75 xs i).f1) := by
 obtain ⟨ad, c, e, _, hK, hc0⟩ := Kd.C_get h z75 i h0 h1
 have hc : ∀ j u, c[j]? = some u → w.cell? (ad.add (i.toNat * 2 + j)) = some u := hc0
 obtain rfl := k75_open hK
 exact ⟨ad, e, hc 0 _ rfl, by rw [← add_field _ _ 1 (by omega)]; exact hc 1 _ rfl⟩
end Go.Proofs.YtkfehkaiifjkmaaGreat.P
