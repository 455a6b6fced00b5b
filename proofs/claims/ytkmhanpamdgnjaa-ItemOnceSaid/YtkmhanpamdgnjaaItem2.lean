/- Two items with the same bytes are the same; a stub may be. No condition beyond what each says. -/
import Derived.Test.YtkmhanpamdgnjaaItem1
namespace Go.Proofs.Ytkmhanpamdgnjaa.Pure
open Go.RowKit Go.Proofs.Ytkmhanpamdgnjaa Go.Proofs.Ytkmhanpamdgnjaa.P Go.Proofs.YtkmhanpamdgnjaaW.PrintWords Go.Proofs.YtkmhanpamdgnjaaW.PrintLast
set_option linter.unusedVariables false
def Bytes (l : List Int) : Prop := ∀ c ∈ l, 0 ≤ c ∧ c < 256
theorem Bytes.app {a b : List Int} (ha : Bytes a) (hb : Bytes b) : Bytes (a ++ b) := fun c hc => (List.mem_append.mp hc).elim (ha c) (hb c)
theorem Bytes.nil : Bytes [] := fun c hc => by cases hc
theorem enc_bytes : ∀ (f : Nat) (x : Int), 0 ≤ x → Bytes (enc f x)
  | 0, x, h => by
    intro c hc
    rw [enc] at hc
    have := List.mem_singleton.mp hc
    omega
  | f + 1, x, h => by
    rw [enc]
    split
    · intro c hc
      rcases List.mem_cons.mp hc with hc | hc
      · omega
      · exact enc_bytes f (x / 128) (by omega) c hc
    · intro c hc
      have := List.mem_singleton.mp hc
      omega
theorem bytesOf_bytes (s : ByteArray) : Bytes (bytesOf s) := by
  intro c hc
  rw [bytesOf] at hc
  obtain ⟨b, -, rfl⟩ := List.mem_map.mp hc
  have := b.toNat_lt
  omega
theorem encI_bytes {I : It} (h : OkI I) : Bytes (encI I) := by
  have := h.k0; have := h.q0; have := h.s0; have := h.x0; have := h.y0
  have hk := itKd_bnd I.d I.h
  have ht : Bytes (encT I) := by
    rw [encT]
    split
    · exact Bytes.nil
    · refine (enc_bytes 9 _ (by omega)).app ((enc_bytes 9 _ (by omega)).app ?_)
      split
      · exact (enc_bytes 9 _ (by omega)).app (bytesOf_bytes _)
      · exact Bytes.nil
  exact (enc_bytes 9 _ (by omega)).app (((enc_bytes 9 _ (by omega)).app (bytesOf_bytes _)).app ((enc_bytes 9 _ (by omega)).app ((enc_bytes 9 _ (by omega)).app ((enc_bytes 9 _ (by omega)).app ht))))
theorem str_inj {p q : List Int} (hp : Bytes p) (hq : Bytes q) (h : (strOfNums p).toList = (strOfNums q).toList) : p = q := by
  have back : ∀ l : List Int, Bytes l → (strOfNums l).data.toList.map (fun b => ((b.toNat : Nat) : Int)) = l := by
    intro l hl
    rw [strOfNums_data, List.map_map]
    conv => rhs; rw [← List.map_id l]
    refine List.map_congr_left fun c hc => ?_
    obtain ⟨h0, h1⟩ := hl c hc
    show ((UInt8.ofNat c.toNat).toNat : Int) = c
    rw [UInt8.toNat_ofNat']
    omega
  rw [Lib.toList_data, Lib.toList_data] at h
  rw [← back p hp, ← back q hq, h]
theorem encI_inj {X Y : It} (hX : OkI X) (hY : OkI Y) (h : encI X = encI Y) : X = Y := by
  have t1 := take_item hX (encI X) 0 (by omega) (by omega) [] (by rw [show (0 : Int).toNat = 0 from rfl, List.drop_zero, List.append_nil])
  have t2 := take_item hY (encI X) 0 (by omega) (by omega) [] (by rw [show (0 : Int).toNat = 0 from rfl, List.drop_zero, List.append_nil, h])
  rw [t1] at t2
  have := Option.some.inj t2
  exact congrArg (fun t => t.1) this
end Go.Proofs.Ytkmhanpamdgnjaa.Pure
