-- pure text: bytes, lists, rounds; over the printer's words alone
import Derived.Test.YtopgcofloldedaaDoorWWords
import Derived.Lib.Strings
namespace Go.Proofs.YtopgcofloldedaaDoor.Pu
open Go.RowKit Go.Proofs.YtopgcofloldedaaDoorW.PrintWords

/-- The bytes of a text. -/
def Bs (a : ByteArray) : List UInt8 := a.data.toList
def toB (l : List UInt8) : ByteArray := ⟨l.toArray⟩
theorem Bs_toB (l : List UInt8) : Bs (toB l) = l := rfl
theorem toB_Bs (a : ByteArray) : toB (Bs a) = a := by obtain ⟨⟨l⟩⟩ := a; rfl
theorem Bs_inj {a b : ByteArray} (h : Bs a = Bs b) : a = b := by rw [← toB_Bs a, ← toB_Bs b, h]
theorem toB_inj {a b : List UInt8} (h : toB a = toB b) : a = b := by rw [← Bs_toB a, ← Bs_toB b, h]
theorem Bs_length (a : ByteArray) : (Bs a).length = a.size := by unfold Bs; simp only [Array.length_toList]; rfl
theorem toB_size (l : List UInt8) : (toB l).size = l.length := by rw [← Bs_length, Bs_toB]
theorem Bs_append (a b : ByteArray) : Bs (a ++ b) = Bs a ++ Bs b := by unfold Bs; rw [ByteArray.data_append, Array.toList_append]
theorem toB_append (a b : List UInt8) : toB a ++ toB b = toB (a ++ b) := Bs_inj (by rw [Bs_append, Bs_toB, Bs_toB, Bs_toB])
theorem Bs_extract (s : ByteArray) (a b : Nat) : Bs (s.extract a b) = ((Bs s).drop a).take (b - a) := by
  obtain ⟨⟨l⟩⟩ := s
  unfold Bs
  rw [ByteArray.data_extract]
  simp [Array.toList_extract, List.extract_eq_take_drop]
theorem toList_Bs (a : ByteArray) : a.toList = Bs a := ByteArray.toList_eq a
theorem toList_inj {a b : ByteArray} (h : a.toList = b.toList) : a = b := Bs_inj (by rw [← toList_Bs, ← toList_Bs, h])
theorem extract_toB (s : ByteArray) (a b : Nat) : s.extract a b = toB (((Bs s).drop a).take (b - a)) := Bs_inj (by rw [Bs_extract, Bs_toB])

theorem bt_get {a : ByteArray} {i : Nat} {c : UInt8} (h : (Bs a)[i]? = some c) : bt a (i : Int) = (c.toNat : Int) := by
  unfold bt
  have hi : i < a.size := by
    have := (List.getElem?_eq_some_iff.1 h).1
    rwa [Bs_length] at this
  have e : ((i : Int)).toNat = i := by omega
  rw [dif_pos (by omega)]
  congr 2
  have h2 := (List.getElem?_eq_some_iff.1 h).2
  rw [← h2]
  simp only [e]
  unfold Bs
  rfl
theorem bt_drop {a : ByteArray} {i : Nat} {c : UInt8} {r : List UInt8} (h : (Bs a).drop i = c :: r) : bt a (i : Int) = (c.toNat : Int) := by
  refine bt_get ?_
  have : ((Bs a).drop i)[0]? = some c := by rw [h]; rfl
  rwa [List.getElem?_drop, Nat.add_zero] at this
theorem drop_succ {α : Type} {l : List α} {i : Nat} {c : α} {r : List α} (h : l.drop i = c :: r) : l.drop (i + 1) = r := by
  rw [← List.drop_drop, h]; rfl
theorem drop_lt {α : Type} {l : List α} {i : Nat} {c : α} {r : List α} (h : l.drop i = c :: r) : i < l.length := by
  apply Decidable.byContradiction
  intro hn
  rw [List.drop_eq_nil_iff.2 (by omega)] at h
  cases h
theorem drop_len {α : Type} {l : List α} {i : Nat} {r : List α} (h : l.drop i = r) (hi : i ≤ l.length) : i + r.length = l.length := by
  rw [← h, List.length_drop]; omega
theorem u8_eq {c d : UInt8} : (c.toNat : Int) = (d.toNat : Int) ↔ c = d := by
  constructor
  · intro h; exact UInt8.toNat_inj.1 (by omega)
  · rintro rfl; rfl
theorem w64 {x : Int} (h0 : -9223372036854775808 ≤ x) (h1 : x ≤ 9223372036854775807) : wrap64 x = x := by
  unfold wrap64; omega

theorem rdOf_get {α : Type} (d : α) (xs : List α) (i : Nat) : rdOf d xs (i : Int) = xs.getD i d := by
  unfold rdOf
  simp
theorem rd_get (xs : List Int) (i : Nat) : rd xs (i : Int) = xs.getD i 0 := by
  unfold rd
  simp

/-- What comes out, whatever the rounds, from some number on. -/
theorem ev_of_le {α : Type} {g : Nat → Option α} {r : α} (K : Nat) (h : ∀ k, K ≤ k → g k = some r) : Ev g r := ⟨K, h⟩
theorem ev_uniq {α : Type} {g : Nat → Option α} {r q : α} (h : Ev g r) (h' : Ev g q) : r = q := by
  obtain ⟨K, hK⟩ := h
  obtain ⟨K', hK'⟩ := h'
  have a := hK (max K K') (Nat.le_max_left _ _)
  have b := hK' (max K K') (Nat.le_max_right _ _)
  rw [a] at b
  exact Option.some.inj b
theorem ev_bind {α β : Type} {g : Nat → Option α} {f : Nat → α → Option β} {a : α} {r : β} (h : Ev g a) (k : Ev (fun n => f n a) r) : Ev (fun n => (g n).bind (f n)) r := Ev.bind h k
theorem ev_const {α : Type} {o : Option α} {r : α} (h : o = some r) : Ev (fun _ => o) r := ⟨0, fun _ _ => h⟩
theorem ev_if_pos {α : Type} {c : Prop} [Decidable c] {g f : Nat → Option α} {r : α} (h : c) (k : Ev g r) : Ev (fun n => if c then g n else f n) r := by
  obtain ⟨K, hK⟩ := k
  exact ⟨K, fun n hn => (if_pos h).trans (hK n hn)⟩
theorem ev_if_neg {α : Type} {c : Prop} [Decidable c] {g f : Nat → Option α} {r : α} (h : ¬ c) (k : Ev f r) : Ev (fun n => if c then g n else f n) r := by
  obtain ⟨K, hK⟩ := k
  exact ⟨K, fun n hn => (if_neg h).trans (hK n hn)⟩
theorem ev_step {α : Type} {g f : Nat → Option α} {r : α} (h : ∀ k, g (k + 1) = f k) (k : Ev f r) : Ev g r := Ev.step h k
end Go.Proofs.YtopgcofloldedaaDoor.Pu
