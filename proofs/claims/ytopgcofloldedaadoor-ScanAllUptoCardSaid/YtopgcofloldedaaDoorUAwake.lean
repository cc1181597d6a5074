-- pure text: what the laws of chapter 6 ask first
import Derived.Test.YtopgcofloldedaaDoorUWords
import Derived.Test.YtopgcofloldedaaDoorPa1
namespace Go.Proofs.YtopgcofloldedaaDoor.Pu
open Go.RowKit Go.Proofs.YtopgcofloldedaaDoorW.PrintWords Go.Proofs.YtopgcofloldedaaDoor.Pa

theorem awake06_ev : Ev (fun k => pylonlaw06_awake.f k) true := by
  obtain ⟨K, hK⟩ := words_ev (⟨#[114, 101, 97, 100, 32, 48, 32, 53]⟩ : ByteArray) (by decide)
  refine ⟨K, fun k hk => ?_⟩
  show pylonlaw06_awake.f k = _
  unfold pylonlaw06_awake.f
  have h := hK k hk
  simp only at h
  rw [h]
  have e : WS (⟨#[114, 101, 97, 100, 32, 48, 32, 53]⟩ : ByteArray) = ([toB [114, 101, 97, 100], toB [48], toB [53]], 0, 0) := by
    unfold WS
    have : wd (Bs (⟨#[114, 101, 97, 100, 32, 48, 32, 53]⟩ : ByteArray)) none 0 = .ok [[114, 101, 97, 100], [48], [53]] := rfl
    rw [this]
    rfl
  rw [e]
  simp only [Option.bind_some, List.length_cons, List.length_nil]
  rw [if_pos trivial, if_pos trivial, if_pos (by decide), if_pos (by decide)]
  have : rdOf ByteArray.empty [toB [114, 101, 97, 100], toB [48], toB [53]] 2 = toB [53] := rfl
  rw [this, toList_Bs, Bs_toB]
  rfl

end Go.Proofs.YtopgcofloldedaaDoor.Pu
