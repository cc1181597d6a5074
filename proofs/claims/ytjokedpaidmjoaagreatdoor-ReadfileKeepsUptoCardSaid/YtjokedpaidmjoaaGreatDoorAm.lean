/-
  This repo's own words: an abstract machine over the model. Values, blocks and heaps that know what they hold; each operation as a function of them, proved to tell what the model's operation does.
-/
import Derived.Below
import Derived.Test.YtjokedpaidmjoaaGreatDoorMk
import Derived.Laws.AppendOwn
import Derived.Deep.MidRow
import Derived.Laws.Rows
import Derived.Laws.CopyRow
import Derived.Tactics
import Derived.Laws.Tables
import Derived.Laws.OwnMore
import Derived.Laws.MakeOwn
import Derived.Lib.AppendStr
import Derived.Lib.ConvBytes
import Derived.Laws.BytesString
import Derived.Laws.IdiomStrings
import Derived.Lib.UnsafeStr
import Derived.Scope
import Derived.OrdersHeld
import Derived.Deep.RegionHeld3
import Derived.ScopeJumps
set_option linter.all false
namespace Go.Proofs.YtjokedpaidmjoaaGreatDoor.Am
open Go Go.RowKit Go.Proofs Go.Proofs.YtjokedpaidmjoaaGreatDoor
/-- What is known of the library's variables. -/
def GIv (b : Nat) (w : World) : Prop := (∃ tp p, w.var? Tryz.prog "strconv.ErrRange" = some #[.iface tp p]) ∧ 7 < b ∧ Lib.TabIs Tryz.prog w "internal/strconv.uint64pow10" .u64 Lib.pow10Tab ∧ 1 < b
theorem GIv.below {b : Nat} {w w' : World} (h : GIv b w) (hb : Below b w w') : GIv b w' := by
  obtain ⟨e1, e2, p1, p2⟩ := h
  exact ⟨by obtain ⟨tp, p, hv⟩ := e1; exact ⟨tp, p, var?_below hb (by kernel_rfl) e2 hv⟩, e2, var?_below hb (by kernel_rfl) p2 p1, p2⟩
theorem GIv.ginv {b : Nat} {w : World} (h : GIv b w) : GInv w := by
  obtain ⟨e1, e2, p1, p2⟩ := h
  exact { any := trivial, rng := e1, pow := p1 }
theorem GIv.of {w : World} (h : GInv w) : GIv w.heap.size w := ⟨h.rng, by obtain ⟨tp, p, hv⟩ := h.rng; exact var?_lt (by kernel_rfl) hv rfl, h.pow, var?_lt (by kernel_rfl) h.pow rfl⟩
end Go.Proofs.YtjokedpaidmjoaaGreatDoor.Am
namespace Go.Proofs.YtjokedpaidmjoaaGreatDoor.Am
open Go Go.RowKit

inductive AV where
  | undef
  | bool (b : Bool)
  | int (k : IntKind) (n : Int)
  | str (s : ByteArray)
  | nilptr
  | ptr (b i j v : Nat)
  | nilsl
  | sl (b o n v : Nat)
  | fn (f : FuncId) (caps : List AV)
  | agg (cs : List AV)
  | tup (vs : List AV)
  | opt (b : Bool) (v : AV)
  deriving Inhabited

/-- A block: elements of sz cells each; own: the call's own; ver: how often it has moved. -/
structure Blk where
  t : TypeId
  sz : Nat
  own : Bool
  ver : Nat
  len : Nat
  get : Nat → List AV
  one : Bool := false

abbrev Heap := List Blk
/-- Where a block lies: its first cell, and (own) for how many elements it has room. -/
structure Plc where
  blk : Nat
  off : Nat
  cap : Nat
  none : Bool := false
abbrev Emb := Nat → Plc
def Emb.upd (φ : Emb) (k : Nat) (p : Plc) : Emb := fun n => if n = k then p else φ n
theorem Emb.upd_self (φ : Emb) (k : Nat) (p : Plc) : φ.upd k p k = p := if_pos rfl
theorem Emb.upd_ne (φ : Emb) {k n : Nat} (p : Plc) (h : n ≠ k) : φ.upd k p n = φ n := if_neg h

mutual
def VRel (φ : Emb) (H : Heap) : AV → Value → Prop
  | .undef, _ => True
  | .bool b, u => u = .bool b
  | .int k n, u => u = .int k n
  | .str s, u => u = .string s
  | .nilptr, u => u = .pointer none
  | .ptr b i j v, u => u.oneCell' = true ∧ ∃ B, H[b]? = some B ∧ v ≤ B.ver ∧ (B.ver = v → u = .pointer (some ⟨(φ b).blk, (φ b).off + (i * B.sz + j), none⟩))
  | .nilsl, u => u = .slice none 0 0
  | .sl b o n v, u => u.oneCell' = true ∧ ∃ B, H[b]? = some B ∧ v ≤ B.ver ∧ (B.ver = v → o + n ≤ B.len ∧ ((B.own = true ∧ (φ b).none = true ∧ u = .slice none 0 0) ∨ ((B.own = true → (φ b).none = false) ∧ ∃ A c, u = .slice A n c ∧ n ≤ c ∧ ((n ≠ 0 ∨ (B.own = true ∧ (o = 0 ∨ c ≠ 0))) → A = some ⟨(φ b).blk, (φ b).off + o * B.sz, none⟩) ∧ (B.own = true → o + c = (φ b).cap))))
  | .fn f caps, u => ∃ vs, u = .func (.func f) #[] vs ∧ VRels φ H caps vs.toList
  | .agg cs, u => ∃ vs, u = .agg vs ∧ VRels φ H cs vs.toList
  | .tup cs, u => ∃ vs, u = .tuple vs ∧ VRels φ H cs vs.toList
  | .opt b v, u => (b = true → VRel φ H v u) ∧ (b = false → u = Go.undef)
def VRels (φ : Emb) (H : Heap) : List AV → List Value → Prop
  | [], us => us = []
  | a :: r, us => ∃ u us', us = u :: us' ∧ VRel φ H a u ∧ VRels φ H r us'
end

/-- What was there is there still: blocks keep their shape; a block that has not moved lies where it lay. -/
def Ext (φ : Emb) (H : Heap) (φ' : Emb) (H' : Heap) : Prop :=
  ∀ b B, H[b]? = some B → ∃ B', H'[b]? = some B' ∧ B'.sz = B.sz ∧ B'.own = B.own ∧ B'.t = B.t ∧ B.ver ≤ B'.ver ∧ (B'.ver = B.ver → B.len ≤ B'.len) ∧ (B'.ver = B.ver → φ' b = φ b)
theorem Ext.refl (φ : Emb) (H : Heap) : Ext φ H φ H := fun _ B h => ⟨B, h, rfl, rfl, rfl, Nat.le_refl _, fun _ => Nat.le_refl _, fun _ => rfl⟩
theorem Ext.trans {φ φ' φ'' : Emb} {H H' H'' : Heap} (h : Ext φ H φ' H') (k : Ext φ' H' φ'' H'') : Ext φ H φ'' H'' := by
  intro b B hB
  obtain ⟨B', h1, h2, h3, h4, h5, h6, h7⟩ := h b B hB
  obtain ⟨B'', k1, k2, k3, k4, k5, k6, k7⟩ := k b B' h1
  refine ⟨B'', k1, k2.trans h2, k3.trans h3, k4.trans h4, Nat.le_trans h5 k5, fun e => Nat.le_trans (h6 (by omega)) (k6 (by omega)), fun e => ?_⟩
  rw [k7 (by omega), h7 (by omega)]

mutual
theorem VRel.ext {φ φ' : Emb} {H H' : Heap} (hx : Ext φ H φ' H') : ∀ (a : AV) (u : Value), VRel φ H a u → VRel φ' H' a u
  | .undef, _, _ => trivial
  | .bool _, _, h => h
  | .int _ _, _, h => h
  | .str _, _, h => h
  | .nilptr, _, h => h
  | .ptr b i j v, u, h => by
    obtain ⟨h1, B, hB, hv, hu⟩ := h
    obtain ⟨B', x1, x2, x3, x4, x5, x6, x7⟩ := hx b B hB
    refine ⟨h1, B', x1, by omega, fun e => ?_⟩
    rw [x7 (by omega), x2]
    exact hu (by omega)
  | .nilsl, _, h => h
  | .sl b o n v, u, h => by
    obtain ⟨h1, B, hB, hv, hu⟩ := h
    obtain ⟨B', x1, x2, x3, x4, x5, x6, x7⟩ := hx b B hB
    refine ⟨h1, B', x1, by omega, fun e => ?_⟩
    obtain ⟨e5, e0⟩ := hu (by omega)
    have x6 := x6 (by omega)
    refine ⟨by omega, ?_⟩
    rw [x7 (by omega), x2, x3]
    exact e0
  | .fn f caps, u, ⟨vs, e, h⟩ => ⟨vs, e, VRels.ext hx caps _ h⟩
  | .agg cs, u, ⟨vs, e, h⟩ => ⟨vs, e, VRels.ext hx cs _ h⟩
  | .tup cs, u, ⟨vs, e, h⟩ => ⟨vs, e, VRels.ext hx cs _ h⟩
  | .opt b v, u, h => ⟨fun e => VRel.ext hx v u (h.1 e), h.2⟩
theorem VRels.ext {φ φ' : Emb} {H H' : Heap} (hx : Ext φ H φ' H') : ∀ (as_ : List AV) (us : List Value), VRels φ H as_ us → VRels φ' H' as_ us
  | [], _, h => h
  | a :: r, us, ⟨u, us', e, h1, h2⟩ => ⟨u, us', e, VRel.ext hx a u h1, VRels.ext hx r us' h2⟩
end

theorem VRels.length {φ : Emb} {H : Heap} : ∀ {as_ : List AV} {us : List Value}, VRels φ H as_ us → us.length = as_.length
  | [], _, h => by rw [h]; rfl
  | _ :: _, _, ⟨_, _, e, _, h⟩ => by rw [e]; simp [VRels.length h]
theorem VRels.get {φ : Emb} {H : Heap} : ∀ {as_ : List AV} {us : List Value}, VRels φ H as_ us → ∀ (i : Nat) (a : AV), as_[i]? = some a → ∃ u, us[i]? = some u ∧ VRel φ H a u
  | [], _, _, i, a, h => by simp at h
  | a0 :: r, _, ⟨u, us', e, h0, h⟩, i, a, hi => by
    subst e
    cases i with
    | zero => simp at hi; subst hi; exact ⟨u, rfl, h0⟩
    | succ i => simpa using VRels.get h i a (by simpa using hi)
theorem VRels.of_get {φ : Emb} {H : Heap} : ∀ {as_ : List AV} {us : List Value}, us.length = as_.length → (∀ (i : Nat) (a : AV), as_[i]? = some a → ∃ u, us[i]? = some u ∧ VRel φ H a u) → VRels φ H as_ us
  | [], us, hl, _ => List.eq_nil_of_length_eq_zero (by simpa using hl)
  | a :: r, us, hl, h => by
    match us, hl with
    | u :: us', hl =>
      obtain ⟨u0, e, h0⟩ := h 0 a rfl
      simp at e; subst e
      exact ⟨u, us', rfl, h0, VRels.of_get (by simpa using hl) (fun i b hb => by simpa using h (i + 1) b (by simpa using hb))⟩
theorem VRels.append {φ : Emb} {H : Heap} : ∀ {as_ : List AV} {us : List Value} {bs : List AV} {vs : List Value}, VRels φ H as_ us → VRels φ H bs vs → VRels φ H (as_ ++ bs) (us ++ vs)
  | [], _, _, _, h, k => by rw [h]; exact k
  | _ :: _, _, _, _, ⟨u, us', e, h0, h⟩, k => by subst e; exact ⟨u, us' ++ _, rfl, h0, VRels.append h k⟩

/-- One cell's value. -/
def AV.cell : AV → Bool
  | .undef | .agg _ | .tup _ | .opt _ _ => false
  | _ => true
theorem VRel.one {φ : Emb} {H : Heap} {a : AV} {u : Value} (hc : a.cell = true) (h : VRel φ H a u) : u.oneCell' = true := by
  cases a with
  | undef => cases hc
  | bool => rw [show u = _ from h]; rfl
  | int => rw [show u = _ from h]; rfl
  | str => rw [show u = _ from h]; rfl
  | nilptr => rw [show u = _ from h]; rfl
  | ptr => exact h.1
  | nilsl => rw [show u = _ from h]; rfl
  | sl => exact h.1
  | fn => obtain ⟨vs, e, _⟩ := h; rw [e]; rfl
  | agg => cases hc
  | tup => cases hc
  | opt => cases hc

/-- A block of the machine's heap; what may be frozen of it lies behind its end. -/
def Heaped (W : World) (g : Nat) (cur : Array Value) (t : TypeId) : Prop := ∃ z : Nat × Nat, W.heap[g]? = some (.cells cur t z) ∧ (z = (0, 0) ∨ cur.size ≤ z.1)
theorem Heaped.lt {W : World} {g : Nat} {cur : Array Value} {t : TypeId} (h : Heaped W g cur t) : g < W.heap.size := by
  obtain ⟨z, h, _⟩ := h
  exact (Array.getElem?_eq_some_iff.1 h).1
theorem Heaped.to {W W' : World} {g : Nat} {cur : Array Value} {t : TypeId} (h : Heaped W g cur t) (e : W'.heap[g]? = W.heap[g]?) : Heaped W' g cur t := by
  obtain ⟨z, h, hz⟩ := h
  exact ⟨z, e.trans h, hz⟩
theorem Heaped.of {W : World} {g : Nat} {cur : Array Value} {t : TypeId} (h : W.heap[g]? = some (.cells cur t (0, 0))) : Heaped W g cur t := ⟨_, h, .inl rfl⟩
theorem Heaped.cell {W : World} {g : Nat} {cur : Array Value} {t : TypeId} (h : Heaped W g cur t) (k : Nat) : W.cell? ⟨g, k, none⟩ = cur[k]? := by
  obtain ⟨z, h, _⟩ := h
  simp [World.cell?, h]
theorem Heaped.set {W : World} {g : Nat} {cur cur' : Array Value} {t : TypeId} (h : Heaped W g cur t) (hs : cur'.size = cur.size) : Heaped (W.setRow g cur') g cur' t := by
  obtain ⟨z, h, hz⟩ := h
  exact ⟨z, setRow_heap W g cur _ t z h, hz.imp id (fun q => by omega)⟩
/-- An own block as it lies (or a nil slice's: nowhere). -/
def OwnAt (φ : Emb) (H : Heap) (base : Nat) (W : World) (b : Nat) (B : Blk) : Prop :=
  ((φ b).none = true ∧ B.len = 0) ∨ ((φ b).none = false ∧ ∃ cur, Heaped W (φ b).blk cur B.t ∧ (φ b).off = 0 ∧ cur.size = (φ b).cap * B.sz ∧ B.len ≤ (φ b).cap ∧ (φ b).cap ≤ maxLen ∧ base ≤ (φ b).blk ∧ ∀ i j u, i < B.len → (B.get i)[j]? = some u → ∃ x, cur[i * B.sz + j]? = some x ∧ VRel φ H u x ∧ x.oneCell' = true)
structure Sim (φ : Emb) (H : Heap) (base : Nat) (W : World) : Prop where
  ro : ∀ (b : Nat) (B : Blk), H[b]? = some B → B.own = false → ∀ i j u, i < B.len → (B.get i)[j]? = some u → ∃ x, W.cell? ⟨(φ b).blk, (φ b).off + (i * B.sz + j), none⟩ = some x ∧ VRel φ H u x ∧ x.oneCell' = true ∧ (φ b).blk < base
  ow : ∀ (b : Nat) (B : Blk), H[b]? = some B → B.own = true → OwnAt φ H base W b B
  inj : ∀ (b b' : Nat) (B B' : Blk), H[b]? = some B → H[b']? = some B' → B.own = true → B'.own = true → (φ b).none = false → (φ b').none = false → b ≠ b' → (φ b).blk ≠ (φ b').blk
  wf : ∀ (b : Nat) (B : Blk), H[b]? = some B → ∀ i, i < B.len → (B.get i).length = B.sz
  big : base ≤ W.heap.size
  g : GIv base W
/-- A step that turns at most one block (k), or makes one. -/
theorem Sim.step {φ φ' : Emb} {H H' : Heap} {base : Nat} {W W' : World} (h : Sim φ H base W) (hx : Ext φ H φ' H') (hb : Below base W W') (k : Nat)
    (keep : ∀ b B, H'[b]? = some B → b ≠ k → H[b]? = some B ∧ φ' b = φ b ∧ (B.own = true → (φ b).none = false → W'.heap[(φ b).blk]? = W.heap[(φ b).blk]?))
    (chg : ∀ B, H'[k]? = some B → B.own = true ∧ OwnAt φ' H' base W' k B ∧ (∀ i, i < B.len → (B.get i).length = B.sz) ∧ ((φ' k).none = false → ∀ b B', H'[b]? = some B' → B'.own = true → (φ b).none = false → b ≠ k → (φ b).blk ≠ (φ' k).blk)) : Sim φ' H' base W' := by
  refine ⟨?_, ?_, ?_, ?_, Nat.le_trans h.big hb.size, GIv.below h.g hb⟩
  · intro b B hB ho i j u hi hu
    by_cases e : b = k
    · subst e; rw [(chg B hB).1] at ho; cases ho
    · obtain ⟨h1, h2, _⟩ := keep b B hB e
      obtain ⟨x, hx1, hx2, hx3, hx4⟩ := h.ro b B h1 ho i j u hi hu
      refine ⟨x, ?_, VRel.ext hx _ _ hx2, hx3, by rw [h2]; exact hx4⟩
      rw [h2, hb.cell hx4]
      exact hx1
  · intro b B hB ho
    by_cases e : b = k
    · subst e; exact (chg B hB).2.1
    · obtain ⟨h1, h2, h3⟩ := keep b B hB e
      rcases h.ow b B h1 ho with hn | ⟨hn, cur, c1, c2, c3, c4, c5, c6, c7⟩
      · left; rw [h2]; exact hn
      · right
        rw [h2]
        refine ⟨hn, cur, c1.to (h3 ho hn), c2, c3, c4, c5, c6, fun i j u hi hu => ?_⟩
        obtain ⟨x, x1, x2, x3⟩ := c7 i j u hi hu
        exact ⟨x, x1, VRel.ext hx _ _ x2, x3⟩
  · intro b b' B B' hB hB' ho ho' hn hn' hne
    by_cases e : b = k
    · subst e
      have e' : b' ≠ b := fun q => hne q.symm
      rw [(keep b' B' hB' e').2.1] at hn' ⊢
      exact fun q => (chg B hB).2.2.2 hn b' B' hB' ho' hn' e' q.symm
    · by_cases e' : b' = k
      · subst e'
        rw [(keep b B hB e).2.1] at hn ⊢
        exact (chg B' hB').2.2.2 hn' b B hB ho hn e
      · rw [(keep b B hB e).2.1] at hn ⊢
        rw [(keep b' B' hB' e').2.1] at hn' ⊢
        exact h.inj b b' B B' (keep b B hB e).1 (keep b' B' hB' e').1 ho ho' hn hn' hne
  · intro b B hB
    by_cases e : b = k
    · subst e; exact (chg B hB).2.2.1
    · exact h.wf b B (keep b B hB e).1
/-- Nothing of it has turned. -/
theorem Sim.same {φ : Emb} {H : Heap} {base : Nat} {W W' : World} (h : Sim φ H base W) (hb : Below base W W') (hk : ∀ b B, H[b]? = some B → B.own = true → (φ b).none = false → W'.heap[(φ b).blk]? = W.heap[(φ b).blk]?) : Sim φ H base W' :=
  h.step (Ext.refl _ _) hb H.length (fun b B hB _ => ⟨hB, rfl, hk b B hB⟩) (fun B hB => by simp at hB)
/-- A block of the call's own is made. -/
theorem Sim.new {φ : Emb} {H : Heap} {base : Nat} {W : World} (h : Sim φ H base W) (B : Blk) (cur : Array Value) (cap : Nat) (ho : B.own = true) (hc : cur.size = cap * B.sz) (hl : B.len ≤ cap) (hm : cap ≤ maxLen)
    (hcell : ∀ i j u, i < B.len → (B.get i)[j]? = some u → ∃ x, cur[i * B.sz + j]? = some x ∧ VRel φ H u x ∧ x.oneCell' = true) (hwf : ∀ i, i < B.len → (B.get i).length = B.sz) :
    Ext φ H (φ.upd H.length ⟨W.heap.size, 0, cap, false⟩) (H ++ [B]) ∧ Sim (φ.upd H.length ⟨W.heap.size, 0, cap, false⟩) (H ++ [B]) base (W.alloc (.cells cur B.t)) ∧ Below base W (W.alloc (.cells cur B.t)) := by
  have hx : Ext φ H (φ.upd H.length ⟨W.heap.size, 0, cap, false⟩) (H ++ [B]) := by
    intro b B0 hB
    have hlt : b < H.length := (List.getElem?_eq_some_iff.1 hB).1
    refine ⟨B0, by rw [List.getElem?_append_left hlt]; exact hB, rfl, rfl, rfl, Nat.le_refl _, fun _ => Nat.le_refl _, fun _ => ?_⟩
    exact φ.upd_ne _ (by omega)
  have hb : Below base W (W.alloc (.cells cur B.t)) := (Below.refl _ _).alloc h.big _
  refine ⟨hx, h.step hx hb H.length ?_ ?_, hb⟩
  · intro b B0 hB hne
    have hlt : b < H.length := by
      have := (List.getElem?_eq_some_iff.1 hB).1
      rw [List.length_append] at this
      simp at this
      omega
    rw [List.getElem?_append_left hlt] at hB
    refine ⟨hB, φ.upd_ne _ hne, fun ho0 hn0 => ?_⟩
    rcases h.ow b B0 hB ho0 with q | ⟨_, cur0, c1, _⟩
    · rw [hn0] at q; cases q.1
    · exact Below.heap_alloc _ _ _ c1.lt
  · intro B0 hB
    rw [List.getElem?_append_right (Nat.le_refl _), Nat.sub_self] at hB
    simp at hB
    subst hB
    refine ⟨ho, .inr ⟨by rw [Emb.upd_self], cur, ?_⟩, hwf, fun _ b B' hB' ho' hn' hne => ?_⟩
    · rw [Emb.upd_self]
      refine ⟨.of (heap_alloc_new _ _), rfl, hc, hl, hm, h.big, fun i j u hi hu => ?_⟩
      obtain ⟨x, x1, x2, x3⟩ := hcell i j u hi hu
      exact ⟨x, x1, VRel.ext hx _ _ x2, x3⟩
    · rw [Emb.upd_self]
      have hlt : b < H.length := by
        have := (List.getElem?_eq_some_iff.1 hB').1
        rw [List.length_append] at this
        simp at this
        omega
      rw [List.getElem?_append_left hlt] at hB'
      rcases h.ow b B' hB' ho' with q | ⟨_, cur0, c1, _⟩
      · rw [hn'] at q; cases q.1
      · have := c1.lt
        exact Nat.ne_of_lt this
/-- A block of the call's own is made, in a world that is the old one but for it. -/
theorem Sim.newG {φ : Emb} {H : Heap} {base : Nat} {W W' : World} (h : Sim φ H base W) (hb : Below base W W') (hold : ∀ k, k < W.heap.size → W'.heap[k]? = W.heap[k]?) (B : Blk) (cur : Array Value) (cap : Nat) (hat : Heaped W' W.heap.size cur B.t) (ho : B.own = true) (hc : cur.size = cap * B.sz) (hl : B.len ≤ cap) (hm : cap ≤ maxLen)
    (hcell : ∀ i j u, i < B.len → (B.get i)[j]? = some u → ∃ x, cur[i * B.sz + j]? = some x ∧ VRel φ H u x ∧ x.oneCell' = true) (hwf : ∀ i, i < B.len → (B.get i).length = B.sz) :
    Ext φ H (φ.upd H.length ⟨W.heap.size, 0, cap, false⟩) (H ++ [B]) ∧ Sim (φ.upd H.length ⟨W.heap.size, 0, cap, false⟩) (H ++ [B]) base W' := by
  have hx : Ext φ H (φ.upd H.length ⟨W.heap.size, 0, cap, false⟩) (H ++ [B]) := by
    intro b B0 hB
    have hlt : b < H.length := (List.getElem?_eq_some_iff.1 hB).1
    refine ⟨B0, by rw [List.getElem?_append_left hlt]; exact hB, rfl, rfl, rfl, Nat.le_refl _, fun _ => Nat.le_refl _, fun _ => ?_⟩
    exact φ.upd_ne _ (by omega)
  refine ⟨hx, h.step hx hb H.length ?_ ?_⟩
  · intro b B0 hB hne
    have hlt : b < H.length := by
      have := (List.getElem?_eq_some_iff.1 hB).1
      rw [List.length_append] at this
      simp at this
      omega
    rw [List.getElem?_append_left hlt] at hB
    refine ⟨hB, φ.upd_ne _ hne, fun ho0 hn0 => ?_⟩
    rcases h.ow b B0 hB ho0 with q | ⟨_, cur0, c1, _⟩
    · rw [hn0] at q; cases q.1
    · exact hold _ c1.lt
  · intro B0 hB
    rw [List.getElem?_append_right (Nat.le_refl _), Nat.sub_self] at hB
    simp at hB
    subst hB
    refine ⟨ho, .inr ⟨by rw [Emb.upd_self], cur, ?_⟩, hwf, fun _ b B' hB' ho' hn' hne => ?_⟩
    · rw [Emb.upd_self]
      refine ⟨hat, rfl, hc, hl, hm, h.big, fun i j u hi hu => ?_⟩
      obtain ⟨x, x1, x2, x3⟩ := hcell i j u hi hu
      exact ⟨x, x1, VRel.ext hx _ _ x2, x3⟩
    · rw [Emb.upd_self]
      have hlt : b < H.length := by
        have := (List.getElem?_eq_some_iff.1 hB').1
        rw [List.length_append] at this
        simp at this
        omega
      rw [List.getElem?_append_left hlt] at hB'
      rcases h.ow b B' hB' ho' with q | ⟨_, cur0, c1, _⟩
      · rw [hn'] at q; cases q.1
      · have := c1.lt
        exact Nat.ne_of_lt this
/-- A cell of a block. -/
theorem Sim.cell {φ : Emb} {H : Heap} {base : Nat} {W : World} (h : Sim φ H base W) {b : Nat} {B : Blk} (hB : H[b]? = some B) {i j : Nat} {u : AV} (hi : i < B.len) (hu : (B.get i)[j]? = some u) :
    ∃ x, W.cell? ⟨(φ b).blk, (φ b).off + (i * B.sz + j), none⟩ = some x ∧ VRel φ H u x ∧ x.oneCell' = true := by
  cases ho : B.own with
  | false =>
    obtain ⟨x, h1, h2, h3, _⟩ := h.ro b B hB ho i j u hi hu
    exact ⟨x, h1, h2, h3⟩
  | true =>
    rcases h.ow b B hB ho with q | ⟨_, cur, c1, c2, c3, c4, c5, c6, c7⟩
    · omega
    · obtain ⟨x, x1, x2, x3⟩ := c7 i j u hi hu
      refine ⟨x, ?_, x2, x3⟩
      rw [c2, Nat.zero_add]
      rw [c1.cell, x1]
end Go.Proofs.YtjokedpaidmjoaaGreatDoor.Am
namespace Go.Proofs.YtjokedpaidmjoaaGreatDoor.Am
open Go Go.RowKit

/-! ### types -/
inductive Kind where
  | int (k : IntKind)
  | bool
  | str
  | ptr (e : TypeId)
  | slice (e : TypeId)
  | struct (fs : List (Nat × Nat × TypeId))
  | other
  deriving Inhabited
structure Ty where
  size : Nat
  bytes : Nat
  zero : List AV
  kind : Kind
  deriving Inhabited
/-- A value without addresses. -/
def conc : AV → Value
  | .bool b => .bool b
  | .int k n => .int k n
  | .str s => .string s
  | .nilptr => .pointer none
  | .nilsl => .slice none 0 0
  | _ => undef
def AV.flat : AV → Bool
  | .bool _ | .int _ _ | .str _ | .nilptr | .nilsl => true
  | _ => false
theorem conc_rel {φ : Emb} {H : Heap} {a : AV} (h : a.flat = true) : VRel φ H a (conc a) := by cases a <;> first | rfl | cases h
theorem flat_rel {φ : Emb} {H : Heap} {a : AV} (h : a.flat = true) {u : Value} (hr : VRel φ H a u) : u = conc a := by cases a <;> first | exact hr | cases h
theorem flats_rel {φ : Emb} {H : Heap} : ∀ {as_ : List AV}, as_.all AV.flat = true → VRels φ H as_ (as_.map conc)
  | [], _ => rfl
  | a :: r, h => by
    simp only [List.all_cons, Bool.and_eq_true] at h
    exact ⟨_, _, rfl, conc_rel h.1, flats_rel h.2⟩
def Ty.agg (i : Ty) : Bool := match i.kind with | .struct _ => true | _ => false
def Ty.zval (i : Ty) : Value := match i.kind with | .struct _ => .agg (i.zero.map conc).toArray | _ => conc (i.zero.headD .undef)
def Kind.ok (P : Program) (t : TypeId) : Kind → Prop
  | .int k => P.underlying t = some (.int k)
  | .bool => P.underlying t = some .bool
  | .str => P.underlying t = some .string
  | .ptr e => P.underlying t = some (.pointer e)
  | .slice e => P.underlying t = some (.slice e)
  | .struct fs => ∃ F, P.underlying t = some (.struct F) ∧ F.toList.map (fun f => (f.offset, P.cellsOf f.type, f.type)) = fs ∧ (fs.all fun f => f.2.1 != 0) = true
  | .other => False
structure TyOk (P : Program) (t : TypeId) (i : Ty) : Prop where
  info : (P.info? t).map (fun q => (q.zero, q.size, q.bytes)) = some (some i.zval, i.size, i.bytes)
  kind : i.kind.ok P t
  flat : i.zero.all AV.flat = true
  size : i.zero.length = i.size
  one : i.agg = false → i.size = 1
abbrev Env := TypeId → Option Ty
def EnvOk (P : Program) (E : Env) : Prop := ∀ t i, E t = some i → TyOk P t i
section
variable {P : Program} {t : TypeId} {i : Ty}
theorem TyOk.get (h : TyOk P t i) : ∃ q, P.info? t = some q ∧ q.zero = some i.zval ∧ q.size = i.size ∧ q.bytes = i.bytes := by
  obtain ⟨q, h1, h2⟩ := Option.map_eq_some_iff.1 h.info
  simp only [Prod.mk.injEq] at h2
  exact ⟨q, h1, h2⟩
theorem TyOk.sz (h : TyOk P t i) : (P.info? t).map (·.size) = some i.size := by
  obtain ⟨q, h1, _, h2, _⟩ := h.get
  rw [h1, ← h2]; rfl
theorem TyOk.cells (h : TyOk P t i) : P.cellsOf t = i.size := by
  unfold Program.cellsOf
  rw [h.sz]; rfl
theorem TyOk.zcells (h : TyOk P t i) : i.zval.cells.toList = i.zero.map conc := by
  unfold Ty.zval
  have h1 := h.one
  have h2 := h.size
  have h3 := h.flat
  unfold Ty.agg at h1
  cases hk : i.kind <;> rw [hk] at h1 <;> simp only at h1 ⊢ <;> first
    | (simp [Value.cells]; done)
    | (have h4 := h1 trivial
       match hz : i.zero, h2, h3 with
       | [a], _, h3 =>
         simp only [List.headD_cons, List.map_cons, List.map_nil]
         cases a <;> first | rfl | (simp [AV.flat] at h3)
       | [], h2, _ => rw [h4] at h2; cases h2
       | _ :: _ :: _, h2, _ => rw [h4] at h2; simp at h2)
theorem TyOk.zval_agg (h : i.agg = true) : i.zval = .agg (i.zero.map conc).toArray := by
  unfold Ty.zval
  unfold Ty.agg at h
  cases hk : i.kind <;> rw [hk] at h <;> first | cases h | rfl
theorem TyOk.isAgg (h : TyOk P t i) (w : World) : (isAgg t).run P w = .ok i.agg w := by
  have hk := h.kind
  unfold Ty.agg
  cases e : i.kind <;> rw [e] at hk <;> simp only [Kind.ok] at hk
  case struct fs =>
    obtain ⟨F, hu, _⟩ := hk
    simp [Go.isAgg, Sem.run_bind, run_underlying hu w]
  all_goals simp [Go.isAgg, Sem.run_bind, run_underlying hk w]
theorem TyOk.sizeOf (h : TyOk P t i) (w : World) : (Go.sizeOf t).run P w = .ok i.size w := by
  obtain ⟨q, h1, _, h2, _⟩ := h.get
  simp [Go.sizeOf, typeInfo, h1, h2]
theorem TyOk.zeroValue (h : TyOk P t i) (w : World) : (zeroValue t).run P w = .ok i.zval w := by
  obtain ⟨q, h1, h0, h2, _⟩ := h.get
  simp [Go.zeroValue, typeInfo, h1, h0]
end

/-! ### temporaries, operands -/
abbrev Tmps := List (Nat × AV)
def get (T : Tmps) (n : Nat) : AV := match T with
  | [] => .undef
  | (k, v) :: r => if k = n then v else get r n
def TRel (φ : Emb) (H : Heap) (nt : Nat) (T : Tmps) (A : Array Value) : Prop := A.size = nt ∧ ∀ t, VRel φ H (get T t) (A.getD t undef)
theorem TRel.ext {φ φ' : Emb} {H H' : Heap} {nt : Nat} {T : Tmps} {A : Array Value} (hx : Ext φ H φ' H') (h : TRel φ H nt T A) : TRel φ' H' nt T A := ⟨h.1, fun t => VRel.ext hx _ _ (h.2 t)⟩
theorem TRel.put {φ : Emb} {H : Heap} {nt : Nat} {T : Tmps} {A : Array Value} (h : TRel φ H nt T A) {d : Nat} (hd : d < nt) {v : AV} {u : Value} (hv : VRel φ H v u) : TRel φ H nt ((d, v) :: T) (A.setIfInBounds d u) := by
  refine ⟨by rw [Array.size_setIfInBounds]; exact h.1, fun t => ?_⟩
  unfold get
  by_cases e : d = t
  · subst e
    rw [if_pos rfl]
    have : (A.setIfInBounds d u).getD d undef = u := by
      rw [Array.getD_eq_getD_getElem?, Array.getElem?_setIfInBounds_self_of_lt (by rw [h.1]; exact hd)]; rfl
    rw [this]; exact hv
  · rw [if_neg e]
    have : (A.setIfInBounds d u).getD t undef = A.getD t undef := by
      rw [Array.getD_eq_getD_getElem?, Array.getD_eq_getD_getElem?, Array.getElem?_setIfInBounds_ne e]
    rw [this]; exact h.2 t
def ofConst1 : Value → AV
  | .bool b => .bool b
  | .int k n => .int k n
  | .string s => .str s
  | .pointer none => .nilptr
  | .slice none 0 0 => .nilsl
  | _ => .undef
def ofConst : Value → AV
  | .agg cs => .agg (cs.toList.map ofConst1)
  | v => ofConst1 v
theorem ofConst1_rel (φ : Emb) (H : Heap) (v : Value) : VRel φ H (ofConst1 v) v := by
  unfold ofConst1
  split <;> first | rfl | trivial
theorem ofConst1s_rel (φ : Emb) (H : Heap) : ∀ l : List Value, VRels φ H (l.map ofConst1) l
  | [] => rfl
  | v :: r => ⟨v, r, rfl, ofConst1_rel φ H v, ofConst1s_rel φ H r⟩
theorem ofConst_rel (φ : Emb) (H : Heap) (v : Value) : VRel φ H (ofConst v) v := by
  unfold ofConst
  split
  · exact ⟨_, rfl, ofConst1s_rel φ H _⟩
  · exact ofConst1_rel φ H v
def aev (T : Tmps) : Operand → AV
  | .tmp t => get T t
  | .const v => ofConst v
  | .func f => .fn f []
  | .global _ => .undef
theorem aev_rel {φ : Emb} {H : Heap} {nt : Nat} {T : Tmps} {a : Act} (h : TRel φ H nt T a.tmps) (x : Operand) : VRel φ H (aev T x) (a.eval x) := by
  cases x with
  | tmp t => exact h.2 t
  | const v => exact ofConst_rel φ H v
  | func f => exact ⟨#[], rfl, rfl⟩
  | global g => trivial
/-- The cells of a value. -/
def AV.cells : AV → List AV
  | .agg cs => cs
  | a => [a]
theorem cells_rel {φ : Emb} {H : Heap} {a : AV} {u : Value} (hu : a.cell = true ∨ ∃ cs, a = .agg cs) (h : VRel φ H a u) : VRels φ H a.cells u.cells.toList := by
  rcases hu with hu | ⟨cs, rfl⟩
  · have h1 := VRel.one hu h
    have e1 : a.cells = [a] := by cases a <;> first | rfl | cases hu
    have e2 : u.cells.toList = [u] := by cases u <;> first | rfl | cases h1
    rw [e1, e2]
    exact ⟨u, [], rfl, h, rfl⟩
  · obtain ⟨vs, rfl, h⟩ := h
    exact h
end Go.Proofs.YtjokedpaidmjoaaGreatDoor.Am
namespace Go.Proofs.YtjokedpaidmjoaaGreatDoor.Am
open Go Go.RowKit

abbrev Kont (φ : Emb) (H : Heap) (base : Nat) (W : World) (o : Oper) (a : Act) (next : Act → World → Prop) (v : AV) (H1 : Heap) : Prop :=
  ∀ φ1 W1 v', Ext φ H φ1 H1 → Sim φ1 H1 base W1 → VRel φ1 H1 v v' → Below base W W1 → next (a.put o.dst v') W1

section
variable {P : Program} {E : Env} {φ : Emb} {H : Heap} {base nt : Nat} {T : Tmps} {W : World} {o : Oper} {a : Act} {next : Act → World → Prop} {Q : Exit → Act → World → Prop}
theorem w_value {u : Value} {W1 : World} (hr : (execOp a.eval o).run P W = .ok (.value u) W1) (h : next (a.put o.dst u) W1) : o.wp P a W next Q := by
  unfold Oper.wp; rw [hr]; exact h
theorem w_skip {W1 : World} (hr : (execOp a.eval o).run P W = .ok .skip W1) (h : next (a.put o.dst undef) W1) : o.wp P a W next Q := by
  unfold Oper.wp; rw [hr]; exact h
theorem w_pure {v : AV} {u : Value} (hS : Sim φ H base W) (K : Kont φ H base W o a next v H) (hr : (execOp a.eval o).run P W = .ok (.value u) W) (hv : VRel φ H v u) : o.wp P a W next Q :=
  w_value hr (K φ W u (Ext.refl _ _) hS hv (Below.refl _ _))

/-! ### two operands -/
def abin (op : BinOp) (x y : AV) : Option (AV × Prop) :=
  match x, y with
  | .int k m, .int k' n =>
    match op with
    | .add => some (.int k (k.wrap (m + n)), k = k')
    | .sub => some (.int k (k.wrap (m - n)), k = k')
    | .mul => some (.int k (k.wrap (m * n)), k = k')
    | .quo => some (.int k (k.wrap (m.tdiv n)), k = k' ∧ n ≠ 0)
    | .rem => some (.int k (m.tmod n), k = k' ∧ n ≠ 0)
    | .eql => some (.bool (m == n), k = k')
    | .neq => some (.bool (m != n), k = k')
    | .lss => some (.bool (decide (m < n)), k = k')
    | .leq => some (.bool (decide (m ≤ n)), k = k')
    | .gtr => some (.bool (decide (m > n)), k = k')
    | .geq => some (.bool (decide (m ≥ n)), k = k')
    | .shr => some (.int k (m.fdiv (2 ^ (min n.toNat k.bits))), 0 ≤ n)
    | .shl => some (.int k (k.wrap (m * 2 ^ (min n.toNat k.bits))), 0 ≤ n)
    | _ => none
  | .str s, .str t =>
    match op with
    | .add => some (.str (s ++ t), ((s.size + t.size : Nat) : Int) ≤ IntKind.i64.max)
    | .eql => some (.bool (s.toList == t.toList), True)
    | .neq => some (.bool (!(s.toList == t.toList)), True)
    | _ => none
  | _, _ => none
theorem abin_run {op : BinOp} {x y : AV} {v : AV} {ob : Prop} (h : abin op x y = some (v, ob)) (hob : ob) {t ty : TypeId} {p q : Operand} {u w : Value} (hu : VRel φ H x u) (hw : VRel φ H y w) :
    ∃ r, (do eqGuard op t p q u w; binOp op t u w : Sem Value).run P W = .ok r W ∧ VRel φ H v r := by
  unfold abin at h
  split at h
  · rename_i k m k' n
    rw [show u = .int k m from hu, show w = .int k' n from hw]
    split at h <;> cases h
    all_goals
      first
      | (obtain rfl : k = k' := hob
         exact ⟨_, by simp [eqGuard, binOp, Op.intArith, Op.intCmp], rfl⟩)
      | (obtain ⟨rfl, hn⟩ := hob
         exact ⟨_, by simp [eqGuard, binOp, Op.intDiv, hn], rfl⟩)
      | exact ⟨_, by simp [eqGuard, binOp, Op.shift, Int.not_lt.2 (show 0 ≤ n from hob)], rfl⟩
  · rename_i s s'
    rw [show u = .string s from hu, show w = .string s' from hw]
    split at h <;> cases h
    · have hn : ¬ ((s.size : Int) + (s'.size : Int) > IntKind.i64.max) := by
        have : ((s.size + s'.size : Nat) : Int) ≤ IntKind.i64.max := hob
        omega
      exact ⟨.string (s ++ s'), by simp only [eqGuard, binOp, Op.stringOp]; simp [hn]; exact hob, rfl⟩
    all_goals exact ⟨_, by simp [eqGuard, binOp, Op.stringOp], rfl⟩
  · cases h
def aun (op : UnOp) (x : AV) : Option AV :=
  match op, x with
  | .not, .bool b => some (.bool (!b))
  | .neg, .int k n => some (.int k (k.wrap (0 - n)))
  | _, _ => none
theorem aun_run {op : UnOp} {x v : AV} (h : aun op x = some v) {u : Value} (hu : VRel φ H x u) : ∃ r, (Op.unary op u).run P W = .ok r W ∧ VRel φ H v r := by
  unfold aun at h
  split at h
  · cases h
    rename_i b
    rw [show u = .bool b from hu]
    exact ⟨_, by simp [Op.unary], rfl⟩
  · cases h
    rename_i k n
    rw [show u = .int k n from hu]
    exact ⟨_, by simp [Op.unary, Op.intArith], rfl⟩
  · cases h
end
end Go.Proofs.YtjokedpaidmjoaaGreatDoor.Am
namespace Go.Proofs.YtjokedpaidmjoaaGreatDoor.Am
open Go Go.RowKit
section
variable {P : Program} {φ : Emb} {H : Heap} {base nt : Nat} {W : World} {o : Oper} {a : Act} {next : Act → World → Prop} {Q : Exit → Act → World → Prop}

/-! ### addresses -/
theorem ptr_at {b i j v : Nat} {u : Value} {B : Blk} (h : VRel φ H (.ptr b i j v) u) (hB : H[b]? = some B) (hv : B.ver = v) : u = .pointer (some ⟨(φ b).blk, (φ b).off + (i * B.sz + j), none⟩) := by
  obtain ⟨_, B', h1, _, h2⟩ := h
  rw [hB] at h1
  obtain rfl := Option.some.inj h1
  exact h2 hv
theorem ptr_mk {b i j v : Nat} {B : Blk} (hB : H[b]? = some B) (hv : B.ver = v) : VRel φ H (.ptr b i j v) (.pointer (some ⟨(φ b).blk, (φ b).off + (i * B.sz + j), none⟩)) :=
  ⟨rfl, B, hB, by omega, fun _ => rfl⟩
theorem add_at (b o n : Nat) : (⟨b, o, none⟩ : Addr).add n = ⟨b, o + n, none⟩ := Addr.add_mid b o n

theorem l_fieldAddr {s f : Nat} {x : Operand} (ho : o.op = .fieldAddr s x f) {b i j v : Nat} {B : Blk} (hS : Sim φ H base W) (hx : VRel φ H (.ptr b i j v) (a.eval x)) (hB : H[b]? = some B) (hv : B.ver = v)
    {F : Array Field} (hu : P.underlying s = some (.struct F)) {off ft : Nat} (hf : (F[f]?).map (fun q => (q.offset, q.type)) = some (off, ft)) {n : Nat} (hn : (P.info? ft).map (·.size) = some (n + 1))
    (K : Kont φ H base W o a next (.ptr b i (j + off) v) H) : o.wp P a W next Q := by
  obtain ⟨q, hq, hq2⟩ := Option.map_eq_some_iff.1 hf
  simp only [Prod.mk.injEq] at hq2
  obtain ⟨e1, e2⟩ := hq2
  obtain ⟨z, hz, hz2⟩ := Option.map_eq_some_iff.1 hn
  rw [← e2] at hz
  have hp := ptr_at hx hB hv
  refine w_pure hS K (u := .pointer (some ⟨(φ b).blk, (φ b).off + (i * B.sz + (j + off)), none⟩)) ?_ (ptr_mk hB hv)
  have hsz : (Go.sizeOf q.type).run P W = .ok (n + 1) W := by simp [Go.sizeOf, typeInfo, hz, hz2]
  simp only [execOp, ho, hp, Instr.fieldAt, Sem.run_bind, run_underlying hu, Result.andThen_ok, hq, Instr.sureAddr, Sem.run_pure, fieldPlace, hsz]
  simp [add_at, e1, Nat.add_assoc]
theorem sl_at {b o n v : Nat} {u : Value} {B : Blk} (h : VRel φ H (.sl b o n v) u) (hB : H[b]? = some B) (hv : B.ver = v) : o + n ≤ B.len ∧ ((B.own = true ∧ (φ b).none = true ∧ u = .slice none 0 0) ∨ ((B.own = true → (φ b).none = false) ∧ ∃ A c, u = .slice A n c ∧ n ≤ c ∧ ((n ≠ 0 ∨ (B.own = true ∧ (o = 0 ∨ c ≠ 0))) → A = some ⟨(φ b).blk, (φ b).off + o * B.sz, none⟩) ∧ (B.own = true → o + c = (φ b).cap))) := by
  obtain ⟨_, B', h1, _, h2⟩ := h
  rw [hB] at h1
  obtain rfl := Option.some.inj h1
  exact h2 hv
/-- A slice's value. -/
theorem sl_val {b o n v : Nat} {u : Value} {B : Blk} (hS : Sim φ H base W) (h : VRel φ H (.sl b o n v) u) (hB : H[b]? = some B) (hv : B.ver = v) : ∃ A c, u = .slice A n c ∧ n ≤ c ∧ (n ≠ 0 → A = some ⟨(φ b).blk, (φ b).off + o * B.sz, none⟩) := by
  obtain ⟨hl, h | ⟨_, A, c, e, h1, h2, _⟩⟩ := sl_at h hB hv
  · obtain ⟨ho, hn, rfl⟩ := h
    have h0 : B.len = 0 := by
      rcases hS.ow b B hB ho with q | q
      · exact q.2
      · rw [hn] at q; cases q.1
    have : n = 0 := by omega
    subst this
    exact ⟨none, 0, rfl, Nat.le_refl _, fun q => absurd rfl q⟩
  · exact ⟨A, c, e, h1, fun q => h2 (.inl q)⟩
theorem l_indexAddr {t e : Nat} {x ix : Operand} (ho : o.op = .indexAddr t x ix) {b p n v : Nat} {k : IntKind} {i : Int} {B : Blk} (hS : Sim φ H base W) (hx : VRel φ H (.sl b p n v) (a.eval x)) (hi : VRel φ H (.int k i) (a.eval ix)) (hB : H[b]? = some B) (hv : B.ver = v)
    (hu : P.underlying t = some (.slice e)) (he : P.cellsOf e = B.sz) (hi' : (P.info? e).isSome = true) (h0 : 0 ≤ i) (h1 : i < n) (K : Kont φ H base W o a next (.ptr b (p + i.toNat) 0 v) H) : o.wp P a W next Q := by
  obtain ⟨A, c, e1, e2, e3⟩ := sl_val hS hx hB hv
  have hA := e3 (by omega)
  obtain ⟨z, hz⟩ := Option.isSome_iff_exists.1 hi'
  have hzs : z.size = B.sz := by rw [← he]; simp [Program.cellsOf, hz]
  have hsz : (Go.sizeOf e).run P W = .ok B.sz W := by simp [Go.sizeOf, typeInfo, hz, hzs]
  refine w_pure hS K (u := .pointer (some ⟨(φ b).blk, (φ b).off + ((p + i.toNat) * B.sz + 0), none⟩)) ?_ (ptr_mk hB hv)
  have hcond : 0 ≤ i ∧ i < (n : Int) := ⟨h0, h1⟩
  have hi2 : a.eval ix = .int k i := hi
  simp only [execOp, ho, e1, hA, hi2, Instr.indexAt, asIntOf, Sem.run_bind, run_underlying hu, Result.andThen_ok, Sem.run_pure]
  simp only [hcond, and_self, if_true, Sem.run_bind, hsz, Result.andThen_ok, Sem.run_pure, add_at]
  rw [Nat.add_zero, Nat.add_mul, Nat.add_assoc]

/-! ### reading -/
theorem cells_at (hS : Sim φ H base W) {b : Nat} {B : Blk} (hB : H[b]? = some B) {i : Nat} (hi : i < B.len) : ∀ (n j : Nat), j + n ≤ B.sz → ∃ us : List Value, us.length = n ∧ VRels φ H (((B.get i).drop j).take n) us ∧ W.rangeAt (φ b).blk ((φ b).off + (i * B.sz + j)) us ∧ ∀ u ∈ us, u.oneCell' = true := by
  intro n
  induction n with
  | zero => intro j _; exact ⟨[], rfl, rfl, fun k v hv => by simp at hv, fun u hu => by cases hu⟩
  | succ n ih =>
    intro j hj
    have hl := hS.wf b B hB i hi
    have hjl : j < (B.get i).length := by omega
    obtain ⟨x, x1, x2, x3⟩ := hS.cell hB hi (j := j) (List.getElem?_eq_getElem hjl)
    obtain ⟨us, u1, u2, u3, u4⟩ := ih (j + 1) (by omega)
    refine ⟨x :: us, by simp [u1], ?_, ?_, ?_⟩
    · rw [List.drop_eq_getElem_cons hjl, List.take_succ_cons]
      exact ⟨x, us, rfl, x2, u2⟩
    · intro k v hv
      cases k with
      | zero => simp at hv; subst hv; exact x1
      | succ k =>
        have := u3 k v (by simpa using hv)
        rw [show (φ b).off + (i * B.sz + j) + (k + 1) = (φ b).off + (i * B.sz + (j + 1)) + k by omega]
        exact this
    · intro u hu
      cases hu with
      | head => exact x3
      | tail _ h => exact u4 u h
def ldv (i : Ty) (cs : List AV) (j : Nat) : AV := if i.agg then .agg ((cs.drop j).take i.size) else cs.getD j .undef
theorem l_load {t : Nat} {x : Operand} (ho : o.op = .load t x) {b i j v : Nat} {B : Blk} (hS : Sim φ H base W) (hx : VRel φ H (.ptr b i j v) (a.eval x)) (hB : H[b]? = some B) (hv : B.ver = v)
    {ti : Ty} (ht : TyOk P t ti) (hi : i < B.len) (hj : j + ti.size ≤ B.sz) (K : Kont φ H base W o a next (ldv ti (B.get i) j) H) : o.wp P a W next Q := by
  have hp := ptr_at hx hB hv
  obtain ⟨us, u1, u2, u3, u4⟩ := cells_at hS hB hi ti.size j hj
  unfold ldv at K
  cases hg : ti.agg with
  | true =>
    rw [if_pos hg] at K
    have hk := ht.kind
    unfold Ty.agg at hg
    cases hkk : ti.kind <;> rw [hkk] at hg hk <;> first | cases hg | skip
    rename_i fs
    obtain ⟨F, hu, _⟩ := hk
    refine w_pure hS K (v := .agg (((B.get i).drop j).take ti.size)) (u := .agg us.toArray) ?_ ⟨_, rfl, by simpa using u2⟩
    simp only [execOp, ho, hp, Instr.loadAt, Instr.sureAddr, Sem.run_bind, Sem.run_pure, Result.andThen_ok, run_loadVar_mid W (φ b).blk _ t us _ u3 hu rfl (by rw [u1]; exact ht.sz)]
  | false =>
    rw [if_neg (by rw [hg]; simp)] at K
    have h1 := ht.one hg
    rw [h1] at u1 u2
    match us, u1 with
    | [u], _ =>
      have hl := hS.wf b B hB i hi
      have hjl : j < (B.get i).length := by omega
      rw [List.drop_eq_getElem_cons hjl, List.take_succ_cons] at u2
      obtain ⟨u', us', e, hr, _⟩ := u2
      simp only [List.cons.injEq] at e
      obtain ⟨rfl, _⟩ := e
      have hc := u3 0 u rfl
      rw [Nat.add_zero] at hc
      refine w_pure hS K (u := u) ?_ (by rw [List.getD_eq_getElem?_getD, List.getElem?_eq_getElem hjl]; exact hr)
      have ha := ht.isAgg W
      rw [hg] at ha
      simp [execOp, ho, hp, Instr.loadAt, Instr.sureAddr, Sem.run_bind, loadVar, ha, Go.load, Sem.run, hc]

/-! ### writing -/
def setSeg (cs : List AV) (j : Nat) (vs : List AV) : List AV := cs.take j ++ vs ++ cs.drop (j + vs.length)
theorem setSeg_length {cs : List AV} {j : Nat} {vs : List AV} (h : j + vs.length ≤ cs.length) : (setSeg cs j vs).length = cs.length := by
  unfold setSeg; simp; omega
theorem seg_get {α : Type} (cs vs : List α) (j k : Nat) (h : j + vs.length ≤ cs.length) : (cs.take j ++ vs ++ cs.drop (j + vs.length))[k]? = if j ≤ k ∧ k < j + vs.length then vs[k - j]? else cs[k]? := by
  by_cases h1 : k < j
  · rw [if_neg (by omega), List.append_assoc, List.getElem?_append_left (by simp; omega), List.getElem?_take_of_lt h1]
  · by_cases h2 : k < j + vs.length
    · rw [if_pos ⟨by omega, h2⟩, List.getElem?_append_left (by simp; omega), List.getElem?_append_right (by simp; omega)]
      simp
      congr 1
      omega
    · rw [if_neg (by omega), List.getElem?_append_right (by simp; omega), List.getElem?_drop]
      congr 1
      simp
      omega
def Blk.put (B : Blk) (i j : Nat) (vs : List AV) : Blk := { B with get := if B.one then fun _ => setSeg (B.get 0) j vs else fun k => if k = i then setSeg (B.get k) j vs else B.get k }
theorem Blk.put_get {B : Blk} {i j : Nat} {vs : List AV} (hone : B.one = true → B.len = 1) (hi : i < B.len) {k : Nat} (hk : k < B.len) : (B.put i j vs).get k = if k = i then setSeg (B.get k) j vs else B.get k := by
  unfold Blk.put
  cases ho : B.one with
  | false => rfl
  | true =>
    have h1 := hone ho
    have : k = 0 := by omega
    have : i = 0 := by omega
    subst k; subst i
    simp
theorem idx_ne {i i' sz j j' n : Nat} (hne : i' ≠ i) (hj' : j' < sz) (hj : j + n ≤ sz) : ¬ (i * sz + j ≤ i' * sz + j' ∧ i' * sz + j' < i * sz + j + n) := by
  rcases Nat.lt_or_ge i' i with h | h
  · have := Nat.mul_le_mul_right sz (show i' + 1 ≤ i from h)
    rw [Nat.add_mul, Nat.one_mul] at this
    omega
  · have := Nat.mul_le_mul_right sz (show i + 1 ≤ i' by omega)
    rw [Nat.add_mul, Nat.one_mul] at this
    omega
theorem idx_le {i sz len cap j n : Nat} (hi : i < len) (hl : len ≤ cap) (hj : j + n ≤ sz) : i * sz + j + n ≤ cap * sz := by
  have := Nat.mul_le_mul_right sz (show i + 1 ≤ cap by omega)
  rw [Nat.add_mul, Nat.one_mul] at this
  omega
theorem run_storeCells_atG (P : Program) (g o : Nat) (t : TypeId) : ∀ (vs : List Value) (i : Nat) (cur : Array Value) (w : World), Heaped w g cur t → o + i + vs.length ≤ cur.size → (∀ v ∈ vs, v.oneCell' = true) →
    (storeCells ⟨g, o, none⟩ vs i).run P w = .ok () (w.setRow g (cur.toList.take (o + i) ++ vs ++ cur.toList.drop (o + i + vs.length)).toArray)
  | [], i, cur, w, hg, _, _ => by
    obtain ⟨z, hg, hz⟩ := hg
    simp only [storeCells, List.append_nil, List.length_nil, Nat.add_zero, List.take_append_drop, Array.toArray_toList]
    rw [setRow_self w g cur t z hg]
    rfl
  | v :: rest, i, cur, w, hG, hl, h1 => by
    obtain ⟨z, hg, hz⟩ := hG
    have hi : o + i < cur.size := by simp at hl; omega
    have hadd : (⟨g, o, none⟩ : Addr).add i = ⟨g, o + i, none⟩ := by unfold Addr.add; split <;> simp_all
    have hcell : w.cell? ⟨g, o + i, none⟩ = some cur[o + i] := by simp [World.cell?, hg, hi]
    have hfro : w.frozen? ⟨g, o + i, none⟩ = false := by
      obtain ⟨lo, hi'⟩ := z
      simp only [World.frozen?, hg, Bool.and_eq_false_iff, decide_eq_false_iff_not]
      rcases hz with hz | hz
      · injection hz with h1 h2
        right
        omega
      · left
        simp only at hz
        omega
    have hst : (store ((⟨g, o, none⟩ : Addr).add i) v).run P w = .ok () (w.setRow g (cur.setIfInBounds (o + i) v)) := by
      rw [hadd, run_store P w _ v _ (h1 v (by simp)), hcell]
      simp [hfro, setCell_eq_setRow w g (o + i) cur t z v hg]
    have ih := run_storeCells_atG P g o t rest (i + 1) (cur.setIfInBounds (o + i) v) (w.setRow g (cur.setIfInBounds (o + i) v)) ⟨z, setRow_heap w g cur _ t _ hg, hz.imp id (fun q => by simpa using q)⟩ (by simp at hl ⊢; omega) (fun x hx => h1 x (by simp [hx]))
    simp only [storeCells, Sem.run_bind, hst, Result.andThen_ok, ih, setRow_setRow]
    congr 3
    have e := list_seg_step cur.toList (o + i) v rest (by simp at hl ⊢; omega)
    simpa [Array.toList_setIfInBounds, Nat.add_assoc] using e
theorem l_store {t : Nat} {x y : Operand} (ho : o.op = .store t x y) {b i j v : Nat} {B : Blk} (hS : Sim φ H base W) (hx : VRel φ H (.ptr b i j v) (a.eval x)) (hB : H[b]? = some B) (hv : B.ver = v)
    {w : AV} (hy : VRel φ H w (a.eval y)) (hw : w.cell = true ∨ ∃ cs, w = .agg cs) (hcs : w.cells.all AV.cell = true) {ti : Ty} (ht : TyOk P t ti) (hl : w.cells.length = ti.size) (hown : B.own = true) (hi : i < B.len) (hj : j + ti.size ≤ B.sz) (hone : B.one = true → B.len = 1)
    (K : Kont φ H base W o a next .undef (H.set b (B.put i j w.cells))) : o.wp P a W next Q := by
  have hp := ptr_at hx hB hv
  have hr := cells_rel hw hy
  have hlen : (a.eval y).cells.toList.length = ti.size := by rw [VRels.length hr, hl]
  have hones : ∀ u ∈ (a.eval y).cells.toList, u.oneCell' = true := by
    intro u hu
    obtain ⟨k, hk⟩ := List.getElem?_of_mem hu
    have hkl : k < w.cells.length := by rw [← VRels.length hr]; exact (List.getElem?_eq_some_iff.1 hk).1
    obtain ⟨u', hu', hrel⟩ := VRels.get hr k _ (List.getElem?_eq_getElem hkl)
    rw [hk] at hu'
    obtain rfl := Option.some.inj hu'
    exact VRel.one (List.all_eq_true.1 hcs _ (List.getElem_mem hkl)) hrel
  generalize hvs : (a.eval y).cells.toList = vs at hr hlen hones
  rcases hS.ow b B hB hown with q | ⟨hn, cur, c1, c2, c3, c4, c5, c6, c7⟩
  · omega
  have hfit : i * B.sz + j + 0 + vs.length ≤ cur.size := by
    rw [c3, hlen]
    exact idx_le hi c4 hj
  have hst := run_storeCells_atG P (φ b).blk (i * B.sz + j) B.t vs 0 cur W c1 hfit hones
  rw [Nat.add_zero] at hst
  have hsz : (a.eval y).cells.size = ti.size := by rw [← Array.length_toList, hvs, hlen]
  have hrun : (execOp a.eval o).run P W = .ok .skip (W.setRow (φ b).blk (cur.toList.take (i * B.sz + j) ++ vs ++ cur.toList.drop (i * B.sz + j + vs.length)).toArray) := by
    simp only [execOp, ho, hp, c2, Nat.zero_add, Instr.storeAt, Instr.sureAddr, Sem.run_bind, Sem.run_pure, Result.andThen_ok, storeVar, hsz, ht.sizeOf W]
    simp [hvs, hst]
  have hfl : i * B.sz + j + vs.length ≤ cur.toList.length := by rw [Array.length_toList]; omega
  have hb : Below base W (W.setRow (φ b).blk (cur.toList.take (i * B.sz + j) ++ vs ++ cur.toList.drop (i * B.sz + j + vs.length)).toArray) :=
    ⟨rfl, rfl, rfl, by simp, fun k hk => setRow_other W (φ b).blk k _ (by omega)⟩
  have hbl : b < H.length := (List.getElem?_eq_some_iff.1 hB).1
  have hx' : Ext φ H φ (H.set b (B.put i j w.cells)) := by
    intro k B0 hB0
    by_cases e : b = k
    · subst e
      rw [hB] at hB0
      obtain rfl := Option.some.inj hB0
      exact ⟨_, List.getElem?_set_self hbl, rfl, rfl, rfl, Nat.le_refl _, fun _ => Nat.le_refl _, fun _ => rfl⟩
    · exact ⟨B0, by rw [List.getElem?_set_ne e]; exact hB0, rfl, rfl, rfl, Nat.le_refl _, fun _ => Nat.le_refl _, fun _ => rfl⟩
  refine w_skip hrun (K φ _ undef hx' (hS.step hx' hb b ?_ ?_) trivial hb)
  · intro k B0 hB0 hne
    rw [List.getElem?_set_ne (fun e => hne e.symm)] at hB0
    refine ⟨hB0, rfl, fun ho0 hn0 => setRow_other W _ _ _ ?_⟩
    exact hS.inj k b B0 B hB0 hB ho0 hown hn0 hn hne
  · intro B0 hB0
    rw [List.getElem?_set_self hbl] at hB0
    obtain rfl := Option.some.inj hB0
    refine ⟨hown, .inr ⟨hn, _, c1.set (by
      rw [List.size_toArray]
      simp only [List.length_append, List.length_take, List.length_drop, Array.length_toList]
      omega), c2, ?_, c4, c5, c6, ?_⟩, ?_, fun _ k B0 hB0 ho0 hn0 hne => ?_⟩
    · rw [List.size_toArray]
      simp only [List.length_append, List.length_take, List.length_drop, Array.length_toList]
      show _ = (φ b).cap * B.sz
      omega
    · intro i' j' u hi' hu
      have hi'' : i' < B.len := hi'
      rw [Blk.put_get hone hi hi''] at hu
      have hwl := hS.wf b B hB i' hi''
      rw [List.getElem?_toArray, seg_get _ _ _ _ hfl]
      show ∃ x, (if i * B.sz + j ≤ i' * B.sz + j' ∧ i' * B.sz + j' < i * B.sz + j + vs.length then vs[i' * B.sz + j' - (i * B.sz + j)]? else cur.toList[i' * B.sz + j']?) = some x ∧ _
      by_cases e : i' = i
      · subst e
        rw [if_pos rfl] at hu
        unfold setSeg at hu
        rw [seg_get _ _ _ _ (by rw [hl, hwl]; exact hj)] at hu
        by_cases hin : j ≤ j' ∧ j' < j + w.cells.length
        · rw [if_pos hin] at hu
          rw [if_pos (by rw [hlen]; rw [hl] at hin; omega)]
          obtain ⟨x, x1, x2⟩ := VRels.get hr _ _ hu
          refine ⟨x, by rw [show i' * B.sz + j' - (i' * B.sz + j) = j' - j by omega]; exact x1, VRel.ext hx' _ _ x2, hones x (List.mem_of_getElem? x1)⟩
        · rw [if_neg hin] at hu
          rw [if_neg (by rw [hlen]; rw [hl] at hin; omega)]
          obtain ⟨x, x1, x2, x3⟩ := c7 i' j' u hi'' hu
          exact ⟨x, by rw [Array.getElem?_toList]; exact x1, VRel.ext hx' _ _ x2, x3⟩
      · rw [if_neg e] at hu
        have hj' : j' < B.sz := by rw [← hwl]; exact (List.getElem?_eq_some_iff.1 hu).1
        rw [if_neg (by rw [hlen]; exact idx_ne e hj' hj)]
        obtain ⟨x, x1, x2, x3⟩ := c7 i' j' u hi'' hu
        exact ⟨x, by rw [Array.getElem?_toList]; exact x1, VRel.ext hx' _ _ x2, x3⟩
    · intro i' hi'
      have hi'' : i' < B.len := hi'
      rw [Blk.put_get hone hi hi'']
      have hwl := hS.wf b B hB i' hi''
      split
      · rw [setSeg_length (by rw [hl, hwl]; exact hj)]; exact hwl
      · exact hwl
    · rw [List.getElem?_set_ne (fun e => hne e.symm)] at hB0
      exact hS.inj k b B0 B hB0 hB ho0 hown hn0 hn hne
end
end Go.Proofs.YtjokedpaidmjoaaGreatDoor.Am
namespace Go.Proofs.YtjokedpaidmjoaaGreatDoor.Am
open Go Go.RowKit
section
variable {P : Program} {φ : Emb} {H : Heap} {base nt : Nat} {W : World} {o : Oper} {a : Act} {next : Act → World → Prop} {Q : Exit → Act → World → Prop}

theorem l_move {x : Operand} (ho : o.op = .move x ∨ o.op = .assign x) {v : AV} (hS : Sim φ H base W) (hx : VRel φ H v (a.eval x)) (K : Kont φ H base W o a next v H) : o.wp P a W next Q := by
  refine w_pure hS K (u := a.eval x) ?_ hx
  rcases ho with ho | ho <;> simp [execOp, ho]
theorem l_pick_bool {c x y : Operand} (ho : o.op = .pick c x y) {p q r : Bool} (hS : Sim φ H base W) (hc : VRel φ H (.bool p) (a.eval c)) (hx : p = true → VRel φ H (.bool q) (a.eval x)) (hy : p = false → VRel φ H (.bool r) (a.eval y)) (K : Kont φ H base W o a next (.bool (bif p then q else r)) H) : o.wp P a W next Q := by
  have hc : a.eval c = .bool p := hc
  refine w_pure hS K (u := .bool (bif p then q else r)) ?_ rfl
  cases p with
  | true => have h := hx rfl; have h : a.eval x = .bool q := h; simp [execOp, ho, hc, asBool, h]
  | false => have h := hy rfl; have h : a.eval y = .bool r := h; simp [execOp, ho, hc, asBool, h]
theorem l_bin {op : BinOp} {t ty : TypeId} {p q : Operand} (ho : o.op = .binOp op t p q ty) {x y v : AV} {ob : Prop} (h : abin op x y = some (v, ob)) (hob : ob) (hS : Sim φ H base W) (hx : VRel φ H x (a.eval p)) (hy : VRel φ H y (a.eval q)) (K : Kont φ H base W o a next v H) : o.wp P a W next Q := by
  obtain ⟨r, h1, h2⟩ := abin_run (P := P) (W := W) (t := t) (ty := ty) (p := p) (q := q) h hob hx hy
  refine w_pure hS K (u := r) ?_ h2
  simp only [execOp, ho]
  rw [Sem.run_bind, h1]
  rfl
theorem l_un {op : UnOp} {t : TypeId} {p : Operand} (ho : o.op = .unOp op t p) {x v : AV} (h : aun op x = some v) (hS : Sim φ H base W) (hx : VRel φ H x (a.eval p)) (K : Kont φ H base W o a next v H) : o.wp P a W next Q := by
  obtain ⟨r, h1, h2⟩ := aun_run (P := P) (W := W) h hx
  refine w_pure hS K (u := r) ?_ h2
  simp only [execOp, ho, Sem.run_bind, h1]
  rfl
theorem l_convert {src dst : TypeId} {x : Operand} (ho : o.op = .convert src dst x) {k k' : IntKind} {n : Int} (hS : Sim φ H base W) (hx : VRel φ H (.int k n) (a.eval x)) {si di : Ty} (hs : TyOk P src si) (hd : TyOk P dst di) {j : IntKind} (hsk : si.kind = .int j) (hdk : di.kind = .int k') (K : Kont φ H base W o a next (.int k' (k'.wrap n)) H) : o.wp P a W next Q := by
  have hx : a.eval x = .int k n := hx
  have h1 := hs.kind; rw [hsk] at h1
  have h2 := hd.kind; rw [hdk] at h2
  have h1 : P.underlying src = some (.int j) := h1
  have h2 : P.underlying dst = some (.int k') := h2
  refine w_pure hS K (u := .int k' (k'.wrap n)) ?_ rfl
  simp [execOp, ho, hx, convert, run_underlying h1, run_underlying h2, Conv.intToInt]
theorem l_extract {x : Operand} {i : Nat} (ho : o.op = .extract x i) {vs : List AV} {v : AV} (hS : Sim φ H base W) (hx : VRel φ H (.tup vs) (a.eval x)) (hv : vs[i]? = some v) (K : Kont φ H base W o a next v H) : o.wp P a W next Q := by
  obtain ⟨us, e, h⟩ := hx
  obtain ⟨u, hu, hr⟩ := VRels.get h i v hv
  have hu' : us[i]? = some u := by simpa using hu
  refine w_pure hS K (u := u) ?_ hr
  simp [execOp, ho, e, Instr.extract, hu']
theorem VRels.drop {φ : Emb} {H : Heap} : ∀ (n : Nat) {as_ : List AV} {us : List Value}, VRels φ H as_ us → VRels φ H (as_.drop n) (us.drop n)
  | 0, _, _, h => h
  | n + 1, [], _, h => by rw [show _ = [] from h]; rfl
  | n + 1, _ :: _, _, ⟨u, us', e, _, h⟩ => by subst e; exact VRels.drop n h
theorem VRels.take {φ : Emb} {H : Heap} : ∀ (n : Nat) {as_ : List AV} {us : List Value}, VRels φ H as_ us → VRels φ H (as_.take n) (us.take n)
  | 0, _, _, _ => rfl
  | n + 1, [], _, h => by rw [show _ = [] from h]; rfl
  | n + 1, _ :: _, _, ⟨u, us', e, h0, h⟩ => by subst e; exact ⟨u, us'.take n, rfl, h0, VRels.take n h⟩
theorem l_field {s f : Nat} {x : Operand} (ho : o.op = .field s x f) {cs : List AV} (hS : Sim φ H base W) (hx : VRel φ H (.agg cs) (a.eval x))
    {F : Array Field} (hu : P.underlying s = some (.struct F)) {off ft : Nat} (hf : (F[f]?).map (fun q => (q.offset, q.type)) = some (off, ft)) {ti : Ty} (ht : TyOk P ft ti) (hl : off + ti.size ≤ cs.length)
    (K : Kont φ H base W o a next (ldv ti cs off) H) : o.wp P a W next Q := by
  obtain ⟨q, hq, hq2⟩ := Option.map_eq_some_iff.1 hf
  simp only [Prod.mk.injEq] at hq2
  obtain ⟨e1, e2⟩ := hq2
  obtain ⟨us, e, h⟩ := hx
  have hlen := VRels.length h
  rw [Array.length_toList] at hlen
  have ha := ht.isAgg W
  have hz := ht.sizeOf W
  rw [← e2] at ha hz
  unfold ldv at K
  cases hg : ti.agg with
  | true =>
    rw [if_pos hg] at K
    rw [hg] at ha
    refine w_pure hS K (u := .agg (us.extract off (off + ti.size))) ?_ ⟨_, rfl, ?_⟩
    · simp [execOp, ho, e, Instr.field, run_underlying hu, hq, part, ha, hz, asAgg, e1]
    · have : (us.extract off (off + ti.size)).toList = (us.toList.drop off).take ti.size := by
        rw [Array.toList_extract, List.extract_eq_drop_take]
        congr 1
        omega
      rw [this]
      exact VRels.take _ (VRels.drop _ h)
  | false =>
    rw [if_neg (by rw [hg]; simp)] at K
    rw [hg] at ha
    have h1 := ht.one hg
    have hlt : off < cs.length := by omega
    obtain ⟨u, hu1, hr⟩ := VRels.get h off _ (List.getElem?_eq_getElem hlt)
    have hu2 : us[off]? = some u := by simpa using hu1
    refine w_pure hS K (u := u) ?_ (by rw [List.getD_eq_getElem?_getD, List.getElem?_eq_getElem hlt]; exact hr)
    simp [execOp, ho, e, Instr.field, run_underlying hu, hq, part, ha, asAgg, e1, hu2]
/-- A byte of a text. -/
def byteAt (s : ByteArray) (i : Int) : Int := ((s[i.toNat]?).getD 0).toNat
theorem l_index {t : TypeId} {x ix : Operand} (ho : o.op = .index t x ix) {s : ByteArray} {k : IntKind} {i : Int} (hS : Sim φ H base W) (hx : VRel φ H (.str s) (a.eval x)) (hi : VRel φ H (.int k i) (a.eval ix)) (ht : P.underlying t = some .string) (h0 : 0 ≤ i) (h1 : i < s.size) (K : Kont φ H base W o a next (.int .u8 (byteAt s i)) H) : o.wp P a W next Q := by
  have hx : a.eval x = .string s := hx
  have hi : a.eval ix = .int k i := hi
  have hlt : i.toNat < s.size := by omega
  have hg : s[i.toNat]? = some s[i.toNat] := by rw [getElem?_pos]
  refine w_pure hS K (u := .int .u8 (byteAt s i)) ?_ rfl
  simp [execOp, ho, hx, hi, Instr.index, asIntOf, run_underlying ht, h0, hg, byteAt]
theorem l_sliceStr {t : TypeId} {x : Operand} {lo hi : Option Operand} (ho : o.op = .slice t x lo hi none) {s : ByteArray} {l h : Int} (hS : Sim φ H base W) (hx : VRel φ H (.str s) (a.eval x)) (ht : P.underlying t = some .string)
    (hlo : (lo = none ∧ l = 0) ∨ ∃ y k, lo = some y ∧ VRel φ H (.int k l) (a.eval y)) (hhi : (hi = none ∧ h = s.size) ∨ ∃ y k, hi = some y ∧ VRel φ H (.int k h) (a.eval y)) (h0 : 0 ≤ l) (h1 : l ≤ h) (h2 : h ≤ s.size)
    (K : Kont φ H base W o a next (.str (s.extract l.toNat h.toNat)) H) : o.wp P a W next Q := by
  have hx : a.eval x = .string s := hx
  refine w_pure hS K (u := .string (s.extract l.toNat h.toNat)) ?_ rfl
  have hlh : l ≤ ((h.toNat : Nat) : Int) := by omega
  have c1 : (0 ≤ h ∧ h ≤ (s.size : Int)) := ⟨by omega, h2⟩
  have c2 : (0 ≤ l ∧ l ≤ ((h.toNat : Nat) : Int)) := ⟨h0, hlh⟩
  have c3 : (0 ≤ l ∧ l ≤ (s.size : Int)) := ⟨h0, by omega⟩
  rcases hlo with ⟨rfl, rfl⟩ | ⟨y, k, rfl, hy⟩
  · rcases hhi with ⟨rfl, rfl⟩ | ⟨z, k', rfl, hz⟩
    · simp [execOp, ho, hx, Instr.sliceAt, run_underlying ht, Instr.slice, Instr.sliceBounds]
    · have hz : a.eval z = .int k' h := hz
      simp only [execOp, ho, hx, hz, Instr.sliceAt, run_underlying ht, Instr.slice, Instr.sliceBounds, Instr.sliceBound, asIntOf, Option.map_some, Option.map_none, Sem.run_bind, Result.andThen_ok, Sem.run_pure, c1, and_self, if_true, Option.isSome_none, Bool.false_eq_true, if_false]
      rfl
  · have hy : a.eval y = .int k l := hy
    rcases hhi with ⟨rfl, rfl⟩ | ⟨z, k', rfl, hz⟩
    · simp only [execOp, ho, hx, hy, Instr.sliceAt, run_underlying ht, Instr.slice, Instr.sliceBounds, Instr.sliceBound, asIntOf, Option.map_some, Option.map_none, Sem.run_bind, Result.andThen_ok, Sem.run_pure, c3, and_self, if_true, Option.isSome_none, Bool.false_eq_true, if_false, Int.toNat_natCast]
    · have hz : a.eval z = .int k' h := hz
      simp only [execOp, ho, hx, hy, hz, Instr.sliceAt, run_underlying ht, Instr.slice, Instr.sliceBounds, Instr.sliceBound, asIntOf, Option.map_some, Option.map_none, Sem.run_bind, Result.andThen_ok, Sem.run_pure, c1, c2, and_self, if_true, Option.isSome_none, Bool.false_eq_true, if_false]
theorem l_len {t ty : TypeId} {x : Operand} (ho : o.op = .call { callee := .builtin .len, args := #[x], argTypes := #[t] }) {v : AV} {n : Int} (hS : Sim φ H base W) (hx : VRel φ H v (a.eval x))
    (hv : (∃ s, v = .str s ∧ P.underlying t = some .string ∧ n = s.size) ∨ (v = .nilsl ∧ n = 0 ∧ ∃ e, P.underlying t = some (.slice e)) ∨ ∃ b p m w B e, v = .sl b p m w ∧ H[b]? = some B ∧ B.ver = w ∧ n = m ∧ P.underlying t = some (.slice e))
    (K : Kont φ H base W o a next (.int .i64 n) H) : o.wp P a W next Q := by
  refine w_pure hS K (u := .int .i64 n) ?_ rfl
  rcases hv with ⟨s, rfl, ht, rfl⟩ | ⟨rfl, rfl, e, ht⟩ | ⟨b, p, m, w, B, e, rfl, hB, hw, rfl, ht⟩
  · have hx : a.eval x = .string s := hx
    simp [execOp, ho, hx, resolve, invoke, builtin, Builtin.len_, run_underlying ht, goInt]
  · have hx : a.eval x = .slice none 0 0 := hx
    simp [execOp, ho, hx, resolve, invoke, builtin, Builtin.len_, run_underlying ht, goInt]
  · obtain ⟨A, c, e1, _⟩ := sl_val hS hx hB hw
    simp [execOp, ho, e1, resolve, invoke, builtin, Builtin.len_, run_underlying ht, goInt]
theorem l_makeFunc {f : FuncId} {caps : Array Operand} (ho : o.op = .makeFunc (.func f) #[] caps) {vs : List AV} (hS : Sim φ H base W) (hx : VRels φ H vs (caps.toList.map a.eval)) (K : Kont φ H base W o a next (.fn f vs) H) : o.wp P a W next Q := by
  refine w_pure hS K (u := .func (.func f) #[] (caps.map a.eval)) ?_ ⟨_, rfl, by simpa using hx⟩
  simp [execOp, ho, Instr.makeFunc]
theorem l_nilCheck {x : Operand} (ho : o.op = .nilCheck x) {b i j v : Nat} {B : Blk} (hS : Sim φ H base W) (hx : VRel φ H (.ptr b i j v) (a.eval x)) (hB : H[b]? = some B) (hv : B.ver = v) (K : Kont φ H base W o a next (.ptr b i j v) H) : o.wp P a W next Q := by
  have hp := ptr_at hx hB hv
  refine w_pure hS K (u := a.eval x) ?_ hx
  simp [execOp, ho, hp]

/-! ### making -/
theorem one_blk {sz : Nat} {cs : List AV} {us : List Value} (hr : VRels φ H cs us) (hl : cs.length = sz) (h1 : ∀ u ∈ us, u.oneCell' = true) :
    ∀ i j u, i < 1 → ((fun _ : Nat => cs) i)[j]? = some u → ∃ x, us.toArray[i * sz + j]? = some x ∧ VRel φ H u x ∧ x.oneCell' = true := by
  intro i j u hi hu
  have : i = 0 := by omega
  subst this
  obtain ⟨x, x1, x2⟩ := VRels.get hr j u hu
  exact ⟨x, by simpa using x1, x2, h1 x (List.mem_of_getElem? x1)⟩
theorem ones_of {cs : List AV} {us : List Value} (hr : VRels φ H cs us) (hcs : cs.all AV.cell = true) : ∀ u ∈ us, u.oneCell' = true := by
  intro u hu
  obtain ⟨k, hk⟩ := List.getElem?_of_mem hu
  have hkl : k < cs.length := by rw [← VRels.length hr]; exact (List.getElem?_eq_some_iff.1 hk).1
  obtain ⟨u', hu', hrel⟩ := VRels.get hr k _ (List.getElem?_eq_getElem hkl)
  rw [hk] at hu'
  obtain rfl := Option.some.inj hu'
  exact VRel.one (List.all_eq_true.1 hcs _ (List.getElem_mem hkl)) hrel
def boxBlk (t : TypeId) (sz : Nat) (cs : List AV) : Blk := { t := t, sz := sz, own := true, ver := 0, len := 1, get := fun _ => cs, one := true }
theorem new_ptr {b : Nat} {B : Blk} (hb : H[b]? = some B) (hv : B.ver = 0) (ho : (φ b).off = 0) : VRel φ H (.ptr b 0 0 0) (.pointer (some ⟨(φ b).blk, 0, none⟩)) := by
  have := ptr_mk (φ := φ) (i := 0) (j := 0) hb hv
  rwa [ho, Nat.zero_mul] at this
theorem l_box {t : TypeId} {x : Operand} (ho : o.op = .box t x) {v : AV} (hS : Sim φ H base W) (hx : VRel φ H v (a.eval x)) (hw : v.cell = true ∨ ∃ cs, v = .agg cs) (hcs : v.cells.all AV.cell = true) {sz : Nat} (hl : v.cells.length = sz)
    (K : Kont φ H base W o a next (.ptr H.length 0 0 0) (H ++ [boxBlk t sz v.cells])) : o.wp P a W next Q := by
  have hr := cells_rel hw hx
  obtain ⟨k1, k2, k3⟩ := hS.new (boxBlk t sz v.cells) (a.eval x).cells 1 rfl (by rw [Nat.one_mul, ← Array.length_toList, VRels.length hr]; exact hl) (Nat.le_refl _) (by unfold maxLen; omega)
    (fun i j u hi hu => by have := one_blk (φ := φ) (H := H) (sz := sz) hr hl (ones_of hr hcs) i j u hi hu; rw [Array.toArray_toList] at this; exact this) (fun _ _ => hl)
  refine w_value (u := .pointer (some ⟨W.heap.size, 0, none⟩)) (W1 := W.alloc (.cells (a.eval x).cells t)) ?_ (K _ _ _ k1 k2 ?_ k3)
  · simp [execOp, ho, Instr.box, newVar, newRow, newObj, Sem.run, Sem.run_bind]
  · have := new_ptr (φ := φ.upd H.length ⟨W.heap.size, 0, 1, false⟩) (H := H ++ [boxBlk t sz v.cells]) (b := H.length) (B := boxBlk t sz v.cells) (by simp) rfl (by rw [Emb.upd_self])
    rwa [Emb.upd_self] at this
theorem flats_cell {cs : List AV} (h : cs.all AV.flat = true) : cs.all AV.cell = true := by
  rw [List.all_eq_true] at h ⊢
  intro x hx
  have := h x hx
  cases x <;> first | rfl | cases this
theorem l_alloc {t : TypeId} (ho : o.op = .alloc t) {ti : Ty} (ht : TyOk P t ti) (hS : Sim φ H base W) (K : Kont φ H base W o a next (.ptr H.length 0 0 0) (H ++ [boxBlk t ti.size ti.zero])) : o.wp P a W next Q := by
  have hz := ht.zcells
  have hr : VRels φ H ti.zero ti.zval.cells.toList := by rw [hz]; exact flats_rel ht.flat
  obtain ⟨k1, k2, k3⟩ := hS.new (boxBlk t ti.size ti.zero) ti.zval.cells 1 rfl (by rw [Nat.one_mul, ← Array.length_toList, VRels.length hr]; exact ht.size) (Nat.le_refl _) (by unfold maxLen; omega)
    (fun i j u hi hu => by have := one_blk (φ := φ) (H := H) (sz := ti.size) hr ht.size (ones_of hr (flats_cell ht.flat)) i j u hi hu; rw [Array.toArray_toList] at this; exact this) (fun _ _ => ht.size)
  refine w_value (u := .pointer (some ⟨W.heap.size, 0, none⟩)) (W1 := W.alloc (.cells ti.zval.cells t)) ?_ (K _ _ _ k1 k2 ?_ k3)
  · simp [execOp, ho, Instr.alloc, newVar, newRow, newObj, Sem.run, Sem.run_bind, ht.zeroValue W]
  · have := new_ptr (φ := φ.upd H.length ⟨W.heap.size, 0, 1, false⟩) (H := H ++ [boxBlk t ti.size ti.zero]) (b := H.length) (B := boxBlk t ti.size ti.zero) (by simp) rfl (by rw [Emb.upd_self])
    rwa [Emb.upd_self] at this
end
end Go.Proofs.YtjokedpaidmjoaaGreatDoor.Am
namespace Go.Proofs.YtjokedpaidmjoaaGreatDoor.Am
open Go Go.RowKit
section
variable {P : Program} {φ : Emb} {H : Heap} {base nt : Nat} {W : World} {o : Oper} {a : Act} {next : Act → World → Prop} {Q : Exit → Act → World → Prop}

theorem sl_mk {b p n v : Nat} {B : Blk} {A : Option Addr} {c : Nat} (hB : H[b]? = some B) (hv : B.ver = v) (hl : p + n ≤ B.len) (h : (B.own = true ∧ (φ b).none = true ∧ A = none ∧ n = 0 ∧ c = 0) ∨ ((B.own = true → (φ b).none = false) ∧ n ≤ c ∧ ((n ≠ 0 ∨ (B.own = true ∧ (p = 0 ∨ c ≠ 0))) → A = some ⟨(φ b).blk, (φ b).off + p * B.sz, none⟩) ∧ (B.own = true → p + c = (φ b).cap))) : VRel φ H (.sl b p n v) (.slice A n c) := by
  refine ⟨rfl, B, hB, by omega, fun _ => ⟨hl, ?_⟩⟩
  rcases h with ⟨h1, h2, rfl, rfl, rfl⟩ | ⟨h1, h2, h3, h4⟩
  · exact .inl ⟨h1, h2, rfl⟩
  · exact .inr ⟨h1, A, c, rfl, h2, h3, h4⟩

theorem l_sliceSl {t e : TypeId} {x : Operand} {lo hi : Option Operand} (ho : o.op = .slice t x lo hi none) {b p n v : Nat} {l h : Int} {B : Blk} (hS : Sim φ H base W) (hx : VRel φ H (.sl b p n v) (a.eval x)) (hB : H[b]? = some B) (hv : B.ver = v)
    (ht : P.underlying t = some (.slice e)) (he : P.cellsOf e = B.sz) (hi' : (P.info? e).isSome = true)
    (hlo : (lo = none ∧ l = 0) ∨ ∃ y k, lo = some y ∧ VRel φ H (.int k l) (a.eval y)) (hhi : (hi = none ∧ h = n) ∨ ∃ y k, hi = some y ∧ VRel φ H (.int k h) (a.eval y)) (h0 : 0 ≤ l) (h1 : l ≤ h) (h2 : h ≤ n ∨ (B.own = true ∧ (p : Int) + h ≤ B.len))
    (K : Kont φ H base W o a next (.sl b (p + l.toNat) (h.toNat - l.toNat) v) H) : o.wp P a W next Q := by
  obtain ⟨z, hz⟩ := Option.isSome_iff_exists.1 hi'
  have hzs : z.size = B.sz := by rw [← he]; simp [Program.cellsOf, hz]
  have hsz : (Go.sizeOf e).run P W = .ok B.sz W := by simp [Go.sizeOf, typeInfo, hz, hzs]
  obtain ⟨hl, hcase⟩ := sl_at hx hB hv
  -- the value as it lies, and how far it can be cut
  have hval : ∃ A c, a.eval x = .slice A n c ∧ h ≤ c ∧ VRel φ H (.sl b (p + l.toNat) (h.toNat - l.toNat) v) (.slice (if c = l.toNat then A else A.map (·.add (l.toNat * B.sz))) (h.toNat - l.toNat) (c - l.toNat)) := by
    have hlen : p + l.toNat + (h.toNat - l.toNat) ≤ B.len := by rcases h2 with h2 | ⟨_, h2⟩ <;> omega
    rcases hcase with ⟨hown, hn, e0⟩ | ⟨hn, A, c, e0, e1, e2, e3⟩
    · have h00 : B.len = 0 := by
        rcases hS.ow b B hB hown with q | q
        · exact q.2
        · rw [hn] at q; cases q.1
      have hh : h = 0 := by rcases h2 with h2 | ⟨_, h2⟩ <;> omega
      have hll : l = 0 := by omega
      have hnn : n = 0 := by omega
      subst hh; subst hll; subst hnn
      refine ⟨none, 0, e0, by omega, ?_⟩
      exact sl_mk hB hv hlen (.inl ⟨hown, hn, rfl, rfl, rfl⟩)
    · have hc : h ≤ c := by
        rcases h2 with h2 | ⟨h2, h3⟩
        · omega
        · have h4 := e3 h2
          rcases hS.ow b B hB h2 with q | ⟨_, cur, _, _, _, q, _⟩
          · rw [hn h2] at q; cases q.1
          · omega
      refine ⟨A, c, e0, hc, sl_mk hB hv hlen (.inr ⟨hn, by omega, fun q => ?_, fun q => by have := e3 q; omega⟩)⟩
      have hA : A = some ⟨(φ b).blk, (φ b).off + p * B.sz, none⟩ := by
        apply e2
        rcases q with q | ⟨q1, q2⟩
        · by_cases hn0 : n = 0
          · right
            rcases h2 with h2 | ⟨h2, _⟩
            · omega
            · exact ⟨h2, .inr (by omega)⟩
          · left; exact hn0
        · right
          refine ⟨q1, ?_⟩
          rcases q2 with q2 | q2
          · left; omega
          · right; omega
      subst hA
      by_cases hcl : c = l.toNat
      · rw [if_pos hcl]
        have hl0 : l.toNat = 0 := by
          rcases q with q | ⟨_, q | q⟩ <;> omega
        rw [hl0, Nat.add_zero]
      · rw [if_neg hcl, Option.map_some, add_at, Nat.add_mul, Nat.add_assoc]
  obtain ⟨A, c, e0, hc, hrel⟩ := hval
  refine w_pure hS K (u := .slice (if c = l.toNat then A else A.map (·.add (l.toNat * B.sz))) (h.toNat - l.toNat) (c - l.toNat)) ?_ hrel
  have c1 : (0 ≤ h ∧ h ≤ (c : Int)) := ⟨by omega, hc⟩
  have c2 : (0 ≤ l ∧ l ≤ ((h.toNat : Nat) : Int)) := ⟨h0, by omega⟩
  have hsl : ∀ (lo' hi' : Option Value), ((lo' = none ∧ l = 0) ∨ ∃ k, lo' = some (.int k l)) → ((hi' = none ∧ h = n) ∨ ∃ k, hi' = some (.int k h)) → (Instr.sliceAt t (.slice A n c) lo' hi' none).run P W = .ok (.slice (if c = l.toNat then A else A.map (·.add (l.toNat * B.sz))) (h.toNat - l.toNat) (c - l.toNat)) W := by
    intro lo' hi' hl' hh'
    rcases hl' with ⟨rfl, rfl⟩ | ⟨k, rfl⟩ <;> rcases hh' with ⟨rfl, rfl⟩ | ⟨k', rfl⟩
    · simp [Instr.sliceAt, run_underlying ht, Instr.slice, Instr.sliceBounds, hsz]
    · simp [Instr.sliceAt, run_underlying ht, Instr.slice, Instr.sliceBounds, Instr.sliceBound, asIntOf, c1, hsz]
    · have c3 : (0 ≤ l ∧ l ≤ (n : Int)) := ⟨h0, h1⟩
      simp [Instr.sliceAt, run_underlying ht, Instr.slice, Instr.sliceBounds, Instr.sliceBound, asIntOf, c3, hsz]
    · simp [Instr.sliceAt, run_underlying ht, Instr.slice, Instr.sliceBounds, Instr.sliceBound, asIntOf, c1, c2, hsz]
      intro q
      exfalso
      omega
  have hrun := hsl (lo.map a.eval) (hi.map a.eval) (by
    rcases hlo with ⟨rfl, rfl⟩ | ⟨y, k, rfl, hy⟩
    · exact .inl ⟨rfl, rfl⟩
    · exact .inr ⟨k, by rw [Option.map_some, show a.eval y = .int k l from hy]⟩) (by
    rcases hhi with ⟨rfl, rfl⟩ | ⟨y, k, rfl, hy⟩
    · exact .inl ⟨rfl, rfl⟩
    · exact .inr ⟨k, by rw [Option.map_some, show a.eval y = .int k h from hy]⟩)
  simp only [execOp, ho, e0, Option.map_none, Sem.run_bind, hrun, Result.andThen_ok, Sem.run_pure]

/-! ### what is appended -/
structure Src (P : Program) (φ : Emb) (H : Heap) (W : World) (u : Value) (sz m : Nat) (gx : Nat → List AV) (news : List Value) : Prop where
  val : ∃ A c, u = .slice A m c ∧ (m ≠ 0 → ∃ ad, A = some ad ∧ ∀ j y, news[j]? = some y → W.cell? (ad.add j) = some y)
  len : news.length = m * sz
  one : ∀ y ∈ news, y.oneCell' = true
  rel : ∀ i j x, i < m → (gx i)[j]? = some x → ∃ y, news[i * sz + j]? = some y ∧ VRel φ H x y
theorem src_nil (sz : Nat) (gx : Nat → List AV) : Src P φ H W (.slice none 0 0) sz 0 gx [] :=
  ⟨⟨none, 0, rfl, fun h => absurd rfl h⟩, by simp, fun _ h => (by cases h), fun _ _ _ h => by omega⟩
theorem row_at (hS : Sim φ H base W) {b : Nat} {B : Blk} (hB : H[b]? = some B) (p : Nat) : ∀ m, p + m ≤ B.len → ∃ news : List Value, news.length = m * B.sz ∧ W.rangeAt (φ b).blk ((φ b).off + p * B.sz) news ∧ (∀ y ∈ news, y.oneCell' = true) ∧ ∀ i j x, i < m → (B.get (p + i))[j]? = some x → ∃ y, news[i * B.sz + j]? = some y ∧ VRel φ H x y := by
  intro m
  induction m with
  | zero => intro _; exact ⟨[], by simp, fun k v hv => (by simp at hv), fun _ h => (by cases h), fun _ _ _ h => by omega⟩
  | succ m ih =>
    intro hm
    obtain ⟨news, n1, n2, n3, n4⟩ := ih (by omega)
    obtain ⟨us, u1, u2, u3, u4⟩ := cells_at hS hB (i := p + m) (by omega) B.sz 0 (by omega)
    have hwl := hS.wf b B hB (p + m) (by omega)
    rw [List.drop_zero, ← hwl, List.take_length] at u2
    refine ⟨news ++ us, by rw [List.length_append, n1, u1, Nat.add_mul, Nat.one_mul], ?_, ?_, ?_⟩
    · intro k v hv
      by_cases hk : k < news.length
      · rw [List.getElem?_append_left hk] at hv
        exact n2 k v hv
      · rw [List.getElem?_append_right (by omega)] at hv
        have := u3 _ v hv
        rw [show (φ b).off + p * B.sz + k = (φ b).off + ((p + m) * B.sz + 0) + (k - news.length) by rw [n1, Nat.add_mul]; rw [n1] at hk; omega]
        exact this
    · intro y hy
      rcases List.mem_append.1 hy with hy | hy
      · exact n3 y hy
      · exact u4 y hy
    · intro i j x hi hx
      by_cases e : i = m
      · subst e
        have hj : j < B.sz := by rw [← hwl]; exact (List.getElem?_eq_some_iff.1 hx).1
        obtain ⟨y, y1, y2⟩ := VRels.get u2 j x hx
        exact ⟨y, by rw [List.getElem?_append_right (by omega), n1, show i * B.sz + j - i * B.sz = j by omega]; exact y1, y2⟩
      · obtain ⟨y, y1, y2⟩ := n4 i j x (by omega) hx
        exact ⟨y, by rw [List.getElem?_append_left (List.getElem?_eq_some_iff.1 y1).1]; exact y1, y2⟩
theorem src_sl (hS : Sim φ H base W) {b p m v : Nat} {u : Value} {B : Blk} (hx : VRel φ H (.sl b p m v) u) (hB : H[b]? = some B) (hv : B.ver = v) : ∃ news, Src P φ H W u B.sz m (fun i => B.get (p + i)) news := by
  obtain ⟨hl, _⟩ := sl_at hx hB hv
  obtain ⟨A, c, e1, e2, e3⟩ := sl_val hS hx hB hv
  obtain ⟨news, n1, n2, n3, n4⟩ := row_at hS hB p m hl
  refine ⟨news, ⟨A, c, e1, fun hm => ⟨_, e3 hm, fun j y hy => ?_⟩⟩, n1, n3, n4⟩
  rw [add_at]
  exact n2 j y hy

/-! ### a row that moves -/
theorem Sim.renew {W' : World} (hS : Sim φ H base W) {b : Nat} {B : Blk} (hB : H[b]? = some B) (B' : Blk) (hsz : B'.sz = B.sz) (ht : B'.t = B.t) (hown : B.own = true) (ho' : B'.own = true) (hv : B.ver < B'.ver) (p : Plc) (hb : Below base W W')
    (hoth : ∀ k B0, H[k]? = some B0 → B0.own = true → (φ k).none = false → k ≠ b → W'.heap[(φ k).blk]? = W.heap[(φ k).blk]? ∧ (p.none = false → (φ k).blk ≠ p.blk))
    (hat : (p.none = true ∧ B'.len = 0) ∨ (p.none = false ∧ ∃ cur, Heaped W' p.blk cur B.t ∧ p.off = 0 ∧ cur.size = p.cap * B.sz ∧ B'.len ≤ p.cap ∧ p.cap ≤ maxLen ∧ base ≤ p.blk ∧ ∀ i j u, i < B'.len → (B'.get i)[j]? = some u → ∃ x, cur[i * B.sz + j]? = some x ∧ VRel φ H u x ∧ x.oneCell' = true))
    (hwf : ∀ i, i < B'.len → (B'.get i).length = B.sz) : Ext φ H (φ.upd b p) (H.set b B') ∧ Sim (φ.upd b p) (H.set b B') base W' := by
  have hbl : b < H.length := (List.getElem?_eq_some_iff.1 hB).1
  have hx : Ext φ H (φ.upd b p) (H.set b B') := by
    intro k B0 hB0
    by_cases e : b = k
    · subst e
      rw [hB] at hB0
      obtain rfl := Option.some.inj hB0
      exact ⟨B', List.getElem?_set_self hbl, hsz, by rw [ho', hown], ht, by omega, fun q => by omega, fun q => by omega⟩
    · exact ⟨B0, by rw [List.getElem?_set_ne e]; exact hB0, rfl, rfl, rfl, Nat.le_refl _, fun _ => Nat.le_refl _, fun _ => φ.upd_ne _ (fun q => e q.symm)⟩
  refine ⟨hx, hS.step hx hb b ?_ ?_⟩
  · intro k B0 hB0 hne
    rw [List.getElem?_set_ne (fun e => hne e.symm)] at hB0
    exact ⟨hB0, φ.upd_ne _ hne, fun ho0 hn0 => (hoth k B0 hB0 ho0 hn0 hne).1⟩
  · intro B0 hB0
    rw [List.getElem?_set_self hbl] at hB0
    obtain rfl := Option.some.inj hB0
    refine ⟨ho', ?_, fun i hi => by rw [hsz]; exact hwf i hi, ?_⟩
    · unfold OwnAt
      rw [Emb.upd_self, hsz, ht]
      rcases hat with q | ⟨q, cur, c1, c2, c3, c4, c5, c6, c7⟩
      · exact .inl q
      · refine .inr ⟨q, cur, c1, c2, c3, c4, c5, c6, fun i j u hi hu => ?_⟩
        obtain ⟨x, x1, x2, x3⟩ := c7 i j u hi hu
        exact ⟨x, x1, VRel.ext hx _ _ x2, x3⟩
    · rw [Emb.upd_self]
      intro hp k B0 hB0 ho0 hn0 hne
      rw [List.getElem?_set_ne (fun e => hne e.symm)] at hB0
      exact (hoth k B0 hB0 ho0 hn0 hne).2 hp
end
end Go.Proofs.YtjokedpaidmjoaaGreatDoor.Am
namespace Go.Proofs.YtjokedpaidmjoaaGreatDoor.Am
open Go Go.RowKit
section
variable {P : Program} {φ : Emb} {H : Heap} {base nt : Nat} {W : World} {o : Oper} {a : Act} {next : Act → World → Prop} {Q : Exit → Act → World → Prop}

theorem Sim.drew (hS : Sim φ H base W) : Sim φ H base W.drew := hS.same ((Below.refl _ _).drew) (fun _ _ _ _ _ => rfl)
theorem run_append_zero {t ty e : TypeId} (ht : P.underlying t = some (.slice e)) {q : TypeInfo} (hi : P.info? e = some q) (A A2 : Option Addr) (n c c2 : Nat) (hn : n ≤ c) : (Builtin.append_ #[t, t] ty #[.slice A n c, .slice A2 0 c2]).run P W = .ok (.slice A n c) W := by
  have hf : (Builtin.firstCells q.size 0 (.slice A2 0 c2)).run P W = .ok #[] W := by
    cases A2 with
    | none => simp [Builtin.firstCells]
    | some b => simp [Builtin.firstCells, loadCells, loadCellsFrom]
  cases A with
  | none => simp [Builtin.append_, run_underlying ht, Go.sizeOf, typeInfo, hi, Builtin.lenOf, hn, hf]
  | some b => simp [Builtin.append_, run_underlying ht, Go.sizeOf, typeInfo, hi, Builtin.lenOf, hn, hf, storeCells]
def appBlk (B : Blk) (m : Nat) (gx : Nat → List AV) : Blk := { t := B.t, sz := B.sz, own := true, ver := B.ver + 1, len := B.len + m, get := fun k => if k < B.len then B.get k else gx (k - B.len) }
def newRowBlk (e : TypeId) (sz m : Nat) (gx : Nat → List AV) : Blk := { t := e, sz := sz, own := true, ver := 0, len := m, get := gx }
theorem grown_bounds {W : World} {need old : Nat} {e : TypeId} (h : need ≤ maxLen) : need ≤ grownCap W need old e ∧ grownCap W need old e ≤ maxLen := ⟨grownCap_ge W need old e, grownCap_le_maxLen W need old e h⟩
/-- cells: olds, then news, then whatever. -/
theorem two_rows {B : Blk} {gx : Nat → List AV} {m : Nat} {olds news rest : List Value} (ho : olds.length = B.len * B.sz) (hn : news.length = m * B.sz)
    (hwf : ∀ i, i < B.len → (B.get i).length = B.sz) (hxw : ∀ i, i < m → (gx i).length = B.sz)
    (h1 : ∀ i j u, i < B.len → (B.get i)[j]? = some u → ∃ x, olds[i * B.sz + j]? = some x ∧ VRel φ H u x ∧ x.oneCell' = true) (h2 : ∀ i j u, i < m → (gx i)[j]? = some u → ∃ x, news[i * B.sz + j]? = some x ∧ VRel φ H u x) (h3 : ∀ y ∈ news, y.oneCell' = true) :
    ∀ i j u, i < (appBlk B m gx).len → ((appBlk B m gx).get i)[j]? = some u → ∃ x, (olds ++ news ++ rest)[i * B.sz + j]? = some x ∧ VRel φ H u x ∧ x.oneCell' = true := by
  intro i j u hi hu
  have hi' : i < B.len + m := hi
  have hu' : (if i < B.len then B.get i else gx (i - B.len))[j]? = some u := hu
  by_cases hlt : i < B.len
  · rw [if_pos hlt] at hu'
    obtain ⟨x, x1, x2, x3⟩ := h1 i j u hlt hu'
    exact ⟨x, by rw [List.append_assoc, List.getElem?_append_left (List.getElem?_eq_some_iff.1 x1).1]; exact x1, x2, x3⟩
  · rw [if_neg hlt] at hu'
    obtain ⟨x, x1, x2⟩ := h2 (i - B.len) j u (by omega) hu'
    have he : i * B.sz = B.len * B.sz + (i - B.len) * B.sz := by rw [← Nat.add_mul]; congr 1; omega
    have hk := (List.getElem?_eq_some_iff.1 x1).1
    refine ⟨x, ?_, x2, h3 x (List.mem_of_getElem? x1)⟩
    rw [List.getElem?_append_left (by rw [List.length_append, ho]; omega), List.getElem?_append_right (by omega), ho, show i * B.sz + j - B.len * B.sz = (i - B.len) * B.sz + j by omega]
    exact x1
theorem app_wf {B : Blk} {gx : Nat → List AV} {m : Nat} (hwf : ∀ i, i < B.len → (B.get i).length = B.sz) (hxw : ∀ i, i < m → (gx i).length = B.sz) : ∀ i, i < (appBlk B m gx).len → ((appBlk B m gx).get i).length = B.sz := by
  intro i hi
  have hi' : i < B.len + m := hi
  show (if i < B.len then B.get i else gx (i - B.len)).length = B.sz
  split
  · rename_i h; exact hwf i h
  · exact hxw _ (by omega)

theorem run_append_roomG {P : Program} (w : World) (t ty e : TypeId) (i : TypeInfo) (ht : P.underlying t = some (.slice e)) (hi : P.info? e = some i)
    (g sLen sCap : Nat) (cur : Array Value) (hg : Heaped w g cur e)
    (a : Addr) (m c : Nat) (news : List Value) (hl : news.length = m * i.size) (hnews : ∀ j u, news[j]? = some u → w.cell? (a.add j) = some u) (h1 : ∀ u ∈ news, u.oneCell' = true)
    (hroom : sLen + m ≤ sCap) (hfit : sLen * i.size + news.length ≤ cur.size) :
    (Builtin.append_ #[t, t] ty #[.slice (some ⟨g, 0, none⟩) sLen sCap, .slice (some a) m c]).run P w =
      .ok (.slice (some ⟨g, 0, none⟩) (sLen + m) sCap) (w.setRow g (cur.toList.take (sLen * i.size) ++ news ++ cur.toList.drop (sLen * i.size + news.length)).toArray) := by
  have hf := run_firstCells_some (P := P) w i.size m a m c news hl hnews
  have hst := run_storeCells_atG P g (sLen * i.size) e news 0 cur w hg (by simpa using hfit) h1
  simp only [Nat.add_zero] at hst
  simp [Builtin.append_, run_underlying ht, Go.sizeOf, typeInfo, hi, Builtin.lenOf, hroom, hf, Addr.add_lit, hst]
/-- append upon nil. -/
theorem l_appendNil {s x : Operand} {t e : TypeId} (ho : o.op = .call { callee := .builtin .append, args := #[s, x], argTypes := #[t, t] }) (hS : Sim φ H base W) (hs : VRel φ H .nilsl (a.eval s)) (ht : P.underlying t = some (.slice e)) {te : Ty} (hte : TyOk P e te)
    {m : Nat} {gx : Nat → List AV} {news : List Value} (hsrc : Src P φ H W (a.eval x) te.size m gx news) (hxw : ∀ i, i < m → (gx i).length = te.size) (h63 : m ≤ maxLen) (hby : m * te.bytes ≤ 140737488355328)
    (K : Kont φ H base W o a next (.sl H.length 0 m 0) (H ++ [newRowBlk e te.size m gx])) : o.wp P a W next Q := by
  obtain ⟨q, hq, hqz, hqs, hqb⟩ := hte.get
  obtain ⟨A2, c2, e2, hrd⟩ := hsrc.val
  have es : a.eval s = .slice none 0 0 := hs
  have hexec : ∀ {u W1}, (Builtin.append_ #[t, t] o.type #[.slice none 0 0, .slice A2 m c2]).run P W = .ok u W1 → (execOp a.eval o).run P W = .ok (.value u) W1 := by
    intro u W1 h
    simp only [execOp, ho, resolve, invoke, builtin, Sem.run_bind, Sem.run_pure, Result.andThen_ok, List.map_toArray, List.map_cons, List.map_nil, es, e2, h]
  by_cases hm : m = 0
  · subst hm
    refine w_value (hexec (run_append_zero ht hq _ _ _ _ _ (Nat.le_refl _))) (K (φ.upd H.length ⟨0, 0, 0, true⟩) W _ ?_ ?_ ?_ (Below.refl _ _))
    · intro b B0 hB
      have hlt : b < H.length := (List.getElem?_eq_some_iff.1 hB).1
      exact ⟨B0, by rw [List.getElem?_append_left hlt]; exact hB, rfl, rfl, rfl, Nat.le_refl _, fun _ => Nat.le_refl _, fun _ => φ.upd_ne _ (by omega)⟩
    · have hx : Ext φ H (φ.upd H.length ⟨0, 0, 0, true⟩) (H ++ [newRowBlk e te.size 0 gx]) := by
        intro b B0 hB
        have hlt : b < H.length := (List.getElem?_eq_some_iff.1 hB).1
        exact ⟨B0, by rw [List.getElem?_append_left hlt]; exact hB, rfl, rfl, rfl, Nat.le_refl _, fun _ => Nat.le_refl _, fun _ => φ.upd_ne _ (by omega)⟩
      refine hS.step hx (Below.refl _ _) H.length ?_ ?_
      · intro b B0 hB hne
        have hlt : b < H.length := by
          have := (List.getElem?_eq_some_iff.1 hB).1
          rw [List.length_append] at this; simp at this; omega
        rw [List.getElem?_append_left hlt] at hB
        exact ⟨hB, φ.upd_ne _ hne, fun _ _ => rfl⟩
      · intro B0 hB
        rw [List.getElem?_append_right (Nat.le_refl _), Nat.sub_self] at hB
        simp at hB
        subst hB
        refine ⟨rfl, .inl ⟨by rw [Emb.upd_self], rfl⟩, fun i hi => (by cases hi), fun h => ?_⟩
        rw [Emb.upd_self] at h
        cases h
    · exact sl_mk (B := newRowBlk e te.size 0 gx) (by simp) rfl (Nat.le_refl _) (.inl ⟨rfl, by rw [Emb.upd_self], rfl, rfl, rfl⟩)
  · obtain ⟨ad, rfl, hcell⟩ := hrd hm
    have hr := run_append_nil (P := P) W t o.type e q te.zval ht hq hqz ad m c2 news (by rw [hsrc.len, hqs]) hcell (by omega) (by simp only [maxLen] at h63; omega) (by rw [hqb]; omega)
    have hg := grown_bounds (W := W) (old := 0) (e := e) h63
    have hzs : te.zval.cells.size = te.size := by rw [← Array.length_toList, hte.zcells, List.length_map, hte.size]
    obtain ⟨k1, k2, k3⟩ := hS.drew.new (newRowBlk e te.size m gx) (news.toArray ++ Builtin.zeroCells te.zval.cells (grownCap W m 0 e - m)) (grownCap W m 0 e) rfl (by
        simp only [Array.size_append, List.size_toArray, size_zeroCells, hzs, hsrc.len, ← Nat.add_mul]
        show _ = _ * te.size
        congr 1
        omega) hg.1 hg.2 (fun i j u hi hu => by
          obtain ⟨y, y1, y2⟩ := hsrc.rel i j u hi hu
          refine ⟨y, ?_, y2, hsrc.one y (List.mem_of_getElem? y1)⟩
          have hk := (List.getElem?_eq_some_iff.1 y1).1
          show (news.toArray ++ _)[i * te.size + j]? = some y
          rw [Array.getElem?_append_left (by simpa using hk)]
          simpa using y1) hxw
    refine w_value (hexec hr) (K _ _ _ k1 k2 ?_ (((Below.refl base W).drew).trans k3))
    refine sl_mk (B := newRowBlk e te.size m gx) (by simp) rfl (by show 0 + m ≤ m; omega) (.inr ⟨fun _ => by rw [Emb.upd_self], hg.1, fun _ => ?_, fun _ => by rw [Emb.upd_self]; simp⟩)
    rw [Emb.upd_self]
    simp
/-- append upon a row of the call's own, to its end. -/
theorem l_append {s x : Operand} {t e : TypeId} (ho : o.op = .call { callee := .builtin .append, args := #[s, x], argTypes := #[t, t] }) (hS : Sim φ H base W) {b n v : Nat} {B : Blk} (hs : VRel φ H (.sl b 0 n v) (a.eval s)) (hB : H[b]? = some B) (hv : B.ver = v) (hown : B.own = true) (hn : n = B.len) (hBt : B.t = e) (ht : P.underlying t = some (.slice e)) {te : Ty} (hte : TyOk P e te) (hsz : te.size = B.sz)
    {m : Nat} {gx : Nat → List AV} {news : List Value} (hsrc : Src P φ H W (a.eval x) te.size m gx news) (hxw : ∀ i, i < m → (gx i).length = te.size) (h63 : B.len + m ≤ maxLen) (hby : (B.len + m) * te.bytes ≤ 140737488355328)
    (K : Kont φ H base W o a next (.sl b 0 (B.len + m) (B.ver + 1)) (H.set b (appBlk B m gx))) : o.wp P a W next Q := by
  subst hn
  obtain ⟨q, hq, hqz, hqs, hqb⟩ := hte.get
  obtain ⟨A2, c2, e2, hrd⟩ := hsrc.val
  obtain ⟨hl, hcase⟩ := sl_at hs hB hv
  have hwf := hS.wf b B hB
  have hbl : b < H.length := (List.getElem?_eq_some_iff.1 hB).1
  rw [hsz] at hsrc hxw
  have hzs : te.zval.cells.size = B.sz := by rw [← Array.length_toList, hte.zcells, List.length_map, hte.size, hsz]
  have hset : (H.set b (appBlk B m gx))[b]? = some (appBlk B m gx) := List.getElem?_set_self hbl
  -- the row that is made anew
  have grow : ∀ (olds : List Value) (old : Nat), olds.length = B.len * B.sz → (∀ i j u, i < B.len → (B.get i)[j]? = some u → ∃ x, olds[i * B.sz + j]? = some x ∧ VRel φ H u x ∧ x.oneCell' = true) → (execOp a.eval o).run P W = .ok (.value (.slice (some ⟨W.heap.size, 0, none⟩) (B.len + m) (grownCap W (B.len + m) old e))) (W.drew.alloc (.cells (olds.toArray ++ news.toArray ++ Builtin.zeroCells te.zval.cells (grownCap W (B.len + m) old e - (B.len + m))) e)) → o.wp P a W next Q := by
    intro olds old h1 h2 hr
    have hg := grown_bounds (W := W) (old := old) (e := e) h63
    have hb : Below base W (W.drew.alloc (.cells (olds.toArray ++ news.toArray ++ Builtin.zeroCells te.zval.cells (grownCap W (B.len + m) old e - (B.len + m))) e)) := ((Below.refl base W).drew).alloc hS.big _
    obtain ⟨k1, k2⟩ := hS.renew hB (appBlk B m gx) rfl rfl hown rfl (Nat.lt_succ_self _) ⟨W.heap.size, 0, grownCap W (B.len + m) old e, false⟩ hb
      (fun k B0 hB0 ho0 hn0 _ => by
        rcases hS.ow k B0 hB0 ho0 with z | ⟨_, cur0, z, _⟩
        · rw [hn0] at z; cases z.1
        · have hlt := z.lt
          exact ⟨heap_alloc_old W.drew _ _ hlt, fun _ => Nat.ne_of_lt hlt⟩)
      (.inr ⟨rfl, _, by rw [hBt]; exact .of (heap_alloc_new W.drew _), rfl, by
        simp only [Array.size_append, List.size_toArray, size_zeroCells, hzs, hsrc.len, h1, ← Nat.add_mul]
        congr 1
        omega, hg.1, hg.2, hS.big, fun i j u hi hu => by
          have := two_rows (rest := (Builtin.zeroCells te.zval.cells (grownCap W (B.len + m) old e - (B.len + m))).toList) h1 hsrc.len hwf hxw h2 hsrc.rel hsrc.one i j u hi hu
          obtain ⟨x, x1, x2⟩ := this
          refine ⟨x, ?_, x2⟩
          rw [← Array.getElem?_toList]
          simpa using x1⟩)
      (app_wf hwf hxw)
    refine w_value hr (K _ _ _ k1 k2 ?_ hb)
    refine sl_mk hset rfl (by show 0 + _ ≤ _; rw [Nat.zero_add]; exact Nat.le_refl _) (.inr ⟨fun _ => by rw [Emb.upd_self], hg.1, fun _ => ?_, fun _ => by rw [Emb.upd_self]; simp⟩)
    rw [Emb.upd_self]
    simp
  rcases hcase with ⟨_, hnone, e1⟩ | ⟨hnone, A, c, e1, hnc, hA, hcap⟩
  · -- nowhere so far
    have h0 : B.len = 0 := by
      rcases hS.ow b B hB hown with z | z
      · exact z.2
      · rw [hnone] at z; cases z.1
    have hexec : ∀ {u W1}, (Builtin.append_ #[t, t] o.type #[.slice none 0 0, .slice A2 m c2]).run P W = .ok u W1 → (execOp a.eval o).run P W = .ok (.value u) W1 := by
      intro u W1 h
      simp only [execOp, ho, resolve, invoke, builtin, Sem.run_bind, Sem.run_pure, Result.andThen_ok, List.map_toArray, List.map_cons, List.map_nil, e1, e2, h]
    by_cases hm : m = 0
    · subst hm
      obtain ⟨k1, k2⟩ := hS.renew (W' := W) hB (appBlk B 0 gx) rfl rfl hown rfl (Nat.lt_succ_self _) (φ b) (Below.refl _ _) (fun k B0 hB0 ho0 hn0 hne => ⟨rfl, fun hz => by rw [hnone] at hz; cases hz⟩) (.inl ⟨hnone, by show B.len + 0 = 0; omega⟩) (app_wf hwf hxw)
      refine w_value (hexec (run_append_zero ht hq _ _ _ _ _ (Nat.le_refl _))) (K _ _ _ k1 k2 ?_ (Below.refl _ _))
      have e0 : B.len + 0 = 0 := by omega
      rw [e0]
      exact sl_mk (φ := φ.upd b (φ b)) (n := 0) hset rfl (Nat.zero_le _) (.inl ⟨rfl, by rw [Emb.upd_self]; exact hnone, rfl, rfl, rfl⟩)
    · obtain ⟨ad, rfl, hcell⟩ := hrd hm
      have hr := run_append_nil (P := P) W t o.type e q te.zval ht hq hqz ad m c2 news (by rw [hsrc.len, hqs, hsz]) hcell (by omega) (by simp only [maxLen] at h63; omega) (by rw [hqb]; rw [h0, Nat.zero_add] at hby; omega)
      refine grow [] 0 (by rw [h0]; simp) (fun i j u hi => by omega) ?_
      have h1 := hexec hr
      rw [h0, Nat.zero_add]
      simpa using h1
  · have hA := hA (.inr ⟨hown, .inl rfl⟩)
    rw [Nat.zero_mul] at hA
    rcases hS.ow b B hB hown with z | ⟨_, cur, c1, c0, c3, c4, c5, c6, c7⟩
    · rw [hnone hown] at z; cases z.1
    rw [c0] at hA
    have hcap := hcap hown
    rw [Nat.zero_add] at hcap
    subst hA
    rw [hBt] at c1
    have hexec : ∀ {u W1}, (Builtin.append_ #[t, t] o.type #[.slice (some ⟨(φ b).blk, 0, none⟩) B.len c, .slice A2 m c2]).run P W = .ok u W1 → (execOp a.eval o).run P W = .ok (.value u) W1 := by
      intro u W1 h
      simp only [execOp, ho, resolve, invoke, builtin, Sem.run_bind, Sem.run_pure, Result.andThen_ok, List.map_toArray, List.map_cons, List.map_nil, e1, e2, h]
    by_cases hm : m = 0
    · subst hm
      have hnews : news = [] := List.eq_nil_of_length_eq_zero (by rw [hsrc.len]; simp)
      obtain ⟨k1, k2⟩ := hS.renew (W' := W) hB (appBlk B 0 gx) rfl rfl hown rfl (Nat.lt_succ_self _) (φ b) (Below.refl _ _) (fun k B0 hB0 ho0 hn0 hne => ⟨rfl, fun hz => hS.inj k b B0 B hB0 hB ho0 hown hn0 hz hne⟩)
        (.inr ⟨hnone hown, cur, by rw [hBt]; exact c1, c0, c3, by show B.len + 0 ≤ _; omega, c5, c6, fun i j u hi hu => by
          have hi' : i < B.len := hi
          have hu' : (if i < B.len then B.get i else gx (i - B.len))[j]? = some u := hu
          rw [if_pos hi'] at hu'
          exact c7 i j u hi' hu'⟩) (app_wf hwf hxw)
      refine w_value (hexec (run_append_zero ht hq _ _ _ _ _ hnc)) (K _ _ _ k1 k2 ?_ (Below.refl _ _))
      refine sl_mk hset rfl (by show 0 + _ ≤ _; rw [Nat.zero_add]; exact Nat.le_refl _) (.inr ⟨fun _ => by rw [Emb.upd_self]; exact hnone hown, by omega, fun _ => ?_, fun _ => by rw [Emb.upd_self]; omega⟩)
      rw [Emb.upd_self, c0]
      simp
    · obtain ⟨ad, rfl, hcell⟩ := hrd hm
      have holds : (cur.toList.take (B.len * B.sz)).length = B.len * B.sz := by
        rw [List.length_take, Array.length_toList, c3]
        have := Nat.mul_le_mul_right B.sz c4
        omega
      have hold2 : ∀ i j u, i < B.len → (B.get i)[j]? = some u → ∃ x, (cur.toList.take (B.len * B.sz))[i * B.sz + j]? = some x ∧ VRel φ H u x ∧ x.oneCell' = true := by
        intro i j u hi hu
        obtain ⟨x, x1, x2⟩ := c7 i j u hi hu
        have hj : j < B.sz := by rw [← hwf i hi]; exact (List.getElem?_eq_some_iff.1 hu).1
        have hlt := idx_le (sz := B.sz) (j := j) (n := 1) hi (Nat.le_refl B.len) (by omega)
        exact ⟨x, by rw [List.getElem?_take_of_lt (by omega), Array.getElem?_toList]; exact x1, x2⟩
      by_cases hroom : B.len + m ≤ c
      · have hfit : B.len * q.size + news.length ≤ cur.size := by
          rw [hsrc.len, hqs, hsz, c3, ← Nat.add_mul, ← hcap]
          exact Nat.mul_le_mul_right _ hroom
        have hr := run_append_roomG (P := P) W t o.type e q ht hq (φ b).blk B.len c cur c1 ad m c2 news (by rw [hsrc.len, hqs, hsz]) hcell hsrc.one hroom hfit
        rw [hqs, hsz] at hr hfit
        have hb : Below base W (W.setRow (φ b).blk (cur.toList.take (B.len * B.sz) ++ news ++ cur.toList.drop (B.len * B.sz + news.length)).toArray) := ⟨rfl, rfl, rfl, by simp, fun k hk => setRow_other W (φ b).blk k _ (by omega)⟩
        obtain ⟨k1, k2⟩ := hS.renew hB (appBlk B m gx) rfl rfl hown rfl (Nat.lt_succ_self _) (φ b) hb
          (fun k B0 hB0 ho0 hn0 hne => by
            have hne2 := hS.inj k b B0 B hB0 hB ho0 hown hn0 (hnone hown) hne
            exact ⟨setRow_other W _ _ _ hne2, fun _ => hne2⟩)
          (.inr ⟨hnone hown, _, by rw [hBt]; exact c1.set (by
            simp only [List.size_toArray, List.length_append, holds, List.length_drop, Array.length_toList]
            omega), c0, by
            simp only [List.size_toArray, List.length_append, holds, List.length_drop, Array.length_toList]
            omega, by show B.len + m ≤ _; omega, c5, c6, fun i j u hi hu => by
              have := two_rows (rest := cur.toList.drop (B.len * B.sz + news.length)) holds hsrc.len hwf hxw hold2 hsrc.rel hsrc.one i j u hi hu
              rwa [List.getElem?_toArray]⟩)
          (app_wf hwf hxw)
        refine w_value (hexec hr) (K _ _ _ k1 k2 ?_ hb)
        refine sl_mk hset rfl (by show 0 + _ ≤ _; rw [Nat.zero_add]; exact Nat.le_refl _) (.inr ⟨fun _ => by rw [Emb.upd_self]; exact hnone hown, hroom, fun _ => ?_, fun _ => by rw [Emb.upd_self]; omega⟩)
        rw [Emb.upd_self, c0]
        simp
      · have hr := run_append_grow (P := P) W t o.type e q te.zval ht hq hqz ⟨(φ b).blk, 0, none⟩ B.len c (cur.toList.take (B.len * B.sz)) (by rw [holds, hqs, hsz]) (fun j y hy => by
            rw [add_at, Nat.zero_add]
            have hlt := (List.getElem?_eq_some_iff.1 hy).1
            rw [holds] at hlt
            rw [List.getElem?_take_of_lt hlt, Array.getElem?_toList] at hy
            rw [c1.cell, hy]) ad m c2 news (by rw [hsrc.len, hqs, hsz]) hcell (by omega) (by simp only [maxLen] at h63; omega) (growslice_fits (by omega) (by rw [hqb]; exact hby))
        exact grow _ c holds hold2 (hexec hr)
/-- A string's bytes, as elements. -/
def strGet (s : ByteArray) (i : Nat) : List AV := [.int .u8 (byteAt s i)]
theorem strGet_rel (z : ByteArray) : ∀ i j u, i < z.size → (strGet z i)[j]? = some u → ∃ x, (Lib.strCells z)[i * 1 + j]? = some x ∧ VRel φ H u x := by
  intro i j u hi hu
  cases j with
  | succ j => simp [strGet] at hu
  | zero =>
    simp [strGet] at hu
    subst hu
    have hl : i < z.data.toList.length := by rw [Array.length_toList]; exact hi
    refine ⟨.int .u8 (byteAt z i), ?_, rfl⟩
    unfold Lib.strCells
    rw [Nat.mul_one, Nat.add_zero, List.getElem?_map, List.getElem?_eq_getElem hl]
    simp only [Option.map_some]
    congr 1
    unfold byteAt
    rw [Int.toNat_natCast, getElem?_pos z i hi]
    rfl
theorem run_append_roomS {P : Program} (w : World) (t u ty e : TypeId) (i : TypeInfo) (ht : P.underlying t = some (.slice e)) (hu : P.underlying u = some .string) (hi : P.info? e = some i) (hs1 : i.size = 1)
    (g sLen sCap : Nat) (cur : Array Value) (hg : Heaped w g cur e) (s : ByteArray) (hroom : sLen + s.size ≤ sCap) (hfit : sLen + s.size ≤ cur.size) :
    (Builtin.append_ #[t, u] ty #[.slice (some ⟨g, 0, none⟩) sLen sCap, .string s]).run P w =
      .ok (.slice (some ⟨g, 0, none⟩) (sLen + s.size) sCap) (w.setRow g (cur.toList.take sLen ++ Lib.strCells s ++ cur.toList.drop (sLen + s.size)).toArray) := by
  have hf := Lib.run_firstCells_string (P := P) w 1 s
  have hst := run_storeCells_atG P g sLen e (Lib.strCells s) 0 cur w hg (by simpa [Lib.strCells_length] using hfit) (Lib.strCells_oneCell s)
  simp only [Nat.add_zero, Lib.strCells_length] at hst
  simp [Builtin.append_, run_underlying ht, run_underlying hu, Go.sizeOf, typeInfo, hi, hs1, Builtin.lenOf, hroom, hf, Addr.add_lit, hst]
/-- append of a string's bytes upon a row of the call's own. -/
theorem l_appendS {s x : Operand} {t tu e : TypeId} (ho : o.op = .call { callee := .builtin .append, args := #[s, x], argTypes := #[t, tu] }) (hS : Sim φ H base W) {b n v : Nat} {B : Blk} (hs : VRel φ H (.sl b 0 n v) (a.eval s)) (hB : H[b]? = some B) (hv : B.ver = v) (hown : B.own = true) (hn : n = B.len) (hBt : B.t = e) (ht : P.underlying t = some (.slice e)) (htu : P.underlying tu = some .string) {te : Ty} (hte : TyOk P e te) (hsz : te.size = B.sz) (hs1 : te.size = 1)
    {z : ByteArray} (hx : VRel φ H (.str z) (a.eval x)) (hm : z.size ≠ 0) (h63 : B.len + z.size ≤ maxLen) (hby : (B.len + z.size) * te.bytes ≤ 140737488355328)
    (K : Kont φ H base W o a next (.sl b 0 (B.len + z.size) (B.ver + 1)) (H.set b (appBlk B z.size (strGet z)))) : o.wp P a W next Q := by
  subst hn
  obtain ⟨m, hmz⟩ : ∃ m, m = z.size := ⟨_, rfl⟩
  obtain ⟨gx, hgx⟩ : ∃ gx, gx = strGet z := ⟨_, rfl⟩
  obtain ⟨news, hnw⟩ : ∃ news, news = Lib.strCells z := ⟨_, rfl⟩
  have e2 : a.eval x = .string z := hx
  have hslen : news.length = m * B.sz := by rw [hnw, hmz, Lib.strCells_length, ← hsz, hs1, Nat.mul_one]
  have hone1 : ∀ y ∈ news, y.oneCell' = true := hnw ▸ Lib.strCells_oneCell z
  have hrel1 : ∀ i j u, i < m → (gx i)[j]? = some u → ∃ x, news[i * B.sz + j]? = some x ∧ VRel φ H u x := by
    rw [hnw, hgx, hmz, ← hsz, hs1]
    exact strGet_rel z
  have hxw : ∀ i, i < m → (gx i).length = B.sz := by
    intro i _
    rw [hgx, ← hsz, hs1]
    rfl
  rw [← hmz] at h63 hby hm K
  rw [← hgx] at K
  obtain ⟨q, hq, hqz, hqs, hqb⟩ := hte.get
  obtain ⟨hl, hcase⟩ := sl_at hs hB hv
  have hwf := hS.wf b B hB
  have hbl : b < H.length := (List.getElem?_eq_some_iff.1 hB).1
  have hzs : te.zval.cells.size = B.sz := by rw [← Array.length_toList, hte.zcells, List.length_map, hte.size, hsz]
  have hset : (H.set b (appBlk B m gx))[b]? = some (appBlk B m gx) := List.getElem?_set_self hbl
  -- the row that is made anew
  have grow : ∀ (olds : List Value) (old : Nat), olds.length = B.len * B.sz → (∀ i j u, i < B.len → (B.get i)[j]? = some u → ∃ x, olds[i * B.sz + j]? = some x ∧ VRel φ H u x ∧ x.oneCell' = true) → (execOp a.eval o).run P W = .ok (.value (.slice (some ⟨W.heap.size, 0, none⟩) (B.len + m) (grownCap W (B.len + m) old e))) (W.drew.alloc (.cells (olds.toArray ++ news.toArray ++ Builtin.zeroCells te.zval.cells (grownCap W (B.len + m) old e - (B.len + m))) e)) → o.wp P a W next Q := by
    intro olds old h1 h2 hr
    have hg := grown_bounds (W := W) (old := old) (e := e) h63
    have hb : Below base W (W.drew.alloc (.cells (olds.toArray ++ news.toArray ++ Builtin.zeroCells te.zval.cells (grownCap W (B.len + m) old e - (B.len + m))) e)) := ((Below.refl base W).drew).alloc hS.big _
    obtain ⟨k1, k2⟩ := hS.renew hB (appBlk B m gx) rfl rfl hown rfl (Nat.lt_succ_self _) ⟨W.heap.size, 0, grownCap W (B.len + m) old e, false⟩ hb
      (fun k B0 hB0 ho0 hn0 _ => by
        rcases hS.ow k B0 hB0 ho0 with z | ⟨_, cur0, z, _⟩
        · rw [hn0] at z; cases z.1
        · have hlt := z.lt
          exact ⟨heap_alloc_old W.drew _ _ hlt, fun _ => Nat.ne_of_lt hlt⟩)
      (.inr ⟨rfl, _, by rw [hBt]; exact .of (heap_alloc_new W.drew _), rfl, by
        simp only [Array.size_append, List.size_toArray, size_zeroCells, hzs, hslen, h1, ← Nat.add_mul]
        congr 1
        omega, hg.1, hg.2, hS.big, fun i j u hi hu => by
          have := two_rows (rest := (Builtin.zeroCells te.zval.cells (grownCap W (B.len + m) old e - (B.len + m))).toList) h1 hslen hwf hxw h2 hrel1 hone1 i j u hi hu
          obtain ⟨x, x1, x2⟩ := this
          refine ⟨x, ?_, x2⟩
          rw [← Array.getElem?_toList]
          simpa using x1⟩)
      (app_wf hwf hxw)
    refine w_value hr (K _ _ _ k1 k2 ?_ hb)
    refine sl_mk hset rfl (by show 0 + _ ≤ _; rw [Nat.zero_add]; exact Nat.le_refl _) (.inr ⟨fun _ => by rw [Emb.upd_self], hg.1, fun _ => ?_, fun _ => by rw [Emb.upd_self]; simp⟩)
    rw [Emb.upd_self]
    simp
  rcases hcase with ⟨_, hnone, e1⟩ | ⟨hnone, A, c, e1, hnc, hA, hcap⟩
  · -- nowhere so far
    have h0 : B.len = 0 := by
      rcases hS.ow b B hB hown with z | z
      · exact z.2
      · rw [hnone] at z; cases z.1
    have hexec : ∀ {u W1}, (Builtin.append_ #[t, tu] o.type #[.slice none 0 0, .string z]).run P W = .ok u W1 → (execOp a.eval o).run P W = .ok (.value u) W1 := by
      intro u W1 h
      simp only [execOp, ho, resolve, invoke, builtin, Sem.run_bind, Sem.run_pure, Result.andThen_ok, List.map_toArray, List.map_cons, List.map_nil, e1, e2, h]
    · skip
      have hr := run_append_nil_string (P := P) W t tu o.type e q te.zval ht htu hq hqz z (by omega) (by simp only [maxLen] at h63; omega) (by rw [hqb, ← hmz]; rw [h0, Nat.zero_add] at hby; omega)
      have e1' : (z.data.map fun b => Value.int .u8 b.toNat) = news.toArray := by
        rw [hnw]
        apply Array.ext'
        simp [Lib.strCells]
      rw [e1', ← hmz] at hr
      refine grow [] 0 (by rw [h0]; simp) (fun i j u hi => by omega) ?_
      have h1 := hexec hr
      rw [h0, Nat.zero_add]
      simpa using h1
  · have hA := hA (.inr ⟨hown, .inl rfl⟩)
    rw [Nat.zero_mul] at hA
    rcases hS.ow b B hB hown with z | ⟨_, cur, c1, c0, c3, c4, c5, c6, c7⟩
    · rw [hnone hown] at z; cases z.1
    rw [c0] at hA
    have hcap := hcap hown
    rw [Nat.zero_add] at hcap
    subst hA
    rw [hBt] at c1
    have hexec : ∀ {u W1}, (Builtin.append_ #[t, tu] o.type #[.slice (some ⟨(φ b).blk, 0, none⟩) B.len c, .string z]).run P W = .ok u W1 → (execOp a.eval o).run P W = .ok (.value u) W1 := by
      intro u W1 h
      simp only [execOp, ho, resolve, invoke, builtin, Sem.run_bind, Sem.run_pure, Result.andThen_ok, List.map_toArray, List.map_cons, List.map_nil, e1, e2, h]
    · skip
      have holds : (cur.toList.take (B.len * B.sz)).length = B.len * B.sz := by
        rw [List.length_take, Array.length_toList, c3]
        have := Nat.mul_le_mul_right B.sz c4
        omega
      have hold2 : ∀ i j u, i < B.len → (B.get i)[j]? = some u → ∃ x, (cur.toList.take (B.len * B.sz))[i * B.sz + j]? = some x ∧ VRel φ H u x ∧ x.oneCell' = true := by
        intro i j u hi hu
        obtain ⟨x, x1, x2⟩ := c7 i j u hi hu
        have hj : j < B.sz := by rw [← hwf i hi]; exact (List.getElem?_eq_some_iff.1 hu).1
        have hlt := idx_le (sz := B.sz) (j := j) (n := 1) hi (Nat.le_refl B.len) (by omega)
        exact ⟨x, by rw [List.getElem?_take_of_lt (by omega), Array.getElem?_toList]; exact x1, x2⟩
      by_cases hroom : B.len + m ≤ c
      · have hfit : B.len * q.size + news.length ≤ cur.size := by
          rw [hslen, hqs, hsz, c3, ← Nat.add_mul, ← hcap]
          exact Nat.mul_le_mul_right _ hroom
        have hr := run_append_roomS (P := P) W t tu o.type e q ht htu hq (by rw [hqs, hs1]) (φ b).blk B.len c cur c1 z (by omega) (by rw [hslen, hqs, hsz] at hfit; rw [← hsz, hs1] at hfit; omega)
        have hb1 : B.sz = 1 := by rw [← hsz, hs1]
        have hr : (Builtin.append_ #[t, tu] o.type #[.slice (some ⟨(φ b).blk, 0, none⟩) B.len c, .string z]).run P W = .ok (.slice (some ⟨(φ b).blk, 0, none⟩) (B.len + m) c) (W.setRow (φ b).blk (cur.toList.take (B.len * B.sz) ++ news ++ cur.toList.drop (B.len * B.sz + news.length)).toArray) := by
          rw [hr, hslen, hb1, Nat.mul_one, Nat.mul_one, hmz, hnw]
        rw [hqs, hsz] at hfit
        have hb : Below base W (W.setRow (φ b).blk (cur.toList.take (B.len * B.sz) ++ news ++ cur.toList.drop (B.len * B.sz + news.length)).toArray) := ⟨rfl, rfl, rfl, by simp, fun k hk => setRow_other W (φ b).blk k _ (by omega)⟩
        obtain ⟨k1, k2⟩ := hS.renew hB (appBlk B m gx) rfl rfl hown rfl (Nat.lt_succ_self _) (φ b) hb
          (fun k B0 hB0 ho0 hn0 hne => by
            have hne2 := hS.inj k b B0 B hB0 hB ho0 hown hn0 (hnone hown) hne
            exact ⟨setRow_other W _ _ _ hne2, fun _ => hne2⟩)
          (.inr ⟨hnone hown, _, by rw [hBt]; exact c1.set (by
            simp only [List.size_toArray, List.length_append, holds, List.length_drop, Array.length_toList]
            omega), c0, by
            simp only [List.size_toArray, List.length_append, holds, List.length_drop, Array.length_toList]
            omega, by show B.len + m ≤ _; omega, c5, c6, fun i j u hi hu => by
              have := two_rows (rest := cur.toList.drop (B.len * B.sz + news.length)) holds hslen hwf hxw hold2 hrel1 hone1 i j u hi hu
              rwa [List.getElem?_toArray]⟩)
          (app_wf hwf hxw)
        refine w_value (hexec hr) (K _ _ _ k1 k2 ?_ hb)
        refine sl_mk hset rfl (by show 0 + _ ≤ _; rw [Nat.zero_add]; exact Nat.le_refl _) (.inr ⟨fun _ => by rw [Emb.upd_self]; exact hnone hown, hroom, fun _ => ?_, fun _ => by rw [Emb.upd_self]; omega⟩)
        rw [Emb.upd_self, c0]
        simp
      · have hr := Lib.run_append_grow_string (P := P) W t tu o.type e q te.zval ht htu hq hqz ⟨(φ b).blk, 0, none⟩ B.len c (cur.toList.take (B.len * B.sz)) (by rw [holds, hqs, hsz]) (fun j y hy => by
            rw [add_at, Nat.zero_add]
            have hlt := (List.getElem?_eq_some_iff.1 hy).1
            rw [holds] at hlt
            rw [List.getElem?_take_of_lt hlt, Array.getElem?_toList] at hy
            rw [c1.cell, hy]) z (by omega) (by simp only [maxLen] at h63; omega) (growslice_fits (by omega) (by rw [hqb, ← hmz]; exact hby))
        rw [← hmz, ← hnw] at hr
        exact grow _ c holds hold2 (hexec hr)
/-- append of a string's bytes upon nil. -/
theorem l_appendNilS {s x : Operand} {t tu e : TypeId} (ho : o.op = .call { callee := .builtin .append, args := #[s, x], argTypes := #[t, tu] }) (hS : Sim φ H base W) (hs : VRel φ H .nilsl (a.eval s)) (ht : P.underlying t = some (.slice e)) (htu : P.underlying tu = some .string) {te : Ty} (hte : TyOk P e te) (hs1 : te.size = 1)
    {z : ByteArray} (hx : VRel φ H (.str z) (a.eval x)) (hm : z.size ≠ 0) (h63 : z.size ≤ maxLen) (hby : z.size * te.bytes ≤ 140737488355328)
    (K : Kont φ H base W o a next (.sl H.length 0 z.size 0) (H ++ [newRowBlk e te.size z.size (strGet z)])) : o.wp P a W next Q := by
  obtain ⟨q, hq, hqz, hqs, hqb⟩ := hte.get
  have e2 : a.eval x = .string z := hx
  have es : a.eval s = .slice none 0 0 := hs
  have hexec : ∀ {u W1}, (Builtin.append_ #[t, tu] o.type #[.slice none 0 0, .string z]).run P W = .ok u W1 → (execOp a.eval o).run P W = .ok (.value u) W1 := by
    intro u W1 h
    simp only [execOp, ho, resolve, invoke, builtin, Sem.run_bind, Sem.run_pure, Result.andThen_ok, List.map_toArray, List.map_cons, List.map_nil, es, e2, h]
  have hr := run_append_nil_string (P := P) W t tu o.type e q te.zval ht htu hq hqz z (by omega) (by simp only [maxLen] at h63; omega) (by rw [hqb]; omega)
  have e1 : (z.data.map fun b => Value.int .u8 b.toNat) = (Lib.strCells z).toArray := by
    apply Array.ext'
    simp [Lib.strCells]
  rw [e1] at hr
  have hg := grown_bounds (W := W) (old := 0) (e := e) h63
  have hzs : te.zval.cells.size = te.size := by rw [← Array.length_toList, hte.zcells, List.length_map, hte.size]
  obtain ⟨k1, k2, k3⟩ := hS.drew.new (newRowBlk e te.size z.size (strGet z)) ((Lib.strCells z).toArray ++ Builtin.zeroCells te.zval.cells (grownCap W z.size 0 e - z.size)) (grownCap W z.size 0 e) rfl (by
      simp only [Array.size_append, List.size_toArray, size_zeroCells, hzs, Lib.strCells_length]
      show _ = _ * te.size
      rw [hs1]
      omega) hg.1 hg.2 (fun i j u hi hu => by
        obtain ⟨y, y1, y2⟩ := strGet_rel (φ := φ) (H := H) z i j u hi hu
        refine ⟨y, ?_, y2, Lib.strCells_oneCell z y (List.mem_of_getElem? y1)⟩
        have hk := (List.getElem?_eq_some_iff.1 y1).1
        show ((Lib.strCells z).toArray ++ _)[i * te.size + j]? = some y
        rw [hs1, Array.getElem?_append_left (by simpa using hk)]
        simpa using y1) (fun i _ => by rw [show (newRowBlk e te.size z.size (strGet z)).sz = te.size from rfl, hs1]; rfl)
  refine w_value (hexec hr) (K _ _ _ k1 k2 ?_ (((Below.refl base W).drew).trans k3))
  refine sl_mk (B := newRowBlk e te.size z.size (strGet z)) (by simp) rfl (by show 0 + z.size ≤ z.size; omega) (.inr ⟨fun _ => by rw [Emb.upd_self], hg.1, fun _ => ?_, fun _ => by rw [Emb.upd_self]; simp⟩)
  rw [Emb.upd_self]
  simp
/-- '[]byte(s)'. -/
theorem l_strBytes {src dst e : TypeId} {x : Operand} (ho : o.op = .convert src dst x) (hS : Sim φ H base W) {s : ByteArray} (hx : VRel φ H (.str s) (a.eval x)) (hs : P.underlying src = some .string) (hd : P.underlying dst = some (.slice e)) (he : P.underlying e = some (.int .u8)) {te : Ty} (hte : te.size = 1) (h63 : s.size ≤ maxLen)
    (K : Kont φ H base W o a next (.sl H.length 0 s.size 0) (H ++ [newRowBlk e te.size s.size (strGet s)])) : o.wp P a W next Q := by
  have hx : a.eval x = .string s := hx
  have hr := Lib.run_convert_string_bytes (P := P) W src dst e s hs hd he
  have hg := grown_bounds (W := W) (old := 0) (e := e) h63
  have hsz : (Lib.bytesCells W e s).size = grownCap W s.size 0 e := by
    simp only [Lib.bytesCells, Array.size_append, Array.size_map, Array.size_replicate]
    show s.size + _ = _
    omega
  have hb : Below base W (Lib.bytesWorld W e s) := Lib.below_freeze (((Below.refl base W).drew).alloc hS.big _) (p := ⟨W.heap.size, _, none⟩) hS.big _
  obtain ⟨k1, k2⟩ := hS.newG hb (fun k hk => Lib.bytesWorld_at_old W e s k hk) (newRowBlk e te.size s.size (strGet s)) (Lib.bytesCells W e s) (grownCap W s.size 0 e) ⟨_, Lib.bytesWorld_at_new W e s, .inr (Nat.le_refl _)⟩ rfl (by show _ = _ * te.size; rw [hte, Nat.mul_one]; exact hsz) hg.1 hg.2 (fun i j u hi hu => by
      obtain ⟨y, y1, y2⟩ := strGet_rel (φ := φ) (H := H) s i j u hi hu
      refine ⟨y, ?_, y2, Lib.strCells_oneCell s y (List.mem_of_getElem? y1)⟩
      show (Lib.bytesCells W e s)[i * te.size + j]? = some y
      rw [hte]
      have hk := (List.getElem?_eq_some_iff.1 y1).1
      rw [Lib.strCells_length] at hk
      unfold Lib.bytesCells
      rw [Array.getElem?_append_left (by rw [Array.size_map]; exact hk), ← Array.getElem?_toList, Array.toList_map]
      exact y1) (fun i _ => by rw [show (newRowBlk e te.size s.size (strGet s)).sz = te.size from rfl, hte]; rfl)
  refine w_value (W1 := Lib.bytesWorld W e s) (u := .slice (some ⟨W.heap.size, 0, none⟩) s.size (grownCap W s.size 0 e)) ?_ (K _ _ _ k1 k2 ?_ hb)
  · simp only [execOp, ho, hx, Sem.run_bind, hr, Result.andThen_ok, Sem.run_pure]
  · refine sl_mk (B := newRowBlk e te.size s.size (strGet s)) (by simp) rfl (by show 0 + s.size ≤ s.size; omega) (.inr ⟨fun _ => by rw [Emb.upd_self], hg.1, fun _ => ?_, fun _ => by rw [Emb.upd_self]; simp⟩)
    rw [Emb.upd_self]
    simp
/-- The bytes of a row of bytes, as a string. -/
def byteOf : List AV → UInt8
  | [.int _ c] => UInt8.ofNat c.toNat
  | _ => 0
def bytesAV (B : Blk) (p n : Nat) : ByteArray := ⟨((List.range n).map fun i => byteOf (B.get (p + i))).toArray⟩
/-- 'string(b)'. -/
theorem l_bytesStr {src dst e : TypeId} {x : Operand} (ho : o.op = .convert src dst x) (hS : Sim φ H base W) {b p n v : Nat} {B : Blk} (hx : VRel φ H (.sl b p n v) (a.eval x)) (hB : H[b]? = some B) (hv : B.ver = v) (hs : P.underlying src = some (.slice e)) (hd : P.underlying dst = some .string) (he : P.underlying e = some (.int .u8)) (hsz : B.sz = 1)
    (hby : ∀ i, i < n → ∃ c : UInt8, B.get (p + i) = [.int .u8 c.toNat]) (K : Kont φ H base W o a next (.str (bytesAV B p n)) H) : o.wp P a W next Q := by
  obtain ⟨A, c, e1, hnc, hA⟩ := sl_val hS hx hB hv
  refine w_pure hS K (u := .string (bytesAV B p n)) ?_ rfl
  by_cases hn : n = 0
  · subst hn
    have hr : (convert src dst (.slice A 0 c)).run P W = .ok (.string (bytesAV B p 0)) W := by
      cases A with
      | none =>
        rw [run_convert_bytes_string W src dst e none 0 c hs he hd]
        simp [Conv.bytesToString, bytesAV]
        rfl
      | some ad =>
        have := run_convert_bytes_back (P := P) W src dst e ad c [] hs he hd (fun j hj => by cases hj)
        simpa [bytesAV] using this
    simp only [execOp, ho, e1, Sem.run_bind, hr, Result.andThen_ok, Sem.run_pure]
  · have hA1 := hA hn
    obtain ⟨hl, _⟩ := sl_at hx hB hv
    subst hA1
    have hr := run_convert_bytes_back (P := P) W src dst e ⟨(φ b).blk, (φ b).off + p * B.sz, none⟩ c ((List.range n).map fun i => byteOf (B.get (p + i))) hs he hd (fun j hj => by
      have hj' : j < n := by simpa using hj
      obtain ⟨c0, hc0⟩ := hby j hj'
      obtain ⟨y, y1, y2, _⟩ := hS.cell hB (i := p + j) (j := 0) (u := .int .u8 c0.toNat) (by omega) (by rw [hc0]; rfl)
      have y2 : y = .int .u8 c0.toNat := y2
      rw [add_at, show (φ b).off + p * B.sz + j = (φ b).off + ((p + j) * B.sz + 0) by rw [hsz]; omega, y1, y2]
      simp [hc0, byteOf])
    have hlen : ((List.range n).map fun i => byteOf (B.get (p + i))).length = n := by simp
    rw [hlen] at hr
    simp only [execOp, ho, e1, Sem.run_bind, hr, Result.andThen_ok, Sem.run_pure]
    rfl
theorem freeze_other (w : World) (a : Addr) (n k : Nat) (h : k ≠ a.block) : (w.freeze a n).heap[k]? = w.heap[k]? := by
  unfold World.freeze
  split
  · rfl
  · simp [Array.getElem?_modify, Ne.symm h]
/-- A block that is let go: nothing of it is known any more. -/
def deadBlk (B : Blk) : Blk := { B with ver := B.ver + 1, len := 0 }
theorem Sim.kill {W' : World} (hS : Sim φ H base W) {b : Nat} {B : Blk} (hB : H[b]? = some B) (hown : B.own = true) (hnn : (φ b).none = false) (hb : Below base W W') (hoth : ∀ k, k ≠ (φ b).blk → W'.heap[k]? = W.heap[k]?) :
    Ext φ H (φ.upd b ⟨0, 0, 0, true⟩) (H.set b (deadBlk B)) ∧ Sim (φ.upd b ⟨0, 0, 0, true⟩) (H.set b (deadBlk B)) base W' :=
  hS.renew hB (deadBlk B) rfl rfl hown hown (Nat.lt_succ_self _) ⟨0, 0, 0, true⟩ hb (fun k B0 hB0 ho0 hn0 hne => ⟨hoth _ (hS.inj k b B0 B hB0 hB ho0 hown hn0 hnn hne), fun q => by cases q⟩) (.inl ⟨rfl, rfl⟩) (fun i hi => by cases hi)
/-- unsafe.SliceData of a slice that is not empty. -/
theorem l_sliceData {x : Operand} {ts : Array TypeId} (ho : o.op = .call { callee := .builtin .unsafeSliceData, args := #[x], argTypes := ts }) (hS : Sim φ H base W) {b p n v : Nat} {B : Blk} (hx : VRel φ H (.sl b p n v) (a.eval x)) (hB : H[b]? = some B) (hv : B.ver = v) (hn : 0 < n) (K : Kont φ H base W o a next (.ptr b p 0 v) H) : o.wp P a W next Q := by
  obtain ⟨A, c, e1, hnc, hA⟩ := sl_val hS hx hB hv
  have hA := hA (by omega)
  subst hA
  have hr := Lib.run_unsafeSliceData_row (P := P) (w := W) ts o.type ⟨(φ b).blk, (φ b).off + p * B.sz, none⟩ n c (by omega)
  refine w_pure hS K (u := .pointer (some ⟨(φ b).blk, (φ b).off + (p * B.sz + 0), none⟩)) ?_ (ptr_mk hB hv)
  simp only [execOp, ho, resolve, invoke, builtin, Sem.run_bind, Sem.run_pure, Result.andThen_ok, List.map_toArray, List.map_cons, List.map_nil, e1, hr, Nat.add_zero]
/-- unsafe.String of a row of the call's own: its bytes; the row is let go. -/
theorem l_unsafeString {x y : Operand} {pt it e : TypeId} (ho : o.op = .call { callee := .builtin .unsafeString, args := #[x, y], argTypes := #[pt, it] }) (hS : Sim φ H base W) {b v : Nat} {n : Int} {B : Blk} (hx : VRel φ H (.ptr b 0 0 v) (a.eval x)) (hy : VRel φ H (.int .i64 n) (a.eval y)) (hB : H[b]? = some B) (hv : B.ver = v) (hown : B.own = true) (hsz : B.sz = 1) (hBt : B.t = e) (hp : P.underlying pt = some (.pointer e)) (hc : P.cellsOf e = 1) (h0 : 0 < n) (hn : n ≤ B.len)
    (hby : ∀ i, i < n.toNat → ∃ c : UInt8, B.get (0 + i) = [.int .u8 c.toNat]) (K : Kont φ H base W o a next (.str (bytesAV B 0 n.toNat)) (H.set b (deadBlk B))) : o.wp P a W next Q := by
  have ex := ptr_at hx hB hv
  have ey : a.eval y = .int .i64 n := hy
  rcases hS.ow b B hB hown with q | ⟨hnn, cur, c1, c2, c3, c4, c5, c6, c7⟩
  · omega
  obtain ⟨l, hl⟩ : ∃ l, l = (List.range n.toNat).map fun i => byteOf (B.get (0 + i)) := ⟨_, rfl⟩
  have hll : l.length = n.toNat := by rw [hl]; simp
  have hsh : W.shape? (φ b).blk = some (e, cur.size) := by
    obtain ⟨z, c1, _⟩ := c1
    simp [World.shape?, c1, hBt]
  have hr := Lib.run_unsafeString_row (P := P) W pt it o.type e hp hc (φ b).blk cur.size hsh l (fun q => by rw [q] at hll; simp at hll; omega) (by rw [hll, c3, hsz]; omega) (by rw [hll]; unfold maxLen at c5; omega) (fun j x hj => by
    have hj' : j < n.toNat := by rw [← hll]; exact (List.getElem?_eq_some_iff.1 hj).1
    obtain ⟨c0, hc0⟩ := hby j hj'
    obtain ⟨y, y1, y2, _⟩ := hS.cell hB (i := j) (j := 0) (u := .int .u8 c0.toNat) (by omega) (by rw [Nat.zero_add] at hc0; rw [hc0]; rfl)
    have y2 : y = .int .u8 c0.toNat := y2
    rw [add_at, Nat.zero_add]
    rw [c2, hsz, Nat.zero_add, Nat.mul_one, Nat.add_zero] at y1
    rw [y1, y2]
    rw [hl, List.getElem?_map, List.getElem?_range hj'] at hj
    simp only [Option.map_some, Option.some.injEq, hc0, byteOf] at hj
    rw [← hj]
    simp)
  rw [hll] at hr
  have hb : Below base W (W.freeze ⟨(φ b).blk, 0, none⟩ n.toNat) := Lib.below_freeze (Below.refl base W) (p := ⟨(φ b).blk, 0, none⟩) c6 _
  obtain ⟨k1, k2⟩ := hS.kill hB hown hnn hb (fun k hk => freeze_other W _ _ k hk)
  have en : (n.toNat : Int) = n := by omega
  refine w_value (W1 := W.freeze ⟨(φ b).blk, 0, none⟩ n.toNat) (u := .string (bytesAV B 0 n.toNat)) ?_ (K _ _ _ k1 k2 rfl hb)
  rw [en] at hr
  simp only [execOp, ho, resolve, invoke, builtin, Sem.run_bind, Sem.run_pure, Result.andThen_ok, List.map_toArray, List.map_cons, List.map_nil, ex, ey, c2, Nat.zero_mul, Nat.add_zero, hr]
  rw [hl]
  rfl
end
end Go.Proofs.YtjokedpaidmjoaaGreatDoor.Am
namespace Go.Proofs.YtjokedpaidmjoaaGreatDoor.Am
open Go Go.RowKit
section
variable {P : Program} {φ : Emb} {H : Heap} {base nt : Nat} {W : World} {o : Oper} {a : Act} {next : Act → World → Prop} {Q : Exit → Act → World → Prop}

/-! ### literals -/
def afill (place : Nat → Option (Nat × Nat)) (cells : List AV) : List (Nat × AV) → Option (List AV)
  | [] => some cells
  | (i, v) :: rest =>
    match place i with
    | none => none
    | some (off, size) => if v.cells.length = size ∧ off + size ≤ cells.length then afill place (setSeg cells off v.cells) rest else none
theorem foldl_set (vs : List Value) : ∀ (k off : Nat) (cs : Array Value), off + k + vs.length ≤ cs.size → ((vs.zipIdx k).foldl (fun cs p => cs.setIfInBounds (off + p.2) p.1) cs).toList = cs.toList.take (off + k) ++ vs ++ cs.toList.drop (off + k + vs.length) := by
  induction vs with
  | nil => intro k off cs _; simp
  | cons v r ih =>
    intro k off cs h
    simp only [List.length_cons] at h
    rw [List.zipIdx_cons, List.foldl_cons, ih (k + 1) off _ (by rw [Array.size_setIfInBounds]; omega)]
    apply List.ext_getElem?
    intro j
    have hl : off + (k + 1) + r.length ≤ (cs.setIfInBounds (off + k) v).toList.length := by simp; omega
    have hl2 : off + k + (v :: r).length ≤ cs.toList.length := by simp; omega
    rw [seg_get _ _ _ _ hl, seg_get _ _ _ _ hl2]
    simp only [List.length_cons]
    by_cases h1 : j = off + k
    · subst h1
      rw [if_neg (by omega), if_pos (by omega), Nat.sub_self, Array.getElem?_toList, Array.getElem?_setIfInBounds_self_of_lt (by omega)]
      rfl
    · by_cases h2 : off + (k + 1) ≤ j ∧ j < off + (k + 1) + r.length
      · rw [if_pos h2, if_pos (by omega), show j - (off + k) = (j - (off + (k + 1))) + 1 by omega]
        rfl
      · rw [if_neg h2, if_neg (by omega), Array.getElem?_toList, Array.getElem?_toList, Array.getElem?_setIfInBounds_ne (fun e => h1 e.symm)]
theorem setSeg_rel {cs : List AV} {us : List Value} {vs : List AV} {ws : List Value} (h : VRels φ H cs us) (k : VRels φ H vs ws) (off : Nat) : VRels φ H (setSeg cs off vs) (us.take off ++ ws ++ us.drop (off + ws.length)) := by
  unfold setSeg
  rw [← VRels.length k]
  exact VRels.append (VRels.append (VRels.take _ h) k) (VRels.drop _ h)
/-- What may stand in a literal. -/
def AV.whole : AV → Bool
  | .undef | .tup _ | .opt _ _ => false
  | _ => true
theorem whole_or {v : AV} (h : v.whole = true) : v.cell = true ∨ ∃ cs, v = .agg cs := by
  cases v <;> first | (left; rfl) | (right; exact ⟨_, rfl⟩) | cases h
theorem fill_rel (place : Nat → Option (Nat × Nat)) : ∀ (ps : List (Nat × AV)) (qs : List (Nat × Value)) (cells r : List AV) (us : Array Value), ps.map (·.1) = qs.map (·.1) → (∀ (j : Nat) p q, ps[j]? = some p → qs[j]? = some q → VRel φ H p.2 q.2) → (ps.all fun p => p.2.whole) = true → VRels φ H cells us.toList → afill place cells ps = some r →
    ∃ vs, Instr.fill place us qs = some vs ∧ VRels φ H r vs.toList
  | [], [], cells, r, us, _, _, _, hc, h => by
    unfold afill at h
    obtain rfl := Option.some.inj h
    exact ⟨us, rfl, hc⟩
  | [], _ :: _, _, _, _, hm, _, _, _, _ => by simp at hm
  | _ :: _, [], _, _, _, hm, _, _, _, _ => by simp at hm
  | (i, v) :: ps, (i', u) :: qs, cells, r, us, hm, hr, hw, hc, h => by
    simp only [List.map_cons, List.cons.injEq] at hm
    obtain ⟨rfl, hm⟩ := hm
    simp only [List.all_cons, Bool.and_eq_true] at hw
    have hv : VRel φ H v u := hr 0 _ _ rfl rfl
    have hvc := cells_rel (whole_or hw.1) hv
    unfold afill at h
    unfold Instr.fill
    cases hp : place i with
    | none => rw [hp] at h; cases h
    | some z =>
      obtain ⟨off, size⟩ := z
      rw [hp] at h
      simp only at h ⊢
      by_cases hcond : v.cells.length = size ∧ off + size ≤ cells.length
      · rw [if_pos hcond] at h
        have hl1 : u.cells.size = size := by rw [← Array.length_toList, VRels.length hvc]; exact hcond.1
        have hl2 : us.size = cells.length := by rw [← Array.length_toList, VRels.length hc]
        have hne : ¬ (u.cells.size ≠ size ∨ off + u.cells.size > us.size) := by rw [hl1, hl2]; omega
        have hne' : (u.cells.size ≠ size || decide (off + u.cells.size > us.size)) = false := by
          rw [hl1, hl2]
          simp
          omega
        have hfold : (u.cells.zipIdx.foldl (fun cs (c, j) => cs.setIfInBounds (off + j) c) us).toList = us.toList.take off ++ u.cells.toList ++ us.toList.drop (off + u.cells.toList.length) := by
          have := foldl_set u.cells.toList 0 off us (by rw [Array.length_toList, hl1]; omega)
          simp only [Nat.add_zero] at this
          rw [← this]
          congr 1
          rw [← Array.foldl_toList]
          congr 1
          simp
        have := fill_rel place ps qs (setSeg cells off v.cells) r _ hm (fun j p q hp hq => hr (j + 1) p q (by simpa using hp) (by simpa using hq)) hw.2 (by rw [hfold]; exact setSeg_rel hc hvc off) h
        obtain ⟨vs, v1, v2⟩ := this
        refine ⟨vs, ?_, v2⟩
        rw [if_neg (by simpa using hne)]
        exact v1
      · rw [if_neg hcond] at h; cases h
theorem map_parts (ps : Array (Nat × Operand)) (T : Tmps) (hT : TRel φ H nt T a.tmps) : ((ps.toList.map fun p => (p.1, aev T p.2)).map (·.1) = ((ps.map fun p => (p.1, a.eval p.2)).toList).map (·.1)) ∧ ∀ (j : Nat) p q, (ps.toList.map fun p => (p.1, aev T p.2))[j]? = some p → ((ps.map fun p => (p.1, a.eval p.2)).toList)[j]? = some q → VRel φ H p.2 q.2 := by
  constructor
  · simp
  · intro j p q hp hq
    rw [Array.toList_map] at hq
    rw [List.getElem?_map] at hp hq
    cases h : ps.toList[j]? with
    | none => rw [h] at hp; cases hp
    | some z =>
      rw [h] at hp hq
      simp at hp hq
      subst hp; subst hq
      exact aev_rel hT _
theorem l_build {t : TypeId} {ps : Array (Nat × Operand)} (ho : o.op = .build t ps) {T : Tmps} (hT : TRel φ H nt T a.tmps) (hS : Sim φ H base W) {ti : Ty} (ht : TyOk P t ti) {fs : List (Nat × Nat × TypeId)} (hk : ti.kind = .struct fs)
    (hw : ((ps.toList.map fun p => (p.1, aev T p.2)).all fun p => p.2.whole) = true) {r : List AV} (h : afill (fun i => (fs[i]?).map fun f => (f.1, f.2.1)) ti.zero (ps.toList.map fun p => (p.1, aev T p.2)) = some r)
    (K : Kont φ H base W o a next (.agg r) H) : o.wp P a W next Q := by
  have hkk := ht.kind
  rw [hk] at hkk
  obtain ⟨F, hu, hF, hpos⟩ := hkk
  have hinfo : ∀ f ∈ F.toList, (P.info? f.type).isSome = true := by
    intro f hf
    have h1 : (f.offset, P.cellsOf f.type, f.type) ∈ fs := by rw [← hF]; exact List.mem_map.2 ⟨f, hf, rfl⟩
    have h2 := List.all_eq_true.1 hpos _ h1
    unfold Program.cellsOf at h2
    cases hq : P.info? f.type with
    | none => rw [hq] at h2; simp at h2
    | some z => rfl
  obtain ⟨q, hq, hqz, _⟩ := ht.get
  obtain ⟨m1, m2⟩ := map_parts (φ := φ) (H := H) (a := a) ps T hT
  have hz : VRels φ H ti.zero ti.zval.cells.toList := by rw [ht.zcells]; exact flats_rel ht.flat
  obtain ⟨vs, v1, v2⟩ := fill_rel _ _ _ _ _ _ m1 m2 hw hz h
  have hmap : F.toList.mapM (fun f => (P.info? f.type).map fun i => (f.offset, i.size)) = some (fs.map fun f => (f.1, f.2.1)) := by
    rw [← hF]
    have := hinfo
    clear hF hu h v1 hinfo
    generalize F.toList = l at this ⊢
    induction l with
    | nil => rfl
    | cons f r ih =>
      have h0 := this f (by simp)
      obtain ⟨z, hz⟩ := Option.isSome_iff_exists.1 h0
      have hr := ih (fun g hg => this g (by simp [hg]))
      simp only [List.mapM_cons, hz, hr, Option.map_some, List.map_cons, Option.bind_eq_bind, Option.bind_some, Option.pure_def]
      simp [Program.cellsOf, hz]
  have hb : P.built t (ps.map fun p => (p.1, a.eval p.2)).toList = some vs := by
    unfold Program.built
    simp only [hq, hu, hqz, hmap]
    rw [← v1]
    congr 1
    funext i
    simp
  refine w_pure hS K (u := .agg vs) ?_ ⟨_, rfl, v2⟩
  simp only [execOp, ho, Sem.run_bind]
  rw [run_build W t _ vs hb]
  rfl
/-- A literal of elements, all told, in order. -/
def litCells : List AV → List AV
  | [] => []
  | v :: r => v.cells ++ litCells r
theorem litCells_length {sz : Nat} : ∀ {l : List AV}, (∀ v ∈ l, v.cells.length = sz) → (litCells l).length = l.length * sz
  | [], _ => by simp [litCells]
  | v :: r, h => by
    rw [litCells, List.length_append, h v (by simp), litCells_length (fun w hw => h w (by simp [hw])), List.length_cons, Nat.add_mul, Nat.one_mul, Nat.add_comm]
end
end Go.Proofs.YtjokedpaidmjoaaGreatDoor.Am
namespace Go.Proofs.YtjokedpaidmjoaaGreatDoor.Am
open Go Go.RowKit
section
variable {P : Program} {φ : Emb} {H : Heap} {base nt : Nat} {W : World} {o : Oper} {a : Act} {next : Act → World → Prop} {Q : Exit → Act → World → Prop}
def zeroRow (z : List AV) (n : Nat) : List AV := (List.range n).map fun i => z.getD (i % z.length) .undef
def litGet (sz : Nat) (flat : List AV) : Nat → List AV := fun k => (flat.drop (k * sz)).take sz
theorem range_zero {z : List AV} {zs : Array Value} (hr : VRels φ H z zs.toList) (hz : z ≠ []) (n : Nat) : VRels φ H (zeroRow z n) ((Array.range n).map (zs[· % zs.size]!)).toList := by
  have hl := VRels.length hr
  rw [Array.length_toList] at hl
  have hpos : 0 < z.length := List.length_pos_iff.2 hz
  apply VRels.of_get
  · simp [zeroRow]
  · intro i x hi
    unfold zeroRow at hi
    rw [List.getElem?_map] at hi
    cases hri : (List.range n)[i]? with
    | none => rw [hri] at hi; cases hi
    | some k =>
      rw [hri] at hi
      have hk : k = i ∧ i < n := by
        have := List.getElem?_eq_some_iff.1 hri
        obtain ⟨h1, h2⟩ := this
        simp at h1 h2
        exact ⟨h2.symm, h1⟩
      obtain ⟨rfl, hlt⟩ := hk
      have hx : z.getD (k % z.length) .undef = x := by simpa using hi
      have hm : k % z.length < z.length := Nat.mod_lt _ hpos
      rw [List.getD_eq_getElem?_getD, List.getElem?_eq_getElem hm] at hx
      obtain ⟨y, y1, y2⟩ := VRels.get hr _ _ (List.getElem?_eq_getElem hm)
      refine ⟨y, ?_, ?_⟩
      · rw [Array.toList_map, List.getElem?_map, Array.getElem?_toList]
        have : (Array.range n)[k]? = some k := by simp [hlt]
        rw [this]
        simp only [Option.map_some]
        congr 1
        have hm' : k % zs.size < zs.size := by rw [hl]; exact hm
        rw [getElem!_pos zs (k % zs.size) hm']
        rw [Array.getElem?_toList] at y1
        have := (Array.getElem?_eq_some_iff.1 y1).2
        rw [← this]
        congr 1
        rw [hl]
      · simp at hx
        rw [← hx]
        exact y2
theorem l_buildSlice {t e : TypeId} {n : Nat} {ps : Array (Nat × Operand)} (ho : o.op = .buildSlice t n ps) {T : Tmps} (hT : TRel φ H nt T a.tmps) (hS : Sim φ H base W) (ht : P.underlying t = some (.slice e)) {te : Ty} (hte : TyOk P e te) (hpos : te.size ≠ 0) (hbig : n * te.size ≤ 2 ^ 24)
    (hw : ((ps.toList.map fun p => (p.1, aev T p.2)).all fun p => p.2.whole) = true) {r : List AV} (h : afill (fun i => some (i * te.size, te.size)) (zeroRow te.zero (n * te.size)) (ps.toList.map fun p => (p.1, aev T p.2)) = some r) (hrl : r.length = n * te.size) (hrc : r.all AV.cell = true)
    (K : Kont φ H base W o a next (.sl H.length 0 n 0) (H ++ [newRowBlk e te.size n (litGet te.size r)])) : o.wp P a W next Q := by
  obtain ⟨m1, m2⟩ := map_parts (φ := φ) (H := H) (a := a) ps T hT
  have hzc : VRels φ H te.zero te.zval.cells.toList := by rw [hte.zcells]; exact flats_rel hte.flat
  have hz0 : te.zero ≠ [] := by intro h0; have := hte.size; rw [h0] at this; simp at this; omega
  have hzs : te.zval.cells.size = te.size := by rw [← Array.length_toList, hte.zcells, List.length_map, hte.size]
  have hz : VRels φ H (zeroRow te.zero (n * te.size)) ((Array.range (n * te.size)).map ((if n * te.size = 0 then #[] else te.zval.cells)[· % (if n * te.size = 0 then #[] else te.zval.cells).size]!)).toList := by
    by_cases hn : n * te.size = 0
    · rw [hn]; simp [zeroRow]; rfl
    · simp only [if_neg hn]
      exact range_zero hzc hz0 _
  obtain ⟨vs, v1, v2⟩ := fill_rel _ _ _ _ _ _ m1 m2 hw hz h
  have hvl : vs.size = n * te.size := by rw [← Array.length_toList, VRels.length v2, hrl]
  have hones := ones_of v2 hrc
  obtain ⟨k1, k2, k3⟩ := hS.new (newRowBlk e te.size n (litGet te.size r)) vs n rfl hvl (Nat.le_refl _) (by
      have h1 : n ≤ n * te.size := Nat.le_mul_of_pos_right _ (by omega)
      unfold maxLen
      omega) (fun i j u hi hu => by
        have hj : j < te.size := by
          have hlt := (List.getElem?_eq_some_iff.1 hu).1
          have hlt : j < (litGet te.size r i).length := hlt
          unfold litGet at hlt
          rw [List.length_take] at hlt
          omega
        have hu' : (litGet te.size r i)[j]? = some u := hu
        unfold litGet at hu'
        rw [List.getElem?_take_of_lt hj, List.getElem?_drop] at hu'
        obtain ⟨y, y1, y2⟩ := VRels.get v2 _ _ hu'
        exact ⟨y, by rw [Array.getElem?_toList] at y1; exact y1, y2, hones y (List.mem_of_getElem? y1)⟩)
      (fun i hi => by
        show (litGet te.size r i).length = te.size
        unfold litGet
        rw [List.length_take, List.length_drop, hrl]
        have hi' : i < n := hi
        have := idx_le (sz := te.size) (j := 0) (n := te.size) hi' (Nat.le_refl n) (by omega)
        omega)
  have hsz := hte.sizeOf W
  have hzv := hte.zeroValue W
  have hbig' : ¬ (n * te.size > 2 ^ 24) := by omega
  refine w_value (u := .slice (some ⟨W.heap.size, 0, none⟩) n n) (W1 := W.alloc (.cells vs e)) ?_ (K _ _ _ k1 k2 ?_ k3)
  · by_cases hn : n * te.size = 0
    · simp only [hn, if_true] at v1
      simp [execOp, ho, Instr.buildSlice, run_underlying ht, hsz, hn, newRow, newObj, Sem.run]
      simp at v1
      simp [v1, Sem.run]
    · simp only [if_neg hn] at v1
      simp only [execOp, ho, Instr.buildSlice, Sem.run_bind, run_underlying ht, Result.andThen_ok, hsz, if_neg hbig', if_neg hn, hzv, Sem.run_pure, v1]
      simp [newRow, newObj, Sem.run]
  · refine sl_mk (B := newRowBlk e te.size n (litGet te.size r)) (by simp) rfl (by show 0 + n ≤ n; omega) (.inr ⟨fun _ => by rw [Emb.upd_self], Nat.le_refl _, fun _ => ?_, fun _ => by rw [Emb.upd_self]; simp⟩)
    rw [Emb.upd_self]
    simp
end
end Go.Proofs.YtjokedpaidmjoaaGreatDoor.Am
namespace Go.Proofs.YtjokedpaidmjoaaGreatDoor.Am
open Go Go.RowKit

/-! ### calls -/
/-- What a call comes to, over every world that the heap describes. -/
def ACalls (P : Program) (f : FuncId) (args : List AV) (H : Heap) (post : AV → Heap → Prop) : Prop :=
  ∀ (φ : Emb) (base : Nat) (W : World) (vs : List Value), Sim φ H base W → VRels φ H args vs →
    Calls P f vs.toArray W fun e W' => ∃ φ' v u H', e = .returned u ∧ post v H' ∧ Ext φ H φ' H' ∧ Sim φ' H' base W' ∧ VRel φ' H' v u ∧ Below base W W'
abbrev Res := Option (AV × Heap × Prop)
abbrev Spec := List AV → Heap → Res
/-! ### '==' of structs, cell by cell -/
inductive CK where
  | int (k : IntKind)
  | str
def ceq : AV → AV → Bool
  | .int _ m, .int _ n => m == n
  | .str s, .str t => s.toList == t.toList
  | _, _ => false
def leqs : List AV → List AV → Bool
  | a :: l, b :: m => ceq a b && leqs l m
  | _, _ => true
def fits : List CK → List AV → Prop
  | [], [] => True
  | .int k :: r, .int k' _ :: l => k' = k ∧ fits r l
  | .str :: r, .str _ :: l => fits r l
  | _, _ => False
def EqOk (P : Program) (t : TypeId) (K : List CK) : Prop := P.eqGuardType P.depth t = false ∧ ∀ (w : World) (xs ys : List AV), fits K xs → fits K ys → (Op.equal t (.agg (xs.map conc).toArray) (.agg (ys.map conc).toArray)).run P w = .ok (leqs xs ys) w
theorem fits_conc {φ : Emb} {H : Heap} : ∀ {K : List CK} {xs : List AV} {us : List Value}, fits K xs → VRels φ H xs us → us = xs.map conc
  | [], [], us, _, h => h
  | .int k :: r, .int k' n :: l, us, hf, ⟨u, us', e, h1, h2⟩ => by
    rw [e, show u = .int k' n from h1, fits_conc hf.2 h2]; rfl
  | .str :: r, .str s :: l, us, hf, ⟨u, us', e, h1, h2⟩ => by
    rw [e, show u = .string s from h1, fits_conc (K := r) hf h2]; rfl
theorem l_eqs {P : Program} {φ : Emb} {H : Heap} {base : Nat} {W : World} {o : Oper} {a : Act} {next : Act → World → Prop} {Q : Exit → Act → World → Prop} {t ty : TypeId} {p q : Operand} {neg : Bool} (ho : o.op = .binOp (if neg then .neq else .eql) t p q ty) {K : List CK} (hK : EqOk P t K) {xs ys : List AV} (hx : fits K xs) (hy : fits K ys) (hS : Sim φ H base W) (h1 : VRel φ H (.agg xs) (a.eval p)) (h2 : VRel φ H (.agg ys) (a.eval q)) (k : Kont φ H base W o a next (.bool (if neg then !(leqs xs ys) else leqs xs ys)) H) : o.wp P a W next Q := by
  obtain ⟨us, e1, r1⟩ := h1
  obtain ⟨vs, e2, r2⟩ := h2
  have f1 := fits_conc hx r1
  have f2 := fits_conc hy r2
  have g1 : us = (xs.map conc).toArray := by rw [← f1]
  have g2 : vs = (ys.map conc).toArray := by rw [← f2]
  subst g1 g2
  have hr := hK.2 W xs ys hx hy
  refine w_pure hS k (u := .bool (if neg then !(leqs xs ys) else leqs xs ys)) ?_ rfl
  cases neg with
  | false =>
    simp only [Bool.false_eq_true, if_false] at ho ⊢
    simp [execOp, ho, e1, e2, eqGuard, hK.1, binOp, Sem.run_bind, hr]
  | true =>
    simp only [if_true] at ho ⊢
    simp [execOp, ho, e1, e2, eqGuard, hK.1, binOp, Sem.run_bind, hr]
structure Ctx where
  P : Program
  ty : Env
  fn : FuncId → Option Spec
  eqt : TypeId → Option (List CK) := fun _ => none
  ext : FuncId → Option (List AV → Option (AV × Prop)) := fun _ => none
/-- A function without a body, which the model answers by itself. -/
def ExtOk (P : Program) (f : FuncId) (s : List AV → Option (AV × Prop)) : Prop := ∀ args v ob, s args = some (v, ob) → ob → ∀ (φ : Emb) (H : Heap) (us : List Value) (W : World), VRels φ H args us → ∃ u, (callFunc f us.toArray).run P W = .ok (.value u) W ∧ VRel φ H v u
def SpecOk (P : Program) (f : FuncId) (s : Spec) : Prop :=
  (∃ F, P.funcs[f]? = some F ∧ (F.name == "runtime.NumGoroutine") = false ∧ F.body.isNone = false) ∧ ∀ args H v H1 ob, s args H = some (v, H1, ob) → ob → ACalls P f args H fun v' H' => v' = v ∧ H' = H1
structure CtxOk (C : Ctx) : Prop where
  ty : EnvOk C.P C.ty
  fn : ∀ f s, C.fn f = some s → SpecOk C.P f s
  eqt : ∀ t K, C.eqt t = some K → EqOk C.P t K
  ext : ∀ f s, C.ext f = some s → ExtOk C.P f s

/-- A block, by its number. -/
def hat (H : Heap) (b : Nat) : Option Blk := H[b]?
/-! ### an operation -/
def asInt : AV → Option Int
  | .int _ n => some n
  | _ => none
def bound (T : Tmps) (d : Int) : Option Operand → Option Int
  | none => some d
  | some x => asInt (aev T x)
def aslice (C : Ctx) (T : Tmps) (H : Heap) (t : TypeId) (x : Operand) (lo hi : Option Operand) : Res :=
  match aev T x with
  | .str s =>
    match C.ty t, bound T 0 lo, bound T s.size hi with
    | some ti, some l, some h => match ti.kind with
      | .str => some (.str (s.extract l.toNat h.toNat), H, 0 ≤ l ∧ l ≤ h ∧ h ≤ s.size)
      | _ => none
    | _, _, _ => none
  | .sl b p n v =>
    match hat H b, C.ty t, bound T 0 lo, bound T n hi with
    | some B, some ti, some l, some h => match ti.kind with
      | .slice e => match C.ty e with
        | some te => some (.sl b (p + l.toNat) (h.toNat - l.toNat) v, H, B.ver = v ∧ te.size = B.sz ∧ 0 ≤ l ∧ l ≤ h ∧ (h ≤ n ∨ (B.own = true ∧ (p : Int) + h ≤ B.len)))
        | none => none
      | _ => none
    | _, _, _, _ => none
  | _ => none
def alen (C : Ctx) (H : Heap) (t : TypeId) (v : AV) : Res :=
  match v, C.ty t with
  | .str s, some ti => match ti.kind with
    | .str => some (.int .i64 s.size, H, True)
    | _ => none
  | .nilsl, some ti => match ti.kind with
    | .slice _ => some (.int .i64 0, H, True)
    | _ => none
  | .sl b _ n v, some ti => match ti.kind, hat H b with
    | .slice _, some B => some (.int .i64 n, H, B.ver = v)
    | _, _ => none
  | _, _ => none
def aappend (C : Ctx) (H : Heap) (t : TypeId) (s x : AV) : Res :=
  match C.ty t with
  | some ti => match ti.kind with
    | .slice e => match C.ty e with
      | some te =>
        let src : Option (Nat × (Nat → List AV) × Prop) := match x with
          | .nilsl => some (0, fun _ => [], True)
          | .sl b p m v => match hat H b with
            | some B => some (m, fun i => B.get (p + i), B.ver = v ∧ B.sz = te.size)
            | none => none
          | _ => none
        match src with
        | some (m, gx, ob) =>
          match s with
          | .nilsl => some (.sl H.length 0 m 0, H ++ [newRowBlk e te.size m gx], ob ∧ m ≤ maxLen ∧ m * te.bytes ≤ 140737488355328)
          | .sl b 0 n v => match hat H b with
            | some B => some (.sl b 0 (B.len + m) (B.ver + 1), H.set b (appBlk B m gx), ob ∧ B.ver = v ∧ B.own = true ∧ n = B.len ∧ B.t = e ∧ te.size = B.sz ∧ B.len + m ≤ maxLen ∧ (B.len + m) * te.bytes ≤ 140737488355328)
            | none => none
          | _ => none
        | none => none
      | none => none
    | _ => none
  | none => none
def aappendS (C : Ctx) (H : Heap) (t tu : TypeId) (s x : AV) : Res :=
  match C.ty t, C.ty tu, x with
  | some ti, some ui, .str z => match ti.kind, ui.kind with
    | .slice e, .str => match C.ty e with
      | some te => match s with
        | .nilsl => some (.sl H.length 0 z.size 0, H ++ [newRowBlk e te.size z.size (strGet z)], te.size = 1 ∧ z.size ≠ 0 ∧ z.size ≤ maxLen ∧ z.size * te.bytes ≤ 140737488355328)
        | .sl b 0 n v => match hat H b with
          | some B => some (.sl b 0 (B.len + z.size) (B.ver + 1), H.set b (appBlk B z.size (strGet z)), te.size = 1 ∧ z.size ≠ 0 ∧ B.ver = v ∧ B.own = true ∧ n = B.len ∧ B.t = e ∧ te.size = B.sz ∧ B.len + z.size ≤ maxLen ∧ (B.len + z.size) * te.bytes ≤ 140737488355328)
          | none => none
        | _ => none
      | none => none
    | _, _ => none
  | _, _, _ => none
def aconvS (C : Ctx) (H : Heap) (src dst : TypeId) (s : ByteArray) : Res :=
  match C.ty src, C.ty dst with
  | some si, some di => match si.kind, di.kind with
    | .str, .slice e => match C.ty e with
      | some te => match te.kind with
        | .int .u8 => some (.sl H.length 0 s.size 0, H ++ [newRowBlk e te.size s.size (strGet s)], te.size = 1 ∧ s.size ≤ maxLen)
        | _ => none
      | none => none
    | _, _ => none
  | _, _ => none
def aconvB (C : Ctx) (H : Heap) (src dst : TypeId) (b p n v : Nat) : Res :=
  match C.ty src, C.ty dst, hat H b with
  | some si, some di, some B => match si.kind, di.kind with
    | .slice e, .str => match C.ty e with
      | some te => match te.kind with
        | .int .u8 => some (.str (bytesAV B p n), H, B.ver = v ∧ B.sz = 1 ∧ ∀ i, i < n → ∃ c : UInt8, B.get (p + i) = [.int .u8 c.toNat])
        | _ => none
      | none => none
    | _, _ => none
  | _, _, _ => none
def fieldOf (C : Ctx) (s f : Nat) : Option (Nat × Nat × TypeId) :=
  match C.ty s with
  | some ti => match ti.kind with
    | .struct fs => fs[f]?
    | _ => none
  | none => none
def aop (C : Ctx) (T : Tmps) (H : Heap) (op : Op) : Res :=
  match op with
  | .move x | .assign x => some (aev T x, H, True)
  | .pick c x y => match aev T c, aev T x, aev T y with
    | .bool p, .bool q, .bool r => some (.bool (bif p then q else r), H, True)
    | _, _, _ => none
  | .alloc t => match C.ty t with
    | some i => some (.ptr H.length 0 0 0, H ++ [boxBlk t i.size i.zero], True)
    | none => none
  | .box t x => if (aev T x).whole = true ∧ (aev T x).cells.all AV.cell = true then some (.ptr H.length 0 0 0, H ++ [boxBlk t (aev T x).cells.length (aev T x).cells], True) else none
  | .build t ps => match C.ty t with
    | some i => match i.kind with
      | .struct fs => if ((ps.toList.map fun p => (p.1, aev T p.2)).all fun p => p.2.whole) = true then match afill (fun i => (fs[i]?).map fun f => (f.1, f.2.1)) i.zero (ps.toList.map fun p => (p.1, aev T p.2)) with
        | some r => some (.agg r, H, True)
        | none => none else none
      | _ => none
    | none => none
  | .buildSlice t n ps => match C.ty t with
    | some i => match i.kind with
      | .slice e => match C.ty e with
        | some te => if ((ps.toList.map fun p => (p.1, aev T p.2)).all fun p => p.2.whole) = true then match afill (fun i => some (i * te.size, te.size)) (zeroRow te.zero (n * te.size)) (ps.toList.map fun p => (p.1, aev T p.2)) with
          | some r => some (.sl H.length 0 n 0, H ++ [newRowBlk e te.size n (litGet te.size r)], te.size ≠ 0 ∧ n * te.size ≤ 2 ^ 24 ∧ r.length = n * te.size ∧ r.all AV.cell = true)
          | none => none else none
        | none => none
      | _ => none
    | none => none
  | .load t x => match aev T x, C.ty t with
    | .ptr b i j v, some ti => match hat H b with
      | some B => some (ldv ti (B.get i) j, H, B.ver = v ∧ i < B.len ∧ j + ti.size ≤ B.sz)
      | none => none
    | _, _ => none
  | .store t x y => match aev T x, C.ty t with
    | .ptr b i j v, some ti => match hat H b with
      | some B => if (aev T y).whole = true ∧ (aev T y).cells.all AV.cell = true then some (.undef, H.set b (B.put i j (aev T y).cells), B.ver = v ∧ (aev T y).cells.length = ti.size ∧ B.own = true ∧ i < B.len ∧ j + ti.size ≤ B.sz ∧ (B.one = true → B.len = 1)) else none
      | none => none
    | _, _ => none
  | .binOp op t x y _ => match aev T x, aev T y with
    | .agg xs, .agg ys => match C.eqt t, op with
      | some K, .eql => some (.bool (leqs xs ys), H, fits K xs ∧ fits K ys)
      | some K, .neq => some (.bool (!(leqs xs ys)), H, fits K xs ∧ fits K ys)
      | _, _ => none
    | u, w => match abin op u w with
      | some (v, ob) => some (v, H, ob)
      | none => none
  | .unOp op _ x => match aun op (aev T x) with
    | some v => some (v, H, True)
    | none => none
  | .convert src dst x => match aev T x, C.ty src, C.ty dst with
    | .int _ n, some si, some di => match si.kind, di.kind with
      | .int _, .int k => some (.int k (k.wrap n), H, True)
      | .int _, .str => some (.str (Utf8.encode n), H, True)
      | _, _ => none
    | .str s, _, _ => aconvS C H src dst s
    | .sl b p n v, _, _ => aconvB C H src dst b p n v
    | _, _, _ => none
  | .nilCheck x => match aev T x with
    | .ptr b i j v => match hat H b with
      | some B => some (.ptr b i j v, H, B.ver = v)
      | none => none
    | _ => none
  | .fieldAddr s x f => match aev T x, fieldOf C s f with
    | .ptr b i j v, some (off, _, _) => match hat H b with
      | some B => some (.ptr b i (j + off) v, H, B.ver = v)
      | none => none
    | _, _ => none
  | .field s x f => match aev T x, fieldOf C s f with
    | .agg cs, some (off, _, ft) => match C.ty ft with
      | some ti => some (ldv ti cs off, H, off + ti.size ≤ cs.length)
      | none => none
    | _, _ => none
  | .indexAddr t x ix => match aev T x, aev T ix, C.ty t with
    | .sl b p n v, .int _ i, some ti => match hat H b, ti.kind with
      | some B, .slice e => match C.ty e with
        | some te => some (.ptr b (p + i.toNat) 0 v, H, B.ver = v ∧ te.size = B.sz ∧ 0 ≤ i ∧ i < n)
        | none => none
      | _, _ => none
    | _, _, _ => none
  | .index t x ix => match aev T x, aev T ix, C.ty t with
    | .str s, .int _ i, some ti => match ti.kind with
      | .str => some (.int .u8 (byteAt s i), H, 0 ≤ i ∧ i < s.size)
      | _ => none
    | _, _, _ => none
  | .slice t x lo hi none => aslice C T H t x lo hi
  | .extract x i => match aev T x with
    | .tup vs => match vs[i]? with
      | some v => some (v, H, True)
      | none => none
    | _ => none
  | .makeFunc (.func f) first caps => if first.isEmpty then some (.fn f (caps.toList.map (aev T)), H, True) else none
  | .call c => match c.callee with
    | .builtin .len => match c.args.toList, c.argTypes.toList with
      | [x], [t] => alen C H t (aev T x)
      | _, _ => none
    | .builtin .append => match c.args.toList, c.argTypes.toList with
      | [s, x], [t, t'] => if t = t' then aappend C H t (aev T s) (aev T x) else aappendS C H t t' (aev T s) (aev T x)
      | _, _ => none
    | .builtin .unsafeSliceData => match c.args.toList with
      | [x] => match aev T x with
        | .sl b p n v => match hat H b with
          | some B => some (.ptr b p 0 v, H, B.ver = v ∧ 0 < n)
          | none => none
        | _ => none
      | _ => none
    | .builtin .unsafeString => match c.args.toList, c.argTypes.toList with
      | [x, y], [pt, _] => match aev T x, aev T y, C.ty pt with
        | .ptr b 0 0 v, .int .i64 n, some ti => match hat H b, ti.kind with
          | some B, .ptr e => match C.ty e with
            | some te => some (.str (bytesAV B 0 n.toNat), H.set b (deadBlk B), te.size = 1 ∧ B.ver = v ∧ B.own = true ∧ B.sz = 1 ∧ B.t = e ∧ 0 < n ∧ n ≤ B.len ∧ ∀ i, i < n.toNat → ∃ c : UInt8, B.get (0 + i) = [.int .u8 c.toNat])
            | none => none
          | _, _ => none
        | _, _, _ => none
      | _, _ => none
    | .builtin .max => match c.args.toList with
      | [x, y] => match aev T x, aev T y with
        | .int k m, .int k' n => some (.int k (if m < n then n else m), H, k = k')
        | _, _ => none
      | _ => none
    | .builtin .min => match c.args.toList with
      | [x, y] => match aev T x, aev T y with
        | .int k m, .int k' n => some (.int k (if n < m then n else m), H, k = k')
        | _, _ => none
      | _ => none
    | .value x => match aev T x with
      | .fn f caps => match C.fn f with
        | some s => s (c.args.toList.map (aev T) ++ caps) H
        | none => match C.ext f with
          | some s => match s (c.args.toList.map (aev T) ++ caps) with
            | some (v, ob) => some (v, H, ob)
            | none => none
          | none => none
      | _ => none
    | _ => none
  | _ => none
end Go.Proofs.YtjokedpaidmjoaaGreatDoor.Am
namespace Go.Proofs.YtjokedpaidmjoaaGreatDoor.Am
open Go Go.RowKit
section
variable {C : Ctx} {φ : Emb} {H : Heap} {base nt : Nat} {W : World} {o : Oper} {a : Act} {next : Act → World → Prop} {Q : Exit → Act → World → Prop} {T : Tmps}

theorem asInt_rel {x : AV} {n : Int} (h : asInt x = some n) {u : Value} (hr : VRel φ H x u) : ∃ k, VRel φ H (.int k n) u := by
  cases x <;> first | cases h | skip
  exact ⟨_, hr⟩
theorem bound_rel (hT : TRel φ H nt T a.tmps) {d l : Int} {lo : Option Operand} (h : bound T d lo = some l) : (lo = none ∧ l = d) ∨ ∃ y k, lo = some y ∧ VRel φ H (.int k l) (a.eval y) := by
  cases lo with
  | none => cases h; exact .inl ⟨rfl, rfl⟩
  | some x =>
    obtain ⟨k, hk⟩ := asInt_rel (φ := φ) (H := H) h (aev_rel hT x)
    exact .inr ⟨x, k, rfl, hk⟩
theorem und {P : Program} {t : TypeId} {i : Ty} (h : TyOk P t i) {k : Kind} (hk : i.kind = k) : k.ok P t := by rw [← hk]; exact h.kind
theorem fieldOf_ok (hC : CtxOk C) {s f : Nat} {off n ft : Nat} (h : fieldOf C s f = some (off, n, ft)) : ∃ F, C.P.underlying s = some (.struct F) ∧ (F[f]?).map (fun q => (q.offset, q.type)) = some (off, ft) ∧ C.P.cellsOf ft = n ∧ n ≠ 0 := by
  unfold fieldOf at h
  split at h
  · rename_i ti hti
    split at h
    · rename_i fs hk
      obtain ⟨F, hu, hF, hpos⟩ := und (hC.ty _ _ hti) hk
      have hl : F.toList[f]? = F[f]? := by simp
      rw [← hF, List.getElem?_map, hl] at h
      cases hq : F[f]? with
      | none => rw [hq] at h; cases h
      | some q =>
        rw [hq] at h
        simp only [Option.map_some, Option.some.injEq, Prod.mk.injEq] at h
        obtain ⟨e1, e2, e3⟩ := h
        refine ⟨F, hu, by simp [hq, e1, e3], by rw [← e3]; exact e2, ?_⟩
        have hm : (q.offset, C.P.cellsOf q.type, q.type) ∈ fs := by
          rw [← hF]
          exact List.mem_map.2 ⟨q, by rw [← hl] at hq; exact List.mem_of_getElem? hq, rfl⟩
        have := List.all_eq_true.1 hpos _ hm
        rw [← e2]
        simpa using this
    · cases h
  · cases h
theorem info_of_cells {P : Program} {t n : Nat} (h : P.cellsOf t = n) (hn : n ≠ 0) : (P.info? t).map (·.size) = some n := by
  unfold Program.cellsOf at h
  cases hq : (P.info? t).map (·.size) with
  | none => rw [hq] at h; simp at h; omega
  | some z => rw [hq] at h; simp at h; rw [h]
theorem evals_rel (hT : TRel φ H nt T a.tmps) : ∀ ys : List Operand, VRels φ H (ys.map (aev T)) (ys.map a.eval)
  | [] => rfl
  | y :: r => ⟨_, _, rfl, aev_rel hT y, evals_rel hT r⟩
theorem l_call {c : Call} {x : Operand} {f : FuncId} {caps : List AV} (ho : o.op = .call c) (hc : c.callee = .value x) (hS : Sim φ H base W) (hT : TRel φ H nt T a.tmps) (hx : aev T x = .fn f caps) {F : Func} (hf : C.P.funcs[f]? = some F) (hn : (F.name == "runtime.NumGoroutine") = false) (hb : F.body.isNone = false) {post : AV → Heap → Prop} (h : ACalls C.P f (c.args.toList.map (aev T) ++ caps) H post)
    (K : ∀ v H1, post v H1 → Kont φ H base W o a next v H1) : o.wp C.P a W next Q := by
  have hx' := aev_rel hT x
  rw [hx] at hx'
  obtain ⟨vs, e, hcaps⟩ := hx'
  have hargs := VRels.append (evals_rel hT c.args.toList) hcaps
  have h1 := h φ base W _ hS hargs
  have hrun : (execOp a.eval o).run C.P W = .ok (.enter f (c.args.toList.map a.eval ++ vs.toList).toArray) W := by
    have e2 : (c.args.toList.map a.eval ++ vs.toList).toArray = c.args.map a.eval ++ vs := by apply Array.ext'; simp
    rw [e2]
    have hn' : F.name ≠ "runtime.NumGoroutine" := by simpa using hn
    have hb' : F.body ≠ none := by intro h0; rw [h0] at hb; cases hb
    simp [execOp, ho, resolve, hc, e, Deferred.ofValue, invoke, callFunc, program, Sem.run, hf, hn', hb']
  unfold Oper.wp
  rw [hrun]
  show Calls _ _ _ _ _
  refine h1.mono ?_
  rintro e' W' ⟨φ', v, u, H', rfl, hp, hx', hs', hv', hb'⟩
  exact K v H' hp φ' W' u hx' hs' hv' hb'

theorem l_ext {c : Call} {x : Operand} {f : FuncId} {caps : List AV} (ho : o.op = .call c) (hc : c.callee = .value x) (hS : Sim φ H base W) (hT : TRel φ H nt T a.tmps) (hx : aev T x = .fn f caps) {v : AV} (h : ∀ us, VRels φ H (c.args.toList.map (aev T) ++ caps) us → ∃ u, (callFunc f us.toArray).run C.P W = .ok (.value u) W ∧ VRel φ H v u) (K : Kont φ H base W o a next v H) : o.wp C.P a W next Q := by
  have hx' := aev_rel hT x
  rw [hx] at hx'
  obtain ⟨vs, e, hcaps⟩ := hx'
  obtain ⟨u, hr, hv⟩ := h _ (VRels.append (evals_rel hT c.args.toList) hcaps)
  refine w_pure hS K (u := u) ?_ hv
  have e2 : (c.args.toList.map a.eval ++ vs.toList).toArray = c.args.map a.eval ++ vs := by apply Array.ext'; simp
  rw [e2] at hr
  simp [execOp, ho, resolve, hc, e, Deferred.ofValue, invoke, hr]
theorem l_convStr {src dst : TypeId} {x : Operand} (ho : o.op = .convert src dst x) {k : IntKind} {n : Int} (hS : Sim φ H base W) (hx : VRel φ H (.int k n) (a.eval x)) {si di : Ty} (hs : TyOk C.P src si) (hd : TyOk C.P dst di) {j : IntKind} (hsk : si.kind = .int j) (hdk : di.kind = .str) (K : Kont φ H base W o a next (.str (Utf8.encode n)) H) : o.wp C.P a W next Q := by
  have hx : a.eval x = .int k n := hx
  have h1 := hs.kind; rw [hsk] at h1
  have h2 := hd.kind; rw [hdk] at h2
  have h1 : C.P.underlying src = some (.int j) := h1
  have h2 : C.P.underlying dst = some .string := h2
  refine w_pure hS K (u := .string (Utf8.encode n)) ?_ rfl
  simp [execOp, ho, hx, convert, run_underlying h1, run_underlying h2, Conv.intToString]

theorem aslice_sound (hC : CtxOk C) {t : TypeId} {x : Operand} {lo hi : Option Operand} (ho : o.op = .slice t x lo hi none) {v : AV} {H1 : Heap} {ob : Prop} (h : aslice C T H t x lo hi = some (v, H1, ob)) (hob : ob) (hT : TRel φ H nt T a.tmps) (hS : Sim φ H base W) (K : Kont φ H base W o a next v H1) : o.wp C.P a W next Q := by
  have hx := aev_rel hT x
  unfold aslice at h
  split at h
  · rename_i s hs
    rw [hs] at hx
    split at h
    · rename_i ti l hh hti hl hhh
      split at h
      · rename_i hk
        cases h
        obtain ⟨h0, h1, h2⟩ := hob
        exact l_sliceStr ho hS hx (und (hC.ty _ _ hti) hk) (bound_rel hT hl) (bound_rel hT hhh) h0 h1 h2 K
      · cases h
    · cases h
  · rename_i b p n w hs
    rw [hs] at hx
    split at h
    · rename_i B ti l hh hB hti hl hhh
      split at h
      · rename_i e hk
        split at h
        · rename_i te hte
          cases h
          obtain ⟨h0, h1, h2, h3, h4⟩ := hob
          have hte := hC.ty _ _ hte
          obtain ⟨q, hq, _⟩ := hte.get
          exact l_sliceSl ho hS hx hB h0 (und (hC.ty _ _ hti) hk) (by rw [hte.cells, h1]) (by rw [hq]; rfl) (bound_rel hT hl) (bound_rel hT hhh) h2 h3 h4 K
        · cases h
      · cases h
    · cases h
  · cases h
theorem alen_sound (hC : CtxOk C) {t : TypeId} {x : Operand} (ho : o.op = .call { callee := .builtin .len, args := #[x], argTypes := #[t] }) {v : AV} {H1 : Heap} {ob : Prop} (h : alen C H t (aev T x) = some (v, H1, ob)) (hob : ob) (hT : TRel φ H nt T a.tmps) (hS : Sim φ H base W) (K : Kont φ H base W o a next v H1) : o.wp C.P a W next Q := by
  have hx := aev_rel hT x
  unfold alen at h
  split at h
  · rename_i s ti hs hti
    split at h
    · rename_i hk
      cases h
      exact l_len (ty := o.type) ho hS hx (.inl ⟨s, hs, und (hC.ty _ _ hti) hk, rfl⟩) K
    · cases h
  · rename_i ti hs hti
    split at h
    · rename_i e hk
      cases h
      exact l_len (ty := o.type) ho hS hx (.inr (.inl ⟨hs, rfl, e, und (hC.ty _ _ hti) hk⟩)) K
    · cases h
  · rename_i b p n w ti hs hti
    split at h
    · rename_i e B hk hB
      cases h
      exact l_len (ty := o.type) ho hS hx (.inr (.inr ⟨b, p, n, w, B, e, hs, hB, hob, rfl, und (hC.ty _ _ hti) hk⟩)) K
    · cases h
  · cases h
theorem aappend_sound (hC : CtxOk C) {t : TypeId} {s x : Operand} (ho : o.op = .call { callee := .builtin .append, args := #[s, x], argTypes := #[t, t] }) {v : AV} {H1 : Heap} {ob : Prop} (h : aappend C H t (aev T s) (aev T x) = some (v, H1, ob)) (hob : ob) (hT : TRel φ H nt T a.tmps) (hS : Sim φ H base W) (K : Kont φ H base W o a next v H1) : o.wp C.P a W next Q := by
  have hs := aev_rel hT s
  have hx := aev_rel hT x
  unfold aappend at h
  split at h
  · rename_i ti hti
    split at h
    · rename_i e hk
      split at h
      · rename_i te hte
        have hte := hC.ty _ _ hte
        have hu := und (hC.ty _ _ hti) hk
        have hu : C.P.underlying t = some (.slice e) := hu
        -- what is appended
        have hsrc : ∀ m gx (q : Prop), (match aev T x with | .nilsl => some (0, (fun _ => [] : Nat → List AV), True) | .sl b p m v => (match hat H b with | some B => some (m, (fun i => B.get (p + i)), (B.ver = v ∧ B.sz = te.size : Prop)) | none => none) | _ => none) = some (m, gx, q) → q → ∃ news, Src C.P φ H W (a.eval x) te.size m gx news ∧ ∀ i, i < m → (gx i).length = te.size := by
          intro m gx q hm hq
          split at hm
          · rename_i hxx
            cases hm
            rw [hxx] at hx
            have hx : a.eval x = .slice none 0 0 := hx
            rw [hx]
            exact ⟨[], src_nil _ _, fun i hi => (by cases hi)⟩
          · rename_i b p m' w hxx
            rw [hxx] at hx
            split at hm
            · rename_i B hB
              cases hm
              obtain ⟨news, hn⟩ := src_sl (P := C.P) hS hx hB hq.1
              obtain ⟨hl, _⟩ := sl_at hx hB hq.1
              rw [← hq.2]
              exact ⟨news, hn, fun i hi => hS.wf b B hB _ (by omega)⟩
            · cases hm
          · cases hm
        simp only at h
        split at h
        · rename_i m gx q hsr
          split at h
          · rename_i hss
            cases h
            obtain ⟨h1, h2, h3⟩ := hob
            obtain ⟨news, n1, n2⟩ := hsrc m gx q hsr h1
            rw [hss] at hs
            exact l_appendNil ho hS hs hu hte n1 n2 h2 h3 K
          · rename_i b n w hss
            split at h
            · rename_i B hB
              cases h
              obtain ⟨h1, h2, h3, h4, h5, h6, h7, h8⟩ := hob
              obtain ⟨news, n1, n2⟩ := hsrc m gx q hsr h1
              rw [hss] at hs
              exact l_append ho hS hs hB h2 h3 h4 h5 hu hte h6 n1 n2 h7 h8 K
            · cases h
          · cases h
        · cases h
      · cases h
    · cases h
  · cases h
theorem aappendS_sound (hC : CtxOk C) {t tu : TypeId} {s x : Operand} (ho : o.op = .call { callee := .builtin .append, args := #[s, x], argTypes := #[t, tu] }) {v : AV} {H1 : Heap} {ob : Prop} (h : aappendS C H t tu (aev T s) (aev T x) = some (v, H1, ob)) (hob : ob) (hT : TRel φ H nt T a.tmps) (hS : Sim φ H base W) (K : Kont φ H base W o a next v H1) : o.wp C.P a W next Q := by
  have hs := aev_rel hT s
  have hx := aev_rel hT x
  unfold aappendS at h
  split at h
  · rename_i ti ui z hti hui hz
    rw [hz] at hx
    split at h
    · rename_i e hk hku
      split at h
      · rename_i te hte
        have hte := hC.ty _ _ hte
        have hu := und (hC.ty _ _ hti) hk
        have hu : C.P.underlying t = some (.slice e) := hu
        have hv := und (hC.ty _ _ hui) hku
        have hv : C.P.underlying tu = some .string := hv
        split at h
        · rename_i hss
          cases h
          obtain ⟨h1, h2, h3, h4⟩ := hob
          rw [hss] at hs
          exact l_appendNilS ho hS hs hu hv hte h1 hx h2 h3 h4 K
        · rename_i b n w hss
          split at h
          · rename_i B hB
            cases h
            obtain ⟨h1, h2, h3, h4, h5, h6, h7, h8, h9⟩ := hob
            rw [hss] at hs
            exact l_appendS ho hS hs hB h3 h4 h5 h6 hu hv hte h7 h1 hx h2 h8 h9 K
          · cases h
        · cases h
      · cases h
    · cases h
  · cases h
theorem aconvS_sound (hC : CtxOk C) {src dst : TypeId} {x : Operand} (ho : o.op = .convert src dst x) {s : ByteArray} (hx : VRel φ H (.str s) (a.eval x)) {v : AV} {H1 : Heap} {ob : Prop} (h : aconvS C H src dst s = some (v, H1, ob)) (hob : ob) (hS : Sim φ H base W) (K : Kont φ H base W o a next v H1) : o.wp C.P a W next Q := by
  unfold aconvS at h
  split at h
  · rename_i si di hsi hdi
    split at h
    · rename_i e hk1 hk2
      split at h
      · rename_i te hte
        split at h
        · rename_i hk3
          cases h
          exact l_strBytes ho hS hx (und (hC.ty _ _ hsi) hk1) (und (hC.ty _ _ hdi) hk2) (und (hC.ty _ _ hte) hk3) hob.1 hob.2 K
        · cases h
      · cases h
    · cases h
  · cases h
theorem aconvB_sound (hC : CtxOk C) {src dst : TypeId} {x : Operand} (ho : o.op = .convert src dst x) {b p n w : Nat} (hx : VRel φ H (.sl b p n w) (a.eval x)) {v : AV} {H1 : Heap} {ob : Prop} (h : aconvB C H src dst b p n w = some (v, H1, ob)) (hob : ob) (hS : Sim φ H base W) (K : Kont φ H base W o a next v H1) : o.wp C.P a W next Q := by
  unfold aconvB at h
  split at h
  · rename_i si di B hsi hdi hB
    split at h
    · rename_i e hk1 hk2
      split at h
      · rename_i te hte
        split at h
        · rename_i hk3
          cases h
          exact l_bytesStr ho hS hx hB hob.1 (und (hC.ty _ _ hsi) hk1) (und (hC.ty _ _ hdi) hk2) (und (hC.ty _ _ hte) hk3) hob.2.1 hob.2.2 K
        · cases h
      · cases h
    · cases h
  · cases h
theorem arr1 {α : Type} (x : Array α) (h : x.size = 1) : ∃ y, x = #[y] := by
  obtain ⟨l⟩ := x
  match l, h with
  | [y], _ => exact ⟨y, rfl⟩
theorem arr2 {α : Type} (x : Array α) (h : x.size = 2) : ∃ y z, x = #[y, z] := by
  obtain ⟨l⟩ := x
  match l, h with
  | [y, z], _ => exact ⟨y, z, rfl⟩
theorem aop_sound (hC : CtxOk C) {op : Op} (ho : o.op = op) {v : AV} {H1 : Heap} {ob : Prop} (h : aop C T H op = some (v, H1, ob)) (hob : ob) (hT : TRel φ H nt T a.tmps) (hS : Sim φ H base W) (K : Kont φ H base W o a next v H1) : o.wp C.P a W next Q := by
  unfold aop at h
  split at h
  · cases h; exact l_move (.inl ho) hS (aev_rel hT _) K
  · cases h; exact l_move (.inr ho) hS (aev_rel hT _) K
  · rename_i c x y
    split at h
    · rename_i p q r hc hx hy
      cases h
      exact l_pick_bool ho hS (by rw [← hc]; exact aev_rel hT c) (fun _ => by rw [← hx]; exact aev_rel hT x) (fun _ => by rw [← hy]; exact aev_rel hT y) K
    · cases h
  · split at h
    · rename_i i hi
      cases h
      exact l_alloc ho (hC.ty _ _ hi) hS K
    · cases h
  · rename_i t x
    split at h
    · rename_i hw
      cases h
      exact l_box ho hS (aev_rel hT x) (whole_or hw.1) hw.2 rfl K
    · cases h
  · rename_i t ps
    split at h
    · rename_i i hi
      split at h
      · rename_i fs hk
        split at h
        · rename_i hw
          split at h
          · rename_i r hr
            cases h
            exact l_build ho hT hS (hC.ty _ _ hi) hk hw hr K
          · cases h
        · cases h
      · cases h
    · cases h
  · rename_i t n ps
    split at h
    · rename_i i hi
      split at h
      · rename_i e hk
        split at h
        · rename_i te hte
          split at h
          · rename_i hw
            split at h
            · rename_i r hr
              cases h
              obtain ⟨h1, h2, h3, h4⟩ := hob
              exact l_buildSlice ho hT hS (und (hC.ty _ _ hi) hk) (hC.ty _ _ hte) h1 h2 hw hr h3 h4 K
            · cases h
          · cases h
        · cases h
      · cases h
    · cases h
  · rename_i t x
    split at h
    · rename_i b i j w ti hx hti
      split at h
      · rename_i B hB
        cases h
        obtain ⟨h1, h2, h3⟩ := hob
        exact l_load ho hS (by rw [← hx]; exact aev_rel hT x) hB h1 (hC.ty _ _ hti) h2 h3 K
      · cases h
    · cases h
  · rename_i t x y
    split at h
    · rename_i b i j w ti hx hti
      split at h
      · rename_i B hB
        split at h
        · rename_i hw
          cases h
          obtain ⟨h1, h2, h3, h4, h5, h6⟩ := hob
          exact l_store ho hS (by rw [← hx]; exact aev_rel hT x) hB h1 (aev_rel hT y) (whole_or hw.1) hw.2 (hC.ty _ _ hti) h2 h3 h4 h5 h6 K
        · cases h
      · cases h
    · cases h
  · rename_i bop t x y ty
    split at h
    · rename_i xs ys hx hy
      have h1 := aev_rel hT x
      have h2 := aev_rel hT y
      rw [hx] at h1
      rw [hy] at h2
      split at h
      · rename_i L hL
        cases h
        exact l_eqs (neg := false) ho (hC.eqt _ _ hL) hob.1 hob.2 hS h1 h2 K
      · rename_i L hL
        cases h
        exact l_eqs (neg := true) ho (hC.eqt _ _ hL) hob.1 hob.2 hS h1 h2 K
      · cases h
    · split at h
      · rename_i w q hq
        cases h
        exact l_bin ho hq hob hS (aev_rel hT x) (aev_rel hT y) K
      · cases h
  · rename_i uop t x
    split at h
    · rename_i w hq
      cases h
      exact l_un ho hq hS (aev_rel hT x) K
    · cases h
  · rename_i src dst x
    split at h
    · rename_i k n si di hx hsi hdi
      split at h
      · rename_i k1 k2 hk1 hk2
        cases h
        exact l_convert ho hS (by rw [← hx]; exact aev_rel hT x) (hC.ty _ _ hsi) (hC.ty _ _ hdi) hk1 hk2 K
      · rename_i k1 hk1 hk2
        cases h
        exact l_convStr ho hS (by rw [← hx]; exact aev_rel hT x) (hC.ty _ _ hsi) (hC.ty _ _ hdi) hk1 hk2 K
      · cases h
    · rename_i s hx
      exact aconvS_sound hC ho (by rw [← hx]; exact aev_rel hT x) h hob hS K
    · rename_i b p n w hx
      exact aconvB_sound hC ho (by rw [← hx]; exact aev_rel hT x) h hob hS K
    · cases h
  · rename_i x
    split at h
    · rename_i b i j w hx
      split at h
      · rename_i B hB
        cases h
        exact l_nilCheck ho hS (by rw [← hx]; exact aev_rel hT x) hB hob K
      · cases h
    · cases h
  · rename_i s x f
    split at h
    · rename_i b i j w off n ft hx hf
      split at h
      · rename_i B hB
        cases h
        obtain ⟨F, hu, hF, hn, hn0⟩ := fieldOf_ok hC hf
        obtain ⟨n', rfl⟩ : ∃ n', n = n' + 1 := ⟨n - 1, by omega⟩
        exact l_fieldAddr ho hS (by rw [← hx]; exact aev_rel hT x) hB hob hu hF (info_of_cells hn hn0) K
      · cases h
    · cases h
  · rename_i s x f
    split at h
    · rename_i cs off n ft hx hf
      split at h
      · rename_i ti hti
        cases h
        obtain ⟨F, hu, hF, hn, hn0⟩ := fieldOf_ok hC hf
        exact l_field ho hS (by rw [← hx]; exact aev_rel hT x) hu hF (hC.ty _ _ hti) hob K
      · cases h
    · cases h
  · rename_i t x ix
    split at h
    · rename_i b p n w k i ti hx hix hti
      split at h
      · rename_i B e hB hk
        split at h
        · rename_i te hte
          cases h
          obtain ⟨h1, h2, h3, h4⟩ := hob
          have hte := hC.ty _ _ hte
          obtain ⟨q, hq, _⟩ := hte.get
          exact l_indexAddr ho hS (by rw [← hx]; exact aev_rel hT x) (by rw [← hix]; exact aev_rel hT ix) hB h1 (und (hC.ty _ _ hti) hk) (by rw [hte.cells, h2]) (by rw [hq]; rfl) h3 h4 K
        · cases h
      · cases h
    · cases h
  · rename_i t x ix
    split at h
    · rename_i s k i ti hx hix hti
      split at h
      · rename_i hk
        cases h
        exact l_index ho hS (by rw [← hx]; exact aev_rel hT x) (by rw [← hix]; exact aev_rel hT ix) (und (hC.ty _ _ hti) hk) hob.1 hob.2 K
      · cases h
    · cases h
  · exact aslice_sound hC ho h hob hT hS K
  · rename_i x i
    split at h
    · rename_i vs hx
      split at h
      · rename_i w hw
        cases h
        exact l_extract ho hS (by rw [← hx]; exact aev_rel hT x) hw K
      · cases h
    · cases h
  · rename_i f first caps
    split at h
    · rename_i he
      cases h
      have : first = #[] := by simpa using he
      subst this
      exact l_makeFunc ho hS (evals_rel hT _) K
    · cases h
  · rename_i c
    split at h
    · rename_i hcal
      split at h
      · rename_i x t hx ht
        obtain ⟨callee, args, tys⟩ := c
        simp only at hcal hx ht
        subst hcal
        obtain rfl : args = #[x] := by apply Array.ext'; simpa using hx
        obtain rfl : tys = #[t] := by apply Array.ext'; simpa using ht
        exact alen_sound hC ho h hob hT hS K
      · cases h
    · rename_i hcal
      split at h
      · rename_i s x t t' hx ht
        split at h
        · rename_i e
          subst e
          obtain ⟨callee, args, tys⟩ := c
          simp only at hcal hx ht
          subst hcal
          obtain rfl : args = #[s, x] := by apply Array.ext'; simpa using hx
          obtain rfl : tys = #[t, t] := by apply Array.ext'; simpa using ht
          exact aappend_sound hC ho h hob hT hS K
        · obtain ⟨callee, args, tys⟩ := c
          simp only at hcal hx ht
          subst hcal
          obtain rfl : args = #[s, x] := by apply Array.ext'; simpa using hx
          obtain rfl : tys = #[t, t'] := by apply Array.ext'; simpa using ht
          exact aappendS_sound hC ho h hob hT hS K
      · cases h
    · rename_i hcal
      split at h
      · rename_i x hx
        split at h
        · rename_i b p n w hxx
          split at h
          · rename_i B hB
            cases h
            obtain ⟨callee, args, tys⟩ := c
            simp only at hcal hx
            subst hcal
            obtain rfl : args = #[x] := by apply Array.ext'; simpa using hx
            exact l_sliceData ho hS (by rw [← hxx]; exact aev_rel hT x) hB hob.1 hob.2 K
          · cases h
        · cases h
      · cases h
    · rename_i hcal
      split at h
      · rename_i x y pt it hx ht
        split at h
        · rename_i b w n ti hxx hyy hti
          split at h
          · rename_i B e hB hk
            split at h
            · rename_i te hte
              cases h
              obtain ⟨callee, args, tys⟩ := c
              simp only at hcal hx ht
              subst hcal
              obtain rfl : args = #[x, y] := by apply Array.ext'; simpa using hx
              obtain rfl : tys = #[pt, it] := by apply Array.ext'; simpa using ht
              obtain ⟨h0, h1, h2, h3, h4, h5, h6, h7⟩ := hob
              exact l_unsafeString ho hS (by rw [← hxx]; exact aev_rel hT x) (by rw [← hyy]; exact aev_rel hT y) hB h1 h2 h3 h4 (und (hC.ty _ _ hti) hk) (by rw [(hC.ty _ _ hte).cells, h0]) h5 h6 h7 K
            · cases h
          · cases h
        · cases h
      · cases h
    · rename_i hcal
      split at h
      · rename_i x y hx
        split at h
        · rename_i k m k' n hxx hyy
          cases h
          obtain rfl : k = k' := hob
          obtain ⟨callee, args, tys⟩ := c
          simp only at hcal hx
          subst hcal
          obtain rfl : args = #[x, y] := by apply Array.ext'; simpa using hx
          have e1 : a.eval x = .int k m := by have := aev_rel hT x; rw [hxx] at this; exact this
          have e2 : a.eval y = .int k n := by have := aev_rel hT y; rw [hyy] at this; exact this
          refine w_pure hS K (u := .int k (if m < n then n else m)) ?_ rfl
          by_cases hmn : m < n <;> simp [execOp, ho, resolve, invoke, builtin, e1, e2, Builtin.max_, Builtin.max2, hmn]
        · cases h
      · cases h
    · rename_i hcal
      split at h
      · rename_i x y hx
        split at h
        · rename_i k m k' n hxx hyy
          cases h
          obtain rfl : k = k' := hob
          obtain ⟨callee, args, tys⟩ := c
          simp only at hcal hx
          subst hcal
          obtain rfl : args = #[x, y] := by apply Array.ext'; simpa using hx
          have e1 : a.eval x = .int k m := by have := aev_rel hT x; rw [hxx] at this; exact this
          have e2 : a.eval y = .int k n := by have := aev_rel hT y; rw [hyy] at this; exact this
          refine w_pure hS K (u := .int k (if n < m then n else m)) ?_ rfl
          by_cases hmn : n < m <;> simp [execOp, ho, resolve, invoke, builtin, e1, e2, Builtin.min_, Builtin.min2, hmn]
        · cases h
      · cases h
    · rename_i x hcal
      split at h
      · rename_i f caps hx
        split at h
        · rename_i s hs
          obtain ⟨⟨F, hF, hn, hb⟩, hspec⟩ := hC.fn f s hs
          exact l_call ho hcal hS hT hx hF hn hb (hspec _ _ _ _ _ h hob) (fun v' H' ⟨e1, e2⟩ => by subst e1; subst e2; exact K)
        · split at h
          · rename_i s hs
            split at h
            · rename_i v' q hq
              cases h
              exact l_ext ho hcal hS hT hx (fun us hus => hC.ext f s hs _ _ _ hq hob φ H us W hus) K
            · cases h
          · cases h
      · cases h
    · cases h
  · cases h
end
end Go.Proofs.YtjokedpaidmjoaaGreatDoor.Am
namespace Go.Proofs.YtjokedpaidmjoaaGreatDoor.Am
open Go Go.RowKit
section
variable {C : Ctx} {φ : Emb} {H : Heap} {base nt : Nat} {W : World} {o : Oper} {a : Act} {next : Act → World → Prop} {Q : Exit → Act → World → Prop} {T : Tmps} {ops : Array Oper}

/-! ### one operation of a region, guarded or not -/
def opnds : Op → List Operand
  | .move x | .assign x | .box _ x | .load _ x | .nilCheck x | .unOp _ _ x | .convert _ _ x | .fieldAddr _ x _ | .field _ x _ | .extract x _ => [x]
  | .store _ x y | .binOp _ _ x y _ | .indexAddr _ x y | .index _ x y => [x, y]
  | .build _ ps | .buildSlice _ _ ps => ps.toList.map (·.2)
  | .makeFunc _ _ caps => caps.toList
  | .slice _ x lo hi _ => x :: (lo.toList ++ hi.toList)
  | .call c => match c.callee with
    | .value x => x :: c.args.toList
    | _ => c.args.toList
  | _ => []
def tmpsOf : List Operand → List Nat
  | [] => []
  | .tmp t :: r => t :: tmpsOf r
  | _ :: r => tmpsOf r
def opTmps (op : Op) : List Nat := tmpsOf (opnds op)
def unw (T : Tmps) : List Nat → Tmps × Prop
  | [] => (T, True)
  | t :: r => match get T t with
    | .opt b v => ((t, v) :: (unw T r).1, b = true ∧ (unw T r).2)
    | _ => unw T r
theorem unw_rel (hT : TRel φ H nt T a.tmps) : ∀ l, (unw T l).2 → TRel φ H nt (unw T l).1 a.tmps
  | [], _ => hT
  | t :: r, h => by
    unfold unw at h ⊢
    cases hg : get T t
    case opt b v =>
      rw [hg] at h
      simp only at h ⊢
      have ih := unw_rel hT r h.2
      have ht := hT.2 t
      rw [hg] at ht
      refine ⟨ih.1, fun k => ?_⟩
      unfold get
      by_cases e : t = k
      · subst e; rw [if_pos rfl]; exact ht.1 h.1
      · rw [if_neg e]; exact ih.2 k
    all_goals (rw [hg] at h; simp only at h ⊢; exact unw_rel hT r h)
def strip : AV → AV × Bool
  | .opt b v => (v, b)
  | v => (v, true)
theorem strip_rel {x : AV} {u : Value} (h : VRel φ H x u) : (strip x).2 = true → VRel φ H (strip x).1 u := by
  cases x <;> first | exact fun _ => h | exact h.1
def apick (T : Tmps) (H : Heap) (c x y : Operand) : Res :=
  match (strip (aev T c)).1, (strip (aev T x)).1, (strip (aev T y)).1 with
  | .bool p, .bool q, .bool r => some (.bool (bif p then q else r), H, (strip (aev T c)).2 = true ∧ (p = true → (strip (aev T x)).2 = true) ∧ (p = false → (strip (aev T y)).2 = true))
  | _, _, _ => none
def astep (C : Ctx) (T : Tmps) (H : Heap) (op : Op) : Res :=
  match op with
  | .pick c x y => apick T H c x y
  | op => match aop C (unw T (opTmps op)).1 H op with
    | some (v, H1, ob) => some (v, H1, (unw T (opTmps op)).2 ∧ ob)
    | none => none
theorem astep_sound (hC : CtxOk C) {op : Op} (ho : o.op = op) {v : AV} {H1 : Heap} {ob : Prop} (h : astep C T H op = some (v, H1, ob)) (hob : ob) (hT : TRel φ H nt T a.tmps) (hS : Sim φ H base W) (K : Kont φ H base W o a next v H1) : o.wp C.P a W next Q := by
  unfold astep at h
  split at h
  · rename_i c x y
    unfold apick at h
    split at h
    · rename_i p q r hc hx hy
      cases h
      refine l_pick_bool ho hS (by rw [← hc]; exact strip_rel (aev_rel hT c) hob.1) (fun e => ?_) (fun e => ?_) K
      · rw [← hx]; exact strip_rel (aev_rel hT x) (hob.2.1 e)
      · rw [← hy]; exact strip_rel (aev_rel hT y) (hob.2.2 e)
    · cases h
  · split at h
    · rename_i w H2 q hq
      cases h
      exact aop_sound hC ho hq hob.2 (unw_rel hT _ hob.1) hS K
    · cases h
/-- Is an operation under a guard run? -/
def gwant (T : Tmps) (d : Nat) (want : Bool) : Option Bool :=
  match get T d with
  | .bool g => some (g == want)
  | .opt b (.bool g) => some (b && (g == want))
  | _ => none
def gstep (C : Ctx) (ops : Array Oper) (T : Tmps) (H : Heap) (o : Oper) : Res :=
  match o.guard with
  | none => astep C T H o.op
  | some (j, want) => match (ops[j]?).bind (·.dst) with
    | some d => match gwant T d want with
      | some g => match astep C T H o.op with
        | some (v, H1, ob) => some (.opt g v, (bif g then H1 else H), g = true → ob)
        | none => bif g then none else some (.opt false (.bool false), H, True)
      | none => none
    | none => none
theorem wanted_of (hT : TRel φ H nt T a.tmps) {j : Nat} {d : Nat} {want g : Bool} (hg : o.guard = some (j, want)) (hd : (ops[j]?).bind (·.dst) = some d) (h : gwant T d want = some g) : Region.wanted o (yielded ops a.tmps) = g := by
  have hr := hT.2 d
  have hy : yielded ops a.tmps j = (match a.tmps.getD d undef with | .bool x => some x | _ => none) := by
    unfold yielded
    rw [hd]
    cases hq : a.tmps[d]? with
    | none => simp [hq, Array.getD_eq_getD_getElem?]; rfl
    | some z => simp [hq, Array.getD_eq_getD_getElem?]; cases z <;> rfl
  have fin : ∀ x : Option Bool, yielded ops a.tmps j = x → Region.wanted o (yielded ops a.tmps) = (match x with | some y => y == want | none => false) := by
    intro x hx
    unfold Region.wanted
    rw [hg]
    simp only [hx]
    cases x with
    | none => rfl
    | some y => cases y <;> cases want <;> rfl
  unfold gwant at h
  split at h
  · rename_i x hx
    rw [hx] at hr
    have hr : a.tmps.getD d undef = .bool x := hr
    rw [hr] at hy
    rw [fin _ hy]
    simpa using h
  · rename_i b x hx
    rw [hx] at hr
    cases b with
    | true =>
      have hr : a.tmps.getD d undef = .bool x := hr.1 rfl
      rw [hr] at hy
      rw [fin _ hy]
      simpa using h
    | false =>
      have hr : a.tmps.getD d undef = undef := hr.2 rfl
      rw [hr] at hy
      rw [fin none hy]
      simpa using h
  · cases h
theorem gstep_sound (hC : CtxOk C) {v : AV} {H1 : Heap} {ob : Prop} (h : gstep C ops T H o = some (v, H1, ob)) (hob : ob) (hT : TRel φ H nt T a.tmps) (hS : Sim φ H base W) (K : Kont φ H base W o a next v H1) :
    if Region.wanted o (yielded ops a.tmps) = true then o.wp C.P a W next Q else next (a.put o.dst undef) W := by
  unfold gstep at h
  split at h
  · rename_i hg
    rw [if_pos (by simp [Region.wanted, hg])]
    exact astep_sound hC rfl h hob hT hS K
  · rename_i j want hg
    split at h
    · rename_i d hd
      split at h
      · rename_i g hgd
        rw [wanted_of hT hg hd hgd]
        split at h
        · rename_i w H2 q hq
          cases h
          cases g with
          | true =>
            rw [if_pos rfl]
            exact astep_sound hC rfl hq (hob rfl) hT hS (fun φ1 W1 u k1 k2 k3 k4 => K φ1 W1 u k1 k2 ⟨fun _ => k3, fun e => by cases e⟩ k4)
          | false =>
            rw [if_neg (by simp)]
            exact K φ W undef (Ext.refl _ _) hS ⟨fun e => (by cases e), fun _ => rfl⟩ (Below.refl _ _)
        · cases g with
          | true => cases h
          | false =>
            cases h
            rw [if_neg (by simp)]
            exact K φ W undef (Ext.refl _ _) hS ⟨fun e => (by cases e), fun _ => rfl⟩ (Below.refl _ _)
      · cases h
    · cases h

/-! ### code -/
abbrev APost := Exit → Tmps → Heap → Prop
def Lift (nt : Nat) (φ0 : Emb) (H0 : Heap) (base : Nat) (W0 : World) (R : APost) : Exit → Act → World → Prop :=
  fun e a1 W1 => ∃ φ1 T1 H1, R e T1 H1 ∧ Ext φ0 H0 φ1 H1 ∧ Sim φ1 H1 base W1 ∧ TRel φ1 H1 nt T1 a1.tmps ∧ a1.defers = [] ∧ Below base W0 W1
/-- H0: the heap as the function was entered. -/
def AWp (C : Ctx) (nt : Nat) (H0 : Heap) (c : Code) (R : APost) (T : Tmps) (H : Heap) : Prop :=
  ∀ φ0 φ base W0 W a, Ext φ0 H0 φ H → Below base W0 W → Sim φ H base W → TRel φ H nt T a.tmps → a.defers = [] → c.wp C.P (Lift nt φ0 H0 base W0 R) a W
section
variable {H0 : Heap} {φ0 : Emb} {W0 : World}
theorem Lift.mono {R R' : APost} (h : ∀ e T1 H2, R e T1 H2 → R' e T1 H2) {e : Exit} {a1 : Act} {W2 : World} (hl : Lift nt φ0 H0 base W0 R e a1 W2) : Lift nt φ0 H0 base W0 R' e a1 W2 := by
  obtain ⟨φ2, T2, H2, h1, h2⟩ := hl
  exact ⟨φ2, T2, H2, h _ _ _ h1, h2⟩
def AThen (C : Ctx) (nt : Nat) (H0 : Heap) (y : Code) (R : APost) : APost
  | .normal, T, H => AWp C nt H0 y R T H
  | e, T, H => R e T H
theorem awp_seq {x y : Code} {R : APost} (h : AWp C nt H0 x (AThen C nt H0 y R) T H) : AWp C nt H0 (.seq x y) R T H := by
  intro φ0 φ base W0 W a hx hb hS hT hd
  refine wp_seq (wp_mono (h φ0 φ base W0 W a hx hb hS hT hd) ?_)
  rintro e a1 W1 ⟨φ1, T1, H1, h1, h2, h3, h4, h5, h6⟩
  cases e with
  | normal => exact h1 φ0 φ1 base W0 W1 a1 h2 h6 h3 h4 h5
  | _ => exact ⟨φ1, T1, H1, h1, h2, h3, h4, h5, h6⟩
theorem awp_mono {c : Code} {R R' : APost} (h : AWp C nt H0 c R T H) (hr : ∀ e T1 H1, R e T1 H1 → R' e T1 H1) : AWp C nt H0 c R' T H :=
  fun φ0 φ base W0 W a hx hb hS hT hd => wp_mono (h φ0 φ base W0 W a hx hb hS hT hd) (fun _ _ _ hl => Lift.mono hr hl)
theorem lift_here {R : APost} {e : Exit} (hx : Ext φ0 H0 φ H) (hb : Below base W0 W) (hS : Sim φ H base W) (hT : TRel φ H nt T a.tmps) (hd : a.defers = []) (h : R e T H) : Lift nt φ0 H0 base W0 R e a W := ⟨φ, T, H, h, hx, hS, hT, hd, hb⟩
theorem awp_skip {R : APost} (h : R .normal T H) : AWp C nt H0 .skip R T H := fun _ _ _ _ _ _ hx hb hS hT hd => wp_skip (lift_here hx hb hS hT hd h)
theorem awp_ret {R : APost} (h : R .ret T H) : AWp C nt H0 .ret R T H := fun _ _ _ _ _ _ hx hb hS hT hd => wp_ret (lift_here hx hb hS hT hd h)
theorem awp_exit {R : APost} {i : Nat} (h : R (.exit i) T H) : AWp C nt H0 (.exit i) R T H := fun _ _ _ _ _ _ hx hb hS hT hd => wp_exit (lift_here hx hb hS hT hd h)
theorem awp_goto {R : APost} {i : Nat} (h : R (.goto i) T H) : AWp C nt H0 (.goto i) R T H := fun _ _ _ _ _ _ hx hb hS hT hd => wp_goto (lift_here hx hb hS hT hd h)
theorem awp_label {R : APost} {i : Nat} (h : R .normal T H) : AWp C nt H0 (.label i) R T H := fun _ _ _ _ _ _ hx hb hS hT hd => wp_label (lift_here hx hb hS hT hd h)
theorem awp_cond {R : APost} {c : Operand} {x y : Code} {b : Bool} (hc : aev T c = .bool b) (ht : b = true → AWp C nt H0 x R T H) (hf : b = false → AWp C nt H0 y R T H) : AWp C nt H0 (.cond c x y) R T H := by
  intro φ0 φ base W0 W a hx hb hS hT hd
  have h1 := aev_rel hT c
  rw [hc] at h1
  have h1 : a.eval c = .bool b := h1
  exact wp_cond_split h1 (fun e => ht e φ0 φ base W0 W a hx hb hS hT hd) (fun e => hf e φ0 φ base W0 W a hx hb hS hT hd)
def AIn (i : Nat) (R : APost) : APost
  | .exit j, T, H => if j = i then R .normal T H else R (.exit j) T H
  | e, T, H => R e T H
theorem awp_block {R : APost} {i : Nat} {c : Code} (h : AWp C nt H0 c (AIn i R) T H) : AWp C nt H0 (.block i c) R T H := by
  intro φ0 φ base W0 W a hx hb hS hT hd
  refine wp_block (wp_mono (h φ0 φ base W0 W a hx hb hS hT hd) ?_)
  rintro e a1 W1 ⟨φ1, T1, H1, h1, h2⟩
  cases e with
  | exit j =>
    have h1 : if j = i then R .normal T1 H1 else R (.exit j) T1 H1 := h1
    show if j = i then _ else _
    by_cases e : j = i
    · rw [if_pos e] at h1 ⊢; exact ⟨φ1, T1, H1, h1, h2⟩
    · rw [if_neg e] at h1 ⊢; exact ⟨φ1, T1, H1, h1, h2⟩
  | _ => exact ⟨φ1, T1, H1, h1, h2⟩
def ANoGoto (R : APost) : APost
  | .goto _, _, _ => False
  | e, T, H => R e T H
theorem awp_scope {R : APost} {c : Code} (h : AWp C nt H0 c (ANoGoto R) T H) : AWp C nt H0 (.scope c) R T H := by
  intro φ0 φ base W0 W a hx hb hS hT hd
  refine wp_scope_straight (wp_mono (h φ0 φ base W0 W a hx hb hS hT hd) ?_)
  rintro e a1 W1 ⟨φ1, T1, H1, h1, h2⟩
  cases e with
  | goto l => exact h1.elim
  | _ => exact ⟨φ1, T1, H1, h1, h2⟩
/-- Less may be known of the temporaries. -/
theorem awp_less {R : APost} {c : Code} (T' : Tmps) (h : AWp C nt H0 c R T' H) (ht : ∀ t, get T' t = get T t ∨ get T' t = .undef) : AWp C nt H0 c R T H := by
  intro φ0 φ base W0 W a hx hb hS hT hd
  refine h φ0 φ base W0 W a hx hb hS ⟨hT.1, fun t => ?_⟩ hd
  rcases ht t with e | e
  · rw [e]; exact hT.2 t
  · rw [e]; trivial
theorem awp_loop {R : APost} {c : Code} (I : Nat → Tmps → Heap → Prop) {n : Nat} (h0 : I n T H) (hr : ∀ n T H, I n T H → AWp C nt H0 c (fun e T1 H1 => match e with | .normal => ∃ m, m < n ∧ I m T1 H1 | e => R e T1 H1) T H) : AWp C nt H0 (.loop c) R T H := by
  intro φ0 φ base W0 W a hx hb hS hT hd b k cs
  have key : ∀ n φ W a T H, I n T H → Ext φ0 H0 φ H → Below base W0 W → Sim φ H base W → TRel φ H nt T a.tmps → a.defers = [] → ∃ e a' w', Lift nt φ0 H0 base W0 R e a' w' ∧ Arrives C.P (lone (b.at a (.code c :: .inLoop c :: k)) cs W) b k cs e a' w' := by
    intro n
    induction n using Nat.strongRecOn with
    | _ n ih =>
      intro φ W a T H hI hx hb hS hT hd
      obtain ⟨e, a₁, w₁, hq, harr⟩ := hr n T H hI φ0 φ base W0 W a hx hb hS hT hd b (.inLoop c :: k) cs
      obtain ⟨φ1, T1, H1, h1, h2, h3, h4, h5, h6⟩ := hq
      cases e with
      | normal =>
        obtain ⟨m, hm, hI1⟩ := h1
        obtain ⟨e₂, a₂, w₂, hq₂, harr₂⟩ := ih m hm φ1 w₁ a₁ T1 H1 hI1 h2 h6 h3 h4 h5
        exact ⟨e₂, a₂, w₂, hq₂, .of_steps (Steps.trans harr (.one step_inLoop)) harr₂⟩
      | exit id => exact ⟨_, a₁, w₁, ⟨φ1, T1, H1, h1, h2, h3, h4, h5, h6⟩, .pass (x := .inLoop c) rfl (fun _ _ => .inl (by simp)) harr⟩
      | goto l => exact ⟨_, a₁, w₁, ⟨φ1, T1, H1, h1, h2, h3, h4, h5, h6⟩, .pass (x := .inLoop c) rfl (fun _ _ => .inl (by simp)) harr⟩
      | ret => exact ⟨_, a₁, w₁, ⟨φ1, T1, H1, h1, h2, h3, h4, h5, h6⟩, .pass (x := .inLoop c) rfl (fun _ _ => .inl (by simp)) harr⟩
      | panic ch => exact ⟨_, a₁, w₁, ⟨φ1, T1, H1, h1, h2, h3, h4, h5, h6⟩, .pass (x := .inLoop c) rfl (fun _ _ => .inl (by simp)) harr⟩
      | outgrown => exact ⟨_, a₁, w₁, ⟨φ1, T1, H1, h1, h2, h3, h4, h5, h6⟩, .pass (x := .inLoop c) rfl (fun _ _ => .inl (by simp)) harr⟩
  obtain ⟨e, a', w', hq, harr⟩ := key n φ W a T H h0 hx hb hS hT hd
  exact ⟨e, a', w', hq, .of_steps (.one step_loop) harr⟩

/-! ### a region in its order -/
def AOps (C : Ctx) (nt : Nat) (H0 : Heap) (ops : Array Oper) (R : APost) (l : List Oper) (T : Tmps) (H : Heap) : Prop :=
  ∀ φ0 φ base W0 W a, Ext φ0 H0 φ H → Below base W0 W → Sim φ H base W → TRel φ H nt T a.tmps → a.defers = [] → wpList C.P ops (Lift nt φ0 H0 base W0 R) l a W
def putT (nt : Nat) (T : Tmps) (d : Option Tmp) (v : AV) : Option Tmps :=
  match d with
  | none => some T
  | some d => if d < nt then some ((d, v) :: T) else none
theorem putT_rel {T' : Tmps} {d : Option Tmp} {v : AV} {u : Value} (h : putT nt T d v = some T') (hT : TRel φ H nt T a.tmps) (hv : VRel φ H v u) : TRel φ H nt T' (a.put d u).tmps ∧ (a.put d u).defers = a.defers := by
  unfold putT at h
  cases d with
  | none => cases h; exact ⟨hT, rfl⟩
  | some d =>
    simp only at h
    split at h
    · rename_i hd
      cases h
      exact ⟨hT.put hd hv, rfl⟩
    · cases h
theorem aops_nil {R : APost} (h : R .normal T H) : AOps C nt H0 ops R [] T H := fun _ _ _ _ _ _ hx hb hS hT hd => lift_here hx hb hS hT hd h
theorem aops_step (hC : CtxOk C) {R : APost} {r : List Oper} {v : AV} {H1 : Heap} {ob : Prop} {T1 : Tmps} (h : gstep C ops T H o = some (v, H1, ob)) (hp : putT nt T o.dst v = some T1) (hob : ob) (hr : AOps C nt H0 ops R r T1 H1) : AOps C nt H0 ops R (o :: r) T H := by
  intro φ0 φ base W0 W a hx hb hS hT hd
  refine wpList_step fun K hK => gstep_sound hC h hob hT hS ?_
  intro φ1 W1 u k1 k2 k3 k4
  obtain ⟨p1, p2⟩ := putT_rel hp (TRel.ext k1 hT) k3
  exact hK _ _ (hr φ0 φ1 base W0 W1 (a.put o.dst u) (hx.trans k1) (hb.trans k4) k2 p1 (p2.trans hd))
/-- A call by a contract that isn't a function's. -/
theorem aops_call {R : APost} {r : List Oper} {c : Call} {x : Operand} {f : FuncId} {caps : List AV} (hg : o.guard = none) (ho : o.op = .call c) (hc : c.callee = .value x) (hx : aev T x = .fn f caps) {F : Func} (hf : C.P.funcs[f]? = some F) (hn : (F.name == "runtime.NumGoroutine") = false) (hb : F.body.isNone = false) {post : AV → Heap → Prop} (h : ACalls C.P f (c.args.toList.map (aev T) ++ caps) H post)
    (hr : ∀ v H1, post v H1 → ∃ T1, putT nt T o.dst v = some T1 ∧ AOps C nt H0 ops R r T1 H1) : AOps C nt H0 ops R (o :: r) T H := by
  intro φ0 φ base W0 W a hx0 hb0 hS hT hd
  refine wpList_plain hg fun K hK => l_call ho hc hS hT hx hf hn hb h ?_
  intro v H1 hp φ1 W1 u k1 k2 k3 k4
  obtain ⟨T1, q1, q2⟩ := hr v H1 hp
  obtain ⟨p1, p2⟩ := putT_rel q1 (TRel.ext k1 hT) k3
  exact hK _ _ (q2 φ0 φ1 base W0 W1 (a.put o.dst u) (hx0.trans k1) (hb0.trans k4) k2 p1 (p2.trans hd))
theorem awp_region {id : Nat} {R : APost} (h : AOps C nt H0 ops R ops.toList T H) : AWp C nt H0 (.region id ops false) R T H :=
  fun φ0 φ base W0 W a hx hb hS hT hd => wp_region_list (h φ0 φ base W0 W a hx hb hS hT hd)
/-- A row of operations, one behind the other. -/
def aseq (C : Ctx) (nt : Nat) (ops : Array Oper) : List Oper → Tmps → Heap → Option (Tmps × Heap × Prop)
  | [], T, H => some (T, H, True)
  | o :: r, T, H => match gstep C ops T H o with
    | some (v, H1, ob) => match putT nt T o.dst v with
      | some T1 => match aseq C nt ops r T1 H1 with
        | some (T2, H2, ob2) => some (T2, H2, ob ∧ ob2)
        | none => none
      | none => none
    | none => none
theorem aops_all (hC : CtxOk C) {R : APost} : ∀ (l : List Oper) (T : Tmps) (H : Heap) {T1 : Tmps} {H1 : Heap} {ob : Prop}, aseq C nt ops l T H = some (T1, H1, ob) → ob → R .normal T1 H1 → AOps C nt H0 ops R l T H
  | [], T, H, T1, H1, ob, h, _, hr => by cases h; exact aops_nil hr
  | o :: r, T, H, T1, H1, ob, h, hob, hr => by
    unfold aseq at h
    split at h
    · rename_i v H2 ob1 h1
      split at h
      · rename_i T2 h2
        split at h
        · rename_i T3 H3 ob3 h3
          cases h
          exact aops_step hC h1 h2 hob.1 (aops_all hC r T2 H2 h3 hob.2 hr)
        · cases h
      · cases h
    · cases h
def areg (C : Ctx) (nt : Nat) (ops : Array Oper) (R : APost) (T : Tmps) (H : Heap) : Prop := match aseq C nt ops ops.toList T H with
  | some (T1, H1, ob) => ob ∧ R .normal T1 H1
  | none => False
theorem awp_reg (hC : CtxOk C) {R : APost} {id : Nat} (h : areg C nt ops R T H) : AWp C nt H0 (.region id ops false) R T H := by
  unfold areg at h
  split at h
  · rename_i T1 H1 ob hq
    exact awp_region (aops_all hC _ _ _ hq h.1 h.2)
  · exact h.elim

/-! ### what is no longer wanted -/
mutual
def Small (n : Nat) : AV → Prop
  | .ptr b _ _ _ => b < n
  | .sl b _ _ _ => b < n
  | .fn _ caps => Smalls n caps
  | .agg cs => Smalls n cs
  | .tup cs => Smalls n cs
  | .opt b v => b = true → Small n v
  | _ => True
def Smalls (n : Nat) : List AV → Prop
  | [] => True
  | a :: r => Small n a ∧ Smalls n r
end
mutual
theorem VRel.small : ∀ (a : AV) (u : Value), VRel φ H a u → Small H.length a
  | .undef, _, _ => trivial
  | .bool _, _, _ => trivial
  | .int _ _, _, _ => trivial
  | .str _, _, _ => trivial
  | .nilptr, _, _ => trivial
  | .ptr _ _ _ _, _, h => by obtain ⟨_, B, hB, _⟩ := h; exact (List.getElem?_eq_some_iff.1 hB).1
  | .nilsl, _, _ => trivial
  | .sl _ _ _ _, _, h => by obtain ⟨_, B, hB, _⟩ := h; exact (List.getElem?_eq_some_iff.1 hB).1
  | .fn _ caps, _, ⟨vs, _, h⟩ => VRels.small caps _ h
  | .agg cs, _, ⟨vs, _, h⟩ => VRels.small cs _ h
  | .tup cs, _, ⟨vs, _, h⟩ => VRels.small cs _ h
  | .opt b v, u, h => fun e => VRel.small v u (h.1 e)
theorem VRels.small : ∀ (as_ : List AV) (us : List Value), VRels φ H as_ us → Smalls H.length as_
  | [], _, _ => trivial
  | a :: r, _, ⟨u, us', _, h1, h2⟩ => ⟨VRel.small a u h1, VRels.small r us' h2⟩
end
mutual
theorem VRel.drop {L : Heap} : ∀ (a : AV) (u : Value), Small H.length a → VRel φ (H ++ L) a u → VRel φ H a u
  | .undef, _, _, _ => trivial
  | .bool _, _, _, h => h
  | .int _ _, _, _, h => h
  | .str _, _, _, h => h
  | .nilptr, _, _, h => h
  | .ptr _ _ _ _, _, hs, h => by
    obtain ⟨h1, B, hB, h2⟩ := h
    rw [List.getElem?_append_left hs] at hB
    exact ⟨h1, B, hB, h2⟩
  | .nilsl, _, _, h => h
  | .sl _ _ _ _, _, hs, h => by
    obtain ⟨h1, B, hB, h2⟩ := h
    rw [List.getElem?_append_left hs] at hB
    exact ⟨h1, B, hB, h2⟩
  | .fn _ caps, _, hs, ⟨vs, e, h⟩ => ⟨vs, e, VRels.dropH caps _ hs h⟩
  | .agg cs, _, hs, ⟨vs, e, h⟩ => ⟨vs, e, VRels.dropH cs _ hs h⟩
  | .tup cs, _, hs, ⟨vs, e, h⟩ => ⟨vs, e, VRels.dropH cs _ hs h⟩
  | .opt b v, u, hs, h => ⟨fun e => VRel.drop v u (hs e) (h.1 e), h.2⟩
theorem VRels.dropH {L : Heap} : ∀ (as_ : List AV) (us : List Value), Smalls H.length as_ → VRels φ (H ++ L) as_ us → VRels φ H as_ us
  | [], _, _, h => h
  | a :: r, _, hs, ⟨u, us', e, h1, h2⟩ => ⟨u, us', e, VRel.drop a u hs.1 h1, VRels.dropH r us' hs.2 h2⟩
end
/-- No block leads out of the heap. -/
def Closed (H : Heap) : Prop := ∀ (b : Nat) (B : Blk), H[b]? = some B → ∀ (i j : Nat) (u : AV), i < B.len → (B.get i)[j]? = some u → Small H.length u
theorem Sim.closed (hS : Sim φ H base W) : Closed H := by
  intro b B hB i j u hi hu
  obtain ⟨x, _, h, _⟩ := hS.cell hB hi hu
  exact VRel.small _ _ h
theorem Sim.drop {L : Heap} (hS : Sim φ (H ++ L) base W) (hc : Closed H) : Sim φ H base W := by
  have up : ∀ {b : Nat} {B : Blk}, H[b]? = some B → (H ++ L)[b]? = some B := fun {b B} h => by rw [List.getElem?_append_left (List.getElem?_eq_some_iff.1 h).1]; exact h
  refine ⟨?_, ?_, ?_, ?_, hS.big, hS.g⟩
  · intro b B hB ho i j u hi hu
    obtain ⟨x, h1, h2, h3⟩ := hS.ro b B (up hB) ho i j u hi hu
    exact ⟨x, h1, VRel.drop _ _ (hc b B hB i j u hi hu) h2, h3⟩
  · intro b B hB ho
    rcases hS.ow b B (up hB) ho with h | ⟨h, cur, c1, c2, c3, c4, c5, c6, c7⟩
    · exact .inl h
    · refine .inr ⟨h, cur, c1, c2, c3, c4, c5, c6, fun i j u hi hu => ?_⟩
      obtain ⟨x, h1, h2, h3⟩ := c7 i j u hi hu
      exact ⟨x, h1, VRel.drop _ _ (hc b B hB i j u hi hu) h2, h3⟩
  · exact fun b b' B B' hB hB' => hS.inj b b' B B' (up hB) (up hB')
  · exact fun b B hB => hS.wf b B (up hB)
def smallT (n : Nat) : Tmps → Prop
  | [] => True
  | (_, v) :: r => Small n v ∧ smallT n r
theorem smallT_get {n : Nat} : ∀ {T : Tmps}, smallT n T → ∀ t, Small n (get T t)
  | [], _, _ => trivial
  | (k, v) :: r, h, t => by
    unfold get
    split
    · exact h.1
    · exact smallT_get h.2 t
/-- Blocks at the end that nothing leads to are let go. -/
theorem awp_drop {R : APost} {c : Code} {L : Heap} (hl : H0.length ≤ H.length) (hc : Closed H) (hs : smallT H.length T) (h : AWp C nt H0 c R T H) : AWp C nt H0 c R T (H ++ L) := by
  intro φ0 φ base W0 W a hx hb hS hT hd
  refine h φ0 φ base W0 W a ?_ hb (hS.drop hc) ⟨hT.1, fun t => VRel.drop _ _ (smallT_get hs t) (hT.2 t)⟩ hd
  intro b B hB
  obtain ⟨B', h1, h2⟩ := hx b B hB
  have hlt : b < H.length := Nat.lt_of_lt_of_le (List.getElem?_eq_some_iff.1 hB).1 hl
  rw [List.getElem?_append_left hlt] at h1
  exact ⟨B', h1, h2⟩
end
end
end Go.Proofs.YtjokedpaidmjoaaGreatDoor.Am
namespace Go.Proofs.YtjokedpaidmjoaaGreatDoor.Am
open Go Go.RowKit
section
variable {C : Ctx} {φ : Emb} {H : Heap} {base nt : Nat} {W : World} {a : Act} {T : Tmps}

theorem load_run {P : Program} {t : Nat} {u : Value} {b i j v : Nat} {B : Blk} (hS : Sim φ H base W) (hx : VRel φ H (.ptr b i j v) u) (hB : H[b]? = some B) (hv : B.ver = v)
    {ti : Ty} (ht : TyOk P t ti) (hi : i < B.len) (hj : j + ti.size ≤ B.sz) : ∃ r, (do loadVar t (← asAddr u) : Sem Value).run P W = .ok r W ∧ VRel φ H (ldv ti (B.get i) j) r := by
  have hp := ptr_at hx hB hv
  obtain ⟨us, u1, u2, u3, u4⟩ := cells_at hS hB hi ti.size j hj
  unfold ldv
  cases hg : ti.agg with
  | true =>
    rw [if_pos rfl]
    have hk := ht.kind
    unfold Ty.agg at hg
    cases hkk : ti.kind <;> rw [hkk] at hg hk <;> first | cases hg | skip
    rename_i fs
    obtain ⟨F, hu, _⟩ := hk
    refine ⟨.agg us.toArray, ?_, ⟨_, rfl, by simpa using u2⟩⟩
    simp only [hp, asAddr, Sem.run_bind, Sem.run_pure, Result.andThen_ok, run_loadVar_mid W (φ b).blk _ t us _ u3 hu rfl (by rw [u1]; exact ht.sz)]
  | false =>
    rw [if_neg (by simp)]
    have h1 := ht.one hg
    rw [h1] at u1 u2
    match us, u1 with
    | [u], _ =>
      have hl := hS.wf b B hB i hi
      have hjl : j < (B.get i).length := by omega
      rw [List.drop_eq_getElem_cons hjl, List.take_succ_cons] at u2
      obtain ⟨u', us', e, hr, _⟩ := u2
      simp only [List.cons.injEq] at e
      obtain ⟨rfl, _⟩ := e
      have hc := u3 0 u rfl
      rw [Nat.add_zero] at hc
      refine ⟨u, ?_, by rw [List.getD_eq_getElem?_getD, List.getElem?_eq_getElem hjl]; exact hr⟩
      have ha := ht.isAgg W
      rw [hg] at ha
      simp [hp, asAddr, Sem.run_bind, loadVar, ha, Go.load, Sem.run, hc]
def ares (C : Ctx) (T : Tmps) (H : Heap) : List ResultVar → Option (List AV × Prop)
  | [] => some ([], True)
  | .tmp t :: r => match ares C T H r with
    | some (vs, ob) => some (get T t :: vs, ob)
    | none => none
  | .cell x t :: r => match get T x, C.ty t, ares C T H r with
    | .ptr b i j v, some ti, some (vs, ob) => match hat H b with
      | some B => some (ldv ti (B.get i) j :: vs, B.ver = v ∧ i < B.len ∧ j + ti.size ≤ B.sz ∧ ob)
      | none => none
    | _, _, _ => none
def oneOr : List AV → AV
  | [v] => v
  | vs => .tup vs
def resOne (tmps : Array Value) : ResultVar → Sem Value
  | .tmp t => pure (tmps.getD t undef)
  | .cell x t => do loadVar t (← asAddr (tmps.getD x undef))
theorem ares_run (hC : CtxOk C) (hS : Sim φ H base W) (hT : TRel φ H nt T a.tmps) : ∀ (rs : List ResultVar) (vs : List AV) (ob : Prop), ares C T H rs = some (vs, ob) → ob →
    ∃ us, (rs.mapM (resOne a.tmps)).run C.P W = Result.ok us W ∧ VRels φ H vs us
  | [], vs, ob, h, _ => by cases h; exact ⟨[], by simp, rfl⟩
  | .tmp t :: r, vs, ob, h, hob => by
    unfold ares at h
    split at h
    · rename_i ws q hq
      cases h
      obtain ⟨us, h1, h2⟩ := ares_run hC hS hT r _ _ hq hob
      refine ⟨_ :: us, ?_, ⟨_, us, rfl, hT.2 t, h2⟩⟩
      rw [List.mapM_cons]
      simp only [resOne, Sem.run_bind, Sem.run_pure, Result.andThen_ok]
      rw [h1]
      rfl
    · cases h
  | .cell x t :: r, vs, ob, h, hob => by
    unfold ares at h
    split at h
    · rename_i b i j v ti ws q hx hti hq
      split at h
      · rename_i B hB
        cases h
        obtain ⟨o1, o2, o3, o4⟩ := hob
        obtain ⟨us, h1, h2⟩ := ares_run hC hS hT r _ _ hq o4
        have hxr := hT.2 x
        rw [hx] at hxr
        obtain ⟨y, y1, y2⟩ := load_run (P := C.P) hS hxr hB o1 (hC.ty _ _ hti) o2 o3
        refine ⟨y :: us, ?_, ⟨y, us, rfl, y2, h2⟩⟩
        rw [List.mapM_cons]
        have y1 : (resOne a.tmps (.cell x t)).run C.P W = .ok y W := y1
        rw [Sem.run_bind, y1]
        simp only [Result.andThen_ok]
        rw [Sem.run_bind, h1]
        rfl
      · cases h
    · cases h
/-- What a function's body must come to: L, blocks at the heap's end, may be let go. -/
def ABody (C : Ctx) (fn : Func) (H0 : Heap) (post : AV → Heap → Prop) : APost := fun e T H => (e = .normal ∨ e = .ret) ∧ ∃ vs ob, ares C T H fn.results.toList = some (vs, ob) ∧ ob ∧ ∃ H1 L, H = H1 ++ L ∧ H0.length ≤ H1.length ∧ Closed H1 ∧ Small H1.length (oneOr vs) ∧ post (oneOr vs) H1
def initT : Nat → List AV → Tmps
  | _, [] => []
  | k, v :: r => (k, v) :: initT (k + 1) r
theorem initT_get : ∀ (l : List AV) (k t : Nat), get (initT k l) t = if k ≤ t then (l[t - k]?).getD .undef else .undef
  | [], k, t => by simp [initT, get]
  | v :: r, k, t => by
    unfold initT get
    rw [initT_get r (k + 1) t]
    by_cases e : k = t
    · subst e; simp
    · rw [if_neg e]
      by_cases h : k ≤ t
      · rw [if_pos (by omega), if_pos h, show t - k = (t - (k + 1)) + 1 by omega]
        simp
      · rw [if_neg (by omega), if_neg h]
theorem acalls_of (hC : CtxOk C) {f : FuncId} {fn : Func} {c : Code} {args : List AV} {post : AV → Heap → Prop} (hf : C.P.funcs[f]? = some fn) (hb : fn.body = some c) (hn : nt = args.length + (fn.ntmps - args.length))
    (h : Closed H → AWp C nt H c (ABody C fn H post) (initT 0 args) H) : ACalls C.P f args H post := by
  intro φ base W vs hS hv
  have hl := VRels.length hv
  refine calls_of_wp hf hb (wp_mono (h hS.closed φ φ base W W _ (Ext.refl _ _) (Below.refl _ _) hS ?_ rfl) ?_)
  · refine ⟨by simp [hl, hn], fun t => ?_⟩
    rw [initT_get]
    simp only [Nat.zero_le, if_true, Nat.sub_zero]
    cases ht : args[t]? with
    | none => exact trivial
    | some v =>
      obtain ⟨u, u1, u2⟩ := VRels.get hv t v ht
      have hlt := (List.getElem?_eq_some_iff.1 u1).1
      have : (vs.toArray ++ Array.replicate (fn.ntmps - vs.toArray.size) undef).getD t undef = u := by
        rw [Array.getD_eq_getD_getElem?, Array.getElem?_append_left (by simpa using hlt)]
        simp [u1]
      show VRel φ H v _
      rw [this]
      exact u2
  · rintro e a1 W1 ⟨φ1, T1, H2, ⟨he, ws, ob, hr, hob, H1, L, rfl, hlen, hclo, hsm, hp⟩, h2, h3, h4, h5, h6⟩
    obtain ⟨us, r1, r2⟩ := ares_run (a := a1) hC h3 h4 _ _ _ hr hob
    have hres : (results fn a1.tmps).run C.P W1 = .ok (if h : us.length = 1 then us[0] else .tuple us.toArray) W1 := by
      unfold results
      have e1 : (fn.results.mapM (resOne a1.tmps)).run C.P W1 = Result.ok us.toArray W1 := by
        rw [Array.mapM_eq_mapM_toList]
        simp only [Sem.run_map, r1]
        rfl
      rw [Sem.run_bind]
      have e2 : (fn.results.mapM (resOne a1.tmps)).run C.P W1 = Result.ok us.toArray W1 := e1
      erw [e2]
      simp only [Result.andThen_ok, Sem.run_pure, List.size_toArray, List.getElem_toArray]
    have hval : VRel φ1 (H1 ++ L) (oneOr ws) (if h : us.length = 1 then us[0] else .tuple us.toArray) := by
      have hwl := VRels.length r2
      match ws, us, r2 with
      | [w], [u], ⟨u', us', e, q, _⟩ =>
        simp only [List.cons.injEq] at e
        obtain ⟨rfl, _⟩ := e
        exact q
      | [], us, r2 =>
        have : us = [] := r2
        subst this
        exact ⟨#[], rfl, rfl⟩
      | w :: w' :: r, us, r2 =>
        rw [dif_neg (by rw [VRels.length r2]; simp)]
        exact ⟨us.toArray, rfl, by simpa using r2⟩
    have hx1 : Ext φ H φ1 H1 := by
      intro b B hB
      obtain ⟨B', z1, z2⟩ := h2 b B hB
      have hlt : b < H1.length := Nat.lt_of_lt_of_le (List.getElem?_eq_some_iff.1 hB).1 hlen
      rw [List.getElem?_append_left hlt] at z1
      exact ⟨B', z1, z2⟩
    have hfin : (∃ v, (results fn a1.tmps).run C.P W1 = .ok v W1 ∧ ∃ φ' v' u H', Ending.returned v = .returned u ∧ post v' H' ∧ Ext φ H φ' H' ∧ Sim φ' H' base W1 ∧ VRel φ' H' v' u ∧ Below base W W1) := ⟨_, hres, φ1, _, _, H1, rfl, hp, hx1, h3.drop hclo, VRel.drop _ _ hsm hval, h6⟩
    rcases he with rfl | rfl
    · exact ⟨h5, hfin⟩
    · exact ⟨h5, hfin⟩
end
end Go.Proofs.YtjokedpaidmjoaaGreatDoor.Am
namespace Go.Proofs.YtjokedpaidmjoaaGreatDoor.Am
open Go Go.RowKit
section
variable {C : Ctx} {nt : Nat} {T T2 : Tmps} {H H0 H2 : Heap} {R : APost} {c : Code}
/-- These temporaries hold this. -/
def Has (T : Tmps) : Tmps → Prop
  | [] => True
  | (k, v) :: r => get T k = v ∧ Has T r
theorem Has.less : ∀ {T2 : Tmps}, Has T T2 → ∀ t, get T2 t = get T t ∨ get T2 t = .undef
  | [], _, t => .inr rfl
  | (k, v) :: r, h, t => by
    have hg : get ((k, v) :: r) t = if k = t then v else get r t := rfl
    rw [hg]
    by_cases e : k = t
    · subst e
      rw [if_pos rfl]
      exact .inl h.1.symm
    · rw [if_neg e]
      exact Has.less h.2 t
/-- Less is known: fewer temporaries, and blocks at the end let go. -/
def Weak (H0 : Heap) (T : Tmps) (H : Heap) (T2 : Tmps) (H2 : Heap) : Prop := Has T T2 ∧ (H = H2 ∨ ∃ L, H = H2 ++ L ∧ H0.length ≤ H2.length ∧ Closed H2 ∧ smallT H2.length T2)
theorem awp_weak (hw : Weak H0 T H T2 H2) (h : AWp C nt H0 c R T2 H2) : AWp C nt H0 c R T H := by
  obtain ⟨h1, rfl | ⟨L, rfl, h2, h3, h4⟩⟩ := hw
  · exact awp_less T2 h h1.less
  · exact awp_less T2 (awp_drop h2 h3 h4 h) h1.less
theorem awp_loopW (I : Nat → Tmps → Heap → Prop) (n : Nat) (T2 : Tmps) (H2 : Heap) (hw : Weak H0 T H T2 H2) (h0 : I n T2 H2)
    (hr : ∀ n T H, I n T H → AWp C nt H0 c (fun e T1 H1 => match e with | .normal => ∃ m T2 H2, m < n ∧ Weak H0 T1 H1 T2 H2 ∧ I m T2 H2 | e => R e T1 H1) T H) : AWp C nt H0 (.loop c) R T H := by
  refine awp_loop (fun n T H => ∃ T2 H2, Weak H0 T H T2 H2 ∧ I n T2 H2) (n := n) ⟨T2, H2, hw, h0⟩ ?_
  rintro n T H ⟨T2, H2, hw, hI⟩
  refine awp_mono (awp_weak hw (hr n T2 H2 hI)) ?_
  intro e T1 H1 h
  cases e with
  | normal =>
    obtain ⟨m, T3, H3, h1, h2, h3⟩ := h
    exact ⟨m, h1, T3, H3, h2, h3⟩
  | _ => exact h
mutual
theorem Small.mono {n m : Nat} (h : n ≤ m) : ∀ a : AV, Small n a → Small m a
  | .undef, _ => trivial
  | .bool _, _ => trivial
  | .int _ _, _ => trivial
  | .str _, _ => trivial
  | .nilptr, _ => trivial
  | .ptr _ _ _ _, q => Nat.lt_of_lt_of_le q h
  | .nilsl, _ => trivial
  | .sl _ _ _ _, q => Nat.lt_of_lt_of_le q h
  | .fn _ caps, q => Smalls.mono h caps q
  | .agg cs, q => Smalls.mono h cs q
  | .tup cs, q => Smalls.mono h cs q
  | .opt _ v, q => fun e => Small.mono h v (q e)
theorem Smalls.mono {n m : Nat} (h : n ≤ m) : ∀ l : List AV, Smalls n l → Smalls m l
  | [], _ => trivial
  | a :: r, q => ⟨Small.mono h a q.1, Smalls.mono h r q.2⟩
end
theorem Smalls.get {n : Nat} : ∀ {l : List AV}, Smalls n l → ∀ (i : Nat) (a : AV), l[i]? = some a → Small n a
  | [], _, i, a, h => by simp at h
  | b :: r, q, i, a, h => by
    cases i with
    | zero => simp at h; subst h; exact q.1
    | succ i => exact Smalls.get q.2 i a (by simpa using h)
theorem Closed.app {L : Heap} (h : Closed H) (hl : ∀ B ∈ L, ∀ i, i < B.len → Smalls (H ++ L).length (B.get i)) : Closed (H ++ L) := by
  intro b B hB i j u hi hu
  by_cases hlt : b < H.length
  · rw [List.getElem?_append_left hlt] at hB
    exact Small.mono (by simp) u (h b B hB i j u hi hu)
  · rw [List.getElem?_append_right (by omega)] at hB
    exact Smalls.get (hl B (List.mem_of_getElem? hB) i hi) j u hu
end
end Go.Proofs.YtjokedpaidmjoaaGreatDoor.Am
namespace Go.Proofs.YtjokedpaidmjoaaGreatDoor.Am
open Go Go.RowKit
section
variable {C : Ctx} {nt : Nat} {ops : Array Oper} {H0 : Heap}
/-! ### a region that draws its order -/
/-- An operation of a drawn region: the k-th to change the heap, or one that leaves it (run when so many have changed it). -/
inductive Pl where
  | eff (k : Nat)
  | quiet (cs : List Nat)
def restr (T : Tmps) (l : List Nat) : Tmps := l.map fun t => (t, get T t)
def looks (ops : Array Oper) (o : Oper) : List Nat := (match o.op with
  | .pick c x y => tmpsOf [c, x, y]
  | op => opTmps op) ++ (match o.guard with
  | some (g, _) => match (ops[g]?).bind (·.dst) with
    | some d => [d]
    | none => []
  | none => [])
def dstOf (ops : Array Oper) (j : Nat) : Option Nat := (ops[j]?).bind (·.dst)
def anc (A : List Nat) (i j : Nat) : Bool := (A.getD i 0).testBit j
def effAt (P : List Pl) (i : Nat) : Option Nat := match P[i]? with
  | some (.eff k) => some k
  | _ => none
def quietOk (A : List Nat) (P : List Pl) (n m i : Nat) (cs : List Nat) : Bool := (List.range (m + 1)).all fun c => cs.contains c || (List.range n).any fun j => match effAt P j with
  | some k => (anc A i j && decide (c ≤ k)) || (anc A j i && decide (k < c))
  | none => false
def looksOk (ops : Array Oper) (A : List Nat) (i t : Nat) : Bool := (List.range ops.size).all fun j => dstOf ops j != some t || ((!decide (j < i) || anc A i j) && (!decide (i < j) || anc A j i))
def drawOk (ops : Array Oper) (A : List Nat) (P : List Pl) (m : Nat) : Bool :=
  ((List.range ops.size).all fun i => (List.range ops.size).all fun j => !anc A i j || match ops[i]? with
    | some o => o.after.any fun e => Region.binds .any e && (e.on == j || anc A e.on j)
    | none => false) &&
  ((List.range ops.size).all fun i => match ops[i]? with | some o => o.after.all fun e => !Region.binds .any e || decide (e.on < i) | none => true) &&
  ((List.range ops.size).all fun i => (List.range ops.size).all fun j => i == j || (dstOf ops i).isNone || dstOf ops i != dstOf ops j) &&
  ((List.range ops.size).all fun i => match ops[i]? with | some o => (looks ops o).all (looksOk ops A i) | none => true) &&
  ((List.range ops.size).all fun i => (List.range ops.size).all fun j => i == j || (effAt P i).isNone || effAt P i != effAt P j) &&
  ((List.range ops.size).all fun i => match effAt P i with | some (k + 1) => (List.range ops.size).any fun j => effAt P j == some k && anc A i j | _ => true) &&
  ((List.range ops.size).all fun i => match P[i]? with | some (.quiet cs) => quietOk A P ops.size m i cs | _ => true) &&
  (m == 0 || (List.range ops.size).any fun i => effAt P i == some (m - 1)) &&
  ((List.range ops.size).all fun i => match effAt P i with | some k => decide (k < m) | none => true)
def gchk (C : Ctx) (ops : Array Oper) (T : Tmps) (H : Heap) (o : Oper) (v : AV) (H' : Heap) : Prop := match gstep C ops T H o with
  | some (v1, H1, ob) => v1 = v ∧ H1 = H' ∧ ob
  | none => False
def qchk (C : Ctx) (ops : Array Oper) (HH : List Heap) (T : Tmps) (o : Oper) (v : AV) : List Nat → Prop
  | [] => True
  | c :: r => gchk C ops T (HH.getD c []) o v (HH.getD c []) ∧ qchk C ops HH T o v r
def pchk (C : Ctx) (ops : Array Oper) (HH : List Heap) (T : Tmps) (o : Oper) (v : AV) : Pl → Prop
  | .eff k => gchk C ops T (HH.getD k []) o v (HH.getD (k + 1) [])
  | .quiet cs => qchk C ops HH T o v cs
def adchk (C : Ctx) (nt : Nat) (ops : Array Oper) (HH : List Heap) : List Oper → List AV → List Pl → Tmps → Prop
  | o :: r, v :: V, p :: P, T => pchk C ops HH (restr T (looks ops o)) o v p ∧ match putT nt T o.dst v with
    | some T1 => adchk C nt ops HH r V P T1
    | none => False
  | [], [], [], _ => True
  | _, _, _, _ => False
def tfin (nt : Nat) : List Oper → List AV → Tmps → Tmps
  | o :: r, v :: V, T => match putT nt T o.dst v with
    | some T1 => tfin nt r V T1
    | none => T
  | _, _, T => T
def tat (nt : Nat) : Nat → List Oper → List AV → Tmps → Tmps
  | i + 1, o :: r, v :: V, T => match putT nt T o.dst v with
    | some T1 => tat nt i r V T1
    | none => T
  | _, _, _, T => T
def awit (C : Ctx) (nt : Nat) (ops : Array Oper) : List Oper → List Pl → Tmps → Heap → Option (List AV × List Heap)
  | o :: r, p :: P, T, H => match gstep C ops (restr T (looks ops o)) H o with
    | some (v, H1, _) => match putT nt T o.dst v with
      | some T1 => match awit C nt ops r P T1 H1 with
        | some (V, L) => some (v :: V, match p with | .eff _ => H1 :: L | _ => L)
        | none => none
      | none => none
    | none => none
  | [], [], _, _ => some ([], [])
  | _, _, _, _ => none
def adraw (C : Ctx) (nt : Nat) (ops : Array Oper) (P : List Pl) (m : Nat) (R : APost) (T : Tmps) (H : Heap) : Prop := match awit C nt ops ops.toList P T H with
  | some (V, L) => adchk C nt ops (H :: L) ops.toList V P T ∧ R .normal (tfin nt ops.toList V T) ((H :: L).getD m [])
  | none => False

theorem get_restr (T : Tmps) : ∀ (l : List Nat) (t : Nat), t ∈ l → get (restr T l) t = get T t
  | k :: r, t, h => by
    show (if k = t then get T k else get (restr T r) t) = _
    by_cases e : k = t
    · rw [if_pos e, e]
    · rw [if_neg e]
      exact get_restr T r t (by
        cases h with
        | head => exact absurd rfl e
        | tail _ h => exact h)
theorem get_restr_out (T : Tmps) : ∀ (l : List Nat) (t : Nat), t ∉ l → get (restr T l) t = .undef
  | [], t, _ => rfl
  | k :: r, t, h => by
    show (if k = t then get T k else get (restr T r) t) = _
    rw [if_neg (fun e => h (by rw [e]; exact List.mem_cons_self))]
    exact get_restr_out T r t (fun q => h (List.mem_cons_of_mem _ q))
theorem putT_get {T T1 : Tmps} {d : Option Tmp} {v : AV} (h : putT nt T d v = some T1) (t : Nat) : get T1 t = if d = some t then v else get T t := by
  unfold putT at h
  cases d with
  | none => cases h; rw [if_neg (by simp)]
  | some d =>
    simp only at h
    split at h
    · cases h
      show (if d = t then v else get T t) = _
      by_cases e : d = t
      · rw [if_pos e, if_pos (by rw [e])]
      · rw [if_neg e, if_neg (by simpa using e)]
    · cases h
theorem putT_lt {T T1 : Tmps} {d : Nat} {v : AV} (h : putT nt T (some d) v = some T1) : d < nt := by
  unfold putT at h
  simp only at h
  split at h
  · assumption
  · cases h
/-- What is known of the i-th operation. -/
theorem adchk_at {HH : List Heap} : ∀ (l : List Oper) (V : List AV) (P : List Pl) (T : Tmps), adchk C nt ops HH l V P T → ∀ (i : Nat) (o : Oper), l[i]? = some o →
    ∃ v p, V[i]? = some v ∧ P[i]? = some p ∧ pchk C ops HH (restr (tat nt i l V T) (looks ops o)) o v p ∧ ∀ d, o.dst = some d → d < nt
  | [], _, _, _, _, i, o, h => by simp at h
  | o :: r, [], _, _, hc, _, _, _ => by simp [adchk] at hc
  | o :: r, v :: V, [], _, hc, _, _, _ => by simp [adchk] at hc
  | o :: r, v :: V, p :: P, T, hc, i, o', h => by
    obtain ⟨h1, h2⟩ := hc
    split at h2
    · rename_i T1 hp
      cases i with
      | zero =>
        simp only [List.getElem?_cons_zero, Option.some.injEq] at h
        subst h
        refine ⟨v, p, rfl, rfl, h1, fun d hd => ?_⟩
        rw [hd] at hp
        exact putT_lt hp
      | succ i =>
        obtain ⟨v', p', a1, a2, a3, a4⟩ := adchk_at r V P T1 h2 i o' (by simpa using h)
        refine ⟨v', p', by simpa using a1, by simpa using a2, ?_, a4⟩
        unfold tat
        rw [hp]
        exact a3
    · exact h2.elim
theorem tat_old {HH : List Heap} : ∀ (i : Nat) (l : List Oper) (V : List AV) (P : List Pl) (T : Tmps), adchk C nt ops HH l V P T → ∀ t : Nat, (∀ (j : Nat) (o : Oper), j < i → l[j]? = some o → o.dst ≠ some t) → get (tat nt i l V T) t = get T t
  | 0, _, _, _, _, _, _, _ => by unfold tat; rfl
  | i + 1, [], _, _, _, _, _, _ => by unfold tat; rfl
  | i + 1, o :: r, [], _, _, hc, _, _ => by simp [adchk] at hc
  | i + 1, o :: r, v :: V, [], _, hc, _, _ => by simp [adchk] at hc
  | i + 1, o :: r, v :: V, p :: P, T, hc, t, h => by
    obtain ⟨h1, h2⟩ := hc
    split at h2
    · rename_i T1 hp
      unfold tat
      rw [hp]
      dsimp only
      rw [tat_old i r V P T1 h2 t (fun j o' hj ho => h (j + 1) o' (by omega) (by simpa using ho)), putT_get hp, if_neg (h 0 o (by omega) rfl)]
    · exact h2.elim
theorem tat_new {HH : List Heap} : ∀ (i : Nat) (l : List Oper) (V : List AV) (P : List Pl) (T : Tmps), adchk C nt ops HH l V P T → ∀ (t j : Nat) (o : Oper) (v : AV), j < i → l[j]? = some o → o.dst = some t → V[j]? = some v → (∀ (j' : Nat) (o' : Oper), j < j' → l[j']? = some o' → o'.dst ≠ some t) → get (tat nt i l V T) t = v
  | 0, _, _, _, _, _, _, _, _, _, h, _, _, _, _ => by omega
  | i + 1, [], _, _, _, _, _, _, _, _, _, h, _, _, _ => by simp at h
  | i + 1, o :: r, [], _, _, hc, _, _, _, _, _, _, _, _, _ => by simp [adchk] at hc
  | i + 1, o :: r, v :: V, [], _, hc, _, _, _, _, _, _, _, _, _ => by simp [adchk] at hc
  | i + 1, o :: r, v :: V, p :: P, T, hc, t, j, o', v', hj, ho, hd, hv, h => by
    have hc' := hc
    obtain ⟨h1, h2⟩ := hc
    split at h2
    · rename_i T1 hp
      unfold tat
      rw [hp]
      dsimp only
      cases j with
      | zero =>
        simp only [List.getElem?_cons_zero, Option.some.injEq] at ho hv
        subst ho
        subst hv
        rw [tat_old i r V P T1 h2 t (fun j o' hj ho => h (j + 1) o' (by omega) (by simpa using ho)), putT_get hp, if_pos hd]
      | succ j => exact tat_new i r V P T1 h2 t j o' v' (by omega) (by simpa using ho) hd (by simpa using hv) (fun j' o' hj ho => h (j' + 1) o' (by omega) (by simpa using ho))
    · exact h2.elim
theorem tfin_tat {HH : List Heap} : ∀ (l : List Oper) (V : List AV) (P : List Pl) (T : Tmps), adchk C nt ops HH l V P T → tfin nt l V T = tat nt l.length l V T
  | [], [], [], _, _ => rfl
  | [], v :: V, _, _, hc => by simp [adchk] at hc
  | [], [], p :: P, _, hc => by simp [adchk] at hc
  | o :: r, [], _, _, hc => by simp [adchk] at hc
  | o :: r, v :: V, [], _, hc => by simp [adchk] at hc
  | o :: r, v :: V, p :: P, T, hc => by
    obtain ⟨h1, h2⟩ := hc
    split at h2
    · rename_i T1 hp
      rw [List.length_cons]
      unfold tfin tat
      simp only [hp]
      exact tfin_tat r V P T1 h2
    · exact h2.elim
theorem qchk_at {HH : List Heap} {T : Tmps} {o : Oper} {v : AV} : ∀ {cs : List Nat} {c : Nat}, qchk C ops HH T o v cs → c ∈ cs → gchk C ops T (HH.getD c []) o v (HH.getD c [])
  | d :: r, c, h, hm => by
    cases hm with
    | head => exact h.1
    | tail _ hm => exact qchk_at h.2 hm

/-- How a drawn region stands: c of its operations have changed the heap. -/
structure Drw (nt : Nat) (ops : Array Oper) (H0 : Heap) (φ0 : Emb) (base : Nat) (W0 : World) (P : List Pl) (V : List AV) (HH : List Heap) (T : Tmps) (m : Nat) (l : Array Bool) (a : Act) (w : World) (c : Nat) (φ : Emb) : Prop where
  le : c ≤ m
  eff : ∀ i k, i < ops.size → effAt P i = some k → (l.getD i false = true ↔ k < c)
  ext : Ext φ0 H0 φ (HH.getD c [])
  sim : Sim φ (HH.getD c []) base w
  done : ∀ (j : Nat) (o : Oper) (t : Tmp) (v : AV), ops[j]? = some o → o.dst = some t → l.getD j false = true → V[j]? = some v → VRel φ (HH.getD c []) v (a.tmps.getD t undef)
  keep : ∀ t : Tmp, (∀ (j : Nat) (o : Oper), ops[j]? = some o → l.getD j false = true → o.dst ≠ some t) → VRel φ (HH.getD c []) (get T t) (a.tmps.getD t undef)
  size : a.tmps.size = nt
  defers : a.defers = []
  below : Below base W0 w
theorem anc_listed {A : List Nat} {l : Array Bool} (h1 : ((List.range ops.size).all fun i => (List.range ops.size).all fun j => !anc A i j || match ops[i]? with
    | some o => o.after.any fun e => Region.binds .any e && (e.on == j || anc A e.on j)
    | none => false) = true) (h2 : ((List.range ops.size).all fun i => match ops[i]? with | some o => o.after.all fun e => !Region.binds .any e || decide (e.on < i) | none => true) = true)
    (hcl : ∀ (j : Nat) (o : Oper), ops[j]? = some o → l.getD j false = true → ∀ e ∈ o.after, Region.binds .any e = true → l.getD e.on false = true) :
    ∀ (i : Nat) (o : Oper) (j : Nat), ops[i]? = some o → j < ops.size → anc A i j = true → (∀ e ∈ o.after, Region.binds .any e = true → l.getD e.on false = true) → l.getD j false = true := by
  intro i
  induction i using Nat.strongRecOn with
  | _ i ih =>
    intro o j ho hj ha hr
    have hi := (Array.getElem?_eq_some_iff.1 ho).1
    have q := List.all_eq_true.1 (List.all_eq_true.1 h1 i (List.mem_range.2 hi)) j (List.mem_range.2 hj)
    rw [ho, ha] at q
    simp only [Bool.not_true, Bool.false_or] at q
    obtain ⟨e, he, q⟩ := Array.any_eq_true'.1 q
    simp only [Bool.and_eq_true, Bool.or_eq_true, beq_iff_eq] at q
    obtain ⟨q1, q2⟩ := q
    have hl := hr e he q1
    rcases q2 with q2 | q2
    · rw [← q2]; exact hl
    · have b := List.all_eq_true.1 h2 i (List.mem_range.2 hi)
      rw [ho] at b
      have b := (Array.all_eq_true_iff_forall_mem.1 b) e he
      rw [q1] at b
      have b : e.on < i := by simpa using b
      have hon : ops[e.on]? = some ops[e.on] := Array.getElem?_eq_getElem (by omega)
      exact ih e.on b _ j hon hj q2 (fun e' he' hb' => hcl e.on _ hon hl e' he' hb')
theorem restr_rel {φ : Emb} {H : Heap} {T : Tmps} {A : Array Value} {l : List Nat} (hs : A.size = nt) (h : ∀ t ∈ l, VRel φ H (get T t) (A.getD t undef)) : TRel φ H nt (restr T l) A := by
  refine ⟨hs, fun t => ?_⟩
  by_cases ht : t ∈ l
  · rw [get_restr T l t ht]; exact h t ht
  · rw [get_restr_out T l t ht]; trivial
theorem wpAny_draw {φ0 : Emb} {base : Nat} {W0 : World} {P : List Pl} {A : List Nat} {V : List AV} {HH : List Heap} {T : Tmps} {m : Nat} {R : APost} (hC : CtxOk C) (hok : drawOk ops A P m = true) (hchk : adchk C nt ops HH ops.toList V P T) (hR : R .normal (tfin nt ops.toList V T) (HH.getD m [])) :
    ∀ (fuel : Nat) (l : Array Bool) (a : Act) (w : World), l.size = ops.size → l.toList.count false ≤ fuel →
      (∀ (j : Nat) (o : Oper), ops[j]? = some o → l.getD j false = true → ∀ e ∈ o.after, Region.binds .any e = true → l.getD e.on false = true) →
      (∃ c φ, Drw nt ops H0 φ0 base W0 P V HH T m l a w c φ) → wpAny C.P .any ops (Lift nt φ0 H0 base W0 R) fuel l a w := by
  unfold drawOk at hok
  simp only [Bool.and_eq_true] at hok
  obtain ⟨⟨⟨⟨⟨⟨⟨⟨k1, k2⟩, k3⟩, k4⟩, k5⟩, k6⟩, k7⟩, k8⟩, k9⟩ := hok
  have dist : ∀ (j j' : Nat) (o o' : Oper) (t : Nat), ops[j]? = some o → ops[j']? = some o' → o.dst = some t → o'.dst = some t → j = j' := by
    intro j j' o o' t h1 h2 h3 h4
    have q := List.all_eq_true.1 (List.all_eq_true.1 k3 j (List.mem_range.2 (Array.getElem?_eq_some_iff.1 h1).1)) j' (List.mem_range.2 (Array.getElem?_eq_some_iff.1 h2).1)
    unfold dstOf at q
    rw [h1, h2] at q
    simpa [h3, h4] using q
  have fin : ∀ (l : Array Bool) (a : Act) (w : World), l.size = ops.size → (∃ c φ, Drw nt ops H0 φ0 base W0 P V HH T m l a w c φ) → Region.ready .any ops l = [] → Lift nt φ0 H0 base W0 R .normal a w := by
    rintro l a w hn ⟨c, φ, hD⟩ hr
    have hall : ∀ i, i < ops.size → l.getD i false = true := by
      intro i
      induction i using Nat.strongRecOn with
      | _ i ih =>
        intro hi
        cases hl : l.getD i false with
        | true => rfl
        | false =>
          exfalso
          have hl' : l.getD i true = false := by
            rw [Array.getD_eq_getD_getElem?] at hl ⊢
            rw [Array.getElem?_eq_getElem (by omega)] at hl ⊢
            exact hl
          have : i ∈ Region.ready .any ops l := by
            refine mem_ready.2 ⟨hl', ops[i], Array.getElem?_eq_getElem hi, fun e he hbe => ?_⟩
            have h1 := List.all_eq_true.1 k2 i (List.mem_range.2 hi)
            rw [Array.getElem?_eq_getElem hi] at h1
            have h2 := (Array.all_eq_true_iff_forall_mem.1 h1) e he
            rw [hbe] at h2
            have h3 : e.on < i := by simpa using h2
            exact ih e.on h3 (by omega)
          rw [hr] at this
          cases this
    have hc : c = m := by
      rcases Bool.or_eq_true _ _ ▸ k8 with h | h
      · have h : m = 0 := by simpa using h
        have := hD.le
        omega
      · obtain ⟨i, hi, he⟩ := List.any_eq_true.1 h
        have he : effAt P i = some (m - 1) := by simpa using he
        have hi := List.mem_range.1 hi
        have h1 := (hD.eff i _ hi he).1 (hall i hi)
        have h2 := List.all_eq_true.1 k9 i (List.mem_range.2 hi)
        rw [he] at h2
        have := hD.le
        have : m - 1 < m := by simpa using h2
        omega
    subst hc
    refine ⟨φ, _, _, hR, hD.ext, hD.sim, ⟨hD.size, fun t => ?_⟩, hD.defers, hD.below⟩
    rw [tfin_tat _ _ _ _ hchk]
    by_cases ht : ∃ (j : Nat) (o : Oper), ops[j]? = some o ∧ o.dst = some t
    · obtain ⟨j, o, ho, hd⟩ := ht
      obtain ⟨v, p, a1, a2, a3, a4⟩ := adchk_at _ _ _ _ hchk j o (by simpa using ho)
      have hj := (Array.getElem?_eq_some_iff.1 ho).1
      rw [tat_new _ _ _ _ _ hchk t j o v (by simpa using hj) (by simpa using ho) hd a1 (fun j' o' hj' ho' hd' => by
        have := dist j j' o o' t ho (by simpa using ho') hd hd'
        omega)]
      exact hD.done j o t v ho hd (hall j hj) a1
    · have hno : ∀ (j : Nat) (o : Oper), ops[j]? = some o → o.dst ≠ some t := fun j o ho hd => ht ⟨j, o, ho, hd⟩
      rw [tat_old _ _ _ _ _ hchk t (fun j o _ ho => hno j o (by simpa using ho))]
      exact hD.keep t (fun j o ho _ => hno j o ho)
  intro fuel
  induction fuel with
  | zero =>
    intro l a w hn hf hcl hD
    have hr : Region.ready .any ops l = [] := by
      cases hr : Region.ready .any ops l with
      | nil => rfl
      | cons i r =>
        exfalso
        obtain ⟨hun, o, ho, _⟩ := mem_ready.1 (hr ▸ List.mem_cons_self : i ∈ Region.ready .any ops l)
        have hlt : i < l.size := by rw [hn]; exact (Array.getElem?_eq_some_iff.1 ho).1
        rw [Array.getD_eq_getD_getElem?, Array.getElem?_eq_getElem hlt] at hun
        have hm : false ∈ l.toList := by
          have : l[i] = false := hun
          rw [← this]
          exact Array.mem_toList_iff.2 (Array.getElem_mem hlt)
        have := List.count_pos_iff.2 hm
        omega
    exact ⟨hr, fin l a w hn hD hr⟩
  | succ fuel ih =>
    intro l a w hn hf hcl hD
    refine ⟨fun hr => fin l a w hn hD hr, fun i hi => ?_⟩
    obtain ⟨c, φ, hD⟩ := hD
    obtain ⟨hun, o, ho, hall⟩ := mem_ready.1 hi
    have hio := (Array.getElem?_eq_some_iff.1 ho).1
    have hlt : i < l.size := by rw [hn]; exact hio
    have hif : l.getD i false = false := by
      rw [Array.getD_eq_getD_getElem?] at hun ⊢
      rw [Array.getElem?_eq_getElem hlt] at hun ⊢
      exact hun
    obtain ⟨v, p, a1, a2, a3, a4⟩ := adchk_at _ _ _ _ hchk i o (by simpa using ho)
    -- who is behind i is not listed
    have behind : ∀ (j : Nat) (o' : Oper), ops[j]? = some o' → anc A j i = true → l.getD j false = false := by
      intro j o' ho' ha
      cases hl : l.getD j false with
      | false => rfl
      | true =>
        have := anc_listed k1 k2 hcl j o' i ho' hio ha (fun e he hb => hcl j o' ho' hl e he hb)
        rw [hif] at this
        cases this
    have ahead : ∀ j, j < ops.size → anc A i j = true → l.getD j false = true := fun j hj ha => anc_listed k1 k2 hcl i o j ho hj ha hall
    have hT : TRel φ (HH.getD c []) nt (restr (tat nt i ops.toList V T) (looks ops o)) a.tmps := by
      refine restr_rel hD.size fun t ht => ?_
      have q := List.all_eq_true.1 k4 i (List.mem_range.2 hio)
      rw [ho] at q
      have q := List.all_eq_true.1 (List.all_eq_true.1 q t ht)
      by_cases hx : ∃ (j : Nat) (o' : Oper), j < i ∧ ops[j]? = some o' ∧ o'.dst = some t
      · obtain ⟨j, o', hji, ho', hd⟩ := hx
        have hj := (Array.getElem?_eq_some_iff.1 ho').1
        obtain ⟨v', p', b1, b2, b3, b4⟩ := adchk_at _ _ _ _ hchk j o' (by simpa using ho')
        rw [tat_new _ _ _ _ _ hchk t j o' v' hji (by simpa using ho') hd b1 (fun j' o'' hj' ho'' hd' => by
          have := dist j j' o' o'' t ho' (by simpa using ho'') hd hd'
          omega)]
        have q := q j (List.mem_range.2 hj)
        unfold dstOf at q
        rw [ho'] at q
        simp [hd, hji] at q
        exact hD.done j o' t v' ho' hd (ahead j hj q.1) b1
      · rw [tat_old _ _ _ _ _ hchk t (fun j o' hj ho' hd => hx ⟨j, o', hj, by simpa using ho', hd⟩)]
        refine hD.keep t fun j o' ho' hl hd => ?_
        have hj := (Array.getElem?_eq_some_iff.1 ho').1
        have q := q j (List.mem_range.2 hj)
        unfold dstOf at q
        rw [ho'] at q
        have hji : ¬ j < i := fun h => hx ⟨j, o', h, ho', hd⟩
        have hne : j ≠ i := fun e => by subst e; rw [hif] at hl; cases hl
        have hij : i < j := by omega
        simp [hd, hji, hij] at q
        rw [behind j o' ho' q] at hl
        cases hl
    have hg : ∀ j d, (l.setIfInBounds i true).getD j d = if i = j then true else l.getD j d := fun j d => by
      by_cases e : i = j
      · subst e
        rw [if_pos rfl]
        simp [Array.getD_eq_getD_getElem?, Array.getElem?_setIfInBounds, hlt]
      · rw [if_neg e]
        exact getD_set_ne d e
    -- the operation, from a heap to a heap
    have key : ∀ c', gchk C ops (restr (tat nt i ops.toList V T) (looks ops o)) (HH.getD c []) o v (HH.getD c' []) → c' ≤ m → (∀ j k, j < ops.size → effAt P j = some k → ((l.setIfInBounds i true).getD j false = true ↔ k < c')) →
        wpOp C.P ops (Lift nt φ0 H0 base W0 R) i (wpAny C.P .any ops (Lift nt φ0 H0 base W0 R) fuel (l.setIfInBounds i true)) a w := by
      intro c' hgc hc' heff
      unfold gchk at hgc
      split at hgc
      · rename_i v1 H1 ob hst
        obtain ⟨rfl, rfl, hob⟩ := hgc
        refine wpOp_step ho fun K' hK => gstep_sound hC hst hob hT hD.sim ?_
        intro φ1 w1 u z1 z2 z3 z4
        refine hK _ _ (ih _ _ _ (by simpa using hn) ?_ ?_ ⟨c', φ1, hc', heff, hD.ext.trans z1, z2, ?_, ?_, ?_, ?_, hD.below.trans z4⟩)
        · have h1 : l.toList[i]? = some false := by
            have : l[i] = false := by
              rw [Array.getD_eq_getD_getElem?, Array.getElem?_eq_getElem hlt] at hif
              exact hif
            simp [this, hlt]
          have : ∀ (l : List Bool) (i : Nat), l[i]? = some false → (l.set i true).count false + 1 = l.count false := by
            intro l
            induction l with
            | nil => intro i h; simp at h
            | cons b r ih =>
              intro i h
              cases i with
              | zero => simp at h; subst h; simp
              | succ i =>
                have := ih i (by simpa using h)
                rw [List.set_cons_succ, List.count_cons, List.count_cons]
                omega
          have := this l.toList i h1
          rw [Array.toList_setIfInBounds]
          omega
        · intro j oj hj hl e he hbe
          rw [hg] at hl ⊢
          by_cases ee : i = e.on
          · rw [if_pos ee]
          · rw [if_neg ee]
            by_cases ej : i = j
            · subst ej
              have : oj = o := Option.some.inj (hj.symm.trans ho)
              subst this
              exact hall e he hbe
            · rw [if_neg ej] at hl
              exact hcl j oj hj hl e he hbe
        · intro j oj t v' hj hd hl hv'
          rw [hg] at hl
          by_cases ej : i = j
          · subst ej
            have : oj = o := Option.some.inj (hj.symm.trans ho)
            subst this
            have : v' = v1 := Option.some.inj (hv'.symm.trans a1)
            subst this
            have htn := a4 t hd
            have : (a.put oj.dst u).tmps.getD t undef = u := by
              rw [hd]
              show (a.tmps.setIfInBounds t u).getD t undef = u
              rw [Array.getD_eq_getD_getElem?, Array.getElem?_setIfInBounds_self_of_lt (by rw [hD.size]; exact htn)]; rfl
            rw [this]
            exact z3
          · rw [if_neg ej] at hl
            have h1 := VRel.ext z1 _ _ (hD.done j oj t v' hj hd hl hv')
            have hne : o.dst ≠ some t := fun e => ej (dist i j o oj t ho hj e hd)
            have : (a.put o.dst u).tmps.getD t undef = a.tmps.getD t undef := by
              cases hd2 : o.dst with
              | none => rfl
              | some d =>
                have : d ≠ t := fun e => hne (by rw [hd2, e])
                show (a.tmps.setIfInBounds d u).getD t undef = _
                rw [Array.getD_eq_getD_getElem?, Array.getElem?_setIfInBounds_ne this, ← Array.getD_eq_getD_getElem?]
            rw [this]
            exact h1
        · intro t ht
          have hne : o.dst ≠ some t := ht i o ho (by rw [hg, if_pos rfl])
          have h1 := VRel.ext z1 _ _ (hD.keep t (fun j oj hj hl => ht j oj hj (by rw [hg]; split <;> first | rfl | exact hl)))
          have : (a.put o.dst u).tmps.getD t undef = a.tmps.getD t undef := by
            cases hd2 : o.dst with
            | none => rfl
            | some d =>
              have : d ≠ t := fun e => hne (by rw [hd2, e])
              show (a.tmps.setIfInBounds d u).getD t undef = _
              rw [Array.getD_eq_getD_getElem?, Array.getElem?_setIfInBounds_ne this, ← Array.getD_eq_getD_getElem?]
          rw [this]
          exact h1
        · cases hd : o.dst <;> simp [Act.put, hD.size]
        · cases hd : o.dst <;> simp [Act.put, hD.defers]
      · exact hgc.elim
    cases p with
    | eff k =>
      have he : effAt P i = some k := by unfold effAt; rw [a2]
      have h1 : ¬ k < c := fun h => by
        have := (hD.eff i k hio he).2 h
        rw [hif] at this
        cases this
      have hkm : k < m := by
        have h2 := List.all_eq_true.1 k9 i (List.mem_range.2 hio)
        rw [he] at h2
        simpa using h2
      have hck : c = k := by
        cases k with
        | zero => omega
        | succ k0 =>
          have h2 := List.all_eq_true.1 k6 i (List.mem_range.2 hio)
          rw [he] at h2
          obtain ⟨j, hj, h3⟩ := List.any_eq_true.1 h2
          simp only [Bool.and_eq_true, beq_iff_eq] at h3
          have hj := List.mem_range.1 hj
          have := (hD.eff j k0 hj h3.1).1 (ahead j hj h3.2)
          omega
      subst hck
      refine key (c + 1) a3 (by omega) fun j k hj hk => ?_
      rw [hg]
      by_cases ej : i = j
      · subst ej
        have : k = c := Option.some.inj (hk.symm.trans he)
        rw [if_pos rfl]
        exact ⟨fun _ => by omega, fun _ => rfl⟩
      · rw [if_neg ej, hD.eff j k hj hk]
        have h2 := List.all_eq_true.1 (List.all_eq_true.1 k5 i (List.mem_range.2 hio)) j (List.mem_range.2 hj)
        have : k ≠ c := by
          intro e
          subst e
          simp [he, hk, ej] at h2
        omega
    | quiet cs =>
      have hcs : c ∈ cs := by
        have h2 := List.all_eq_true.1 k7 i (List.mem_range.2 hio)
        rw [a2] at h2
        have h2 := List.all_eq_true.1 h2 c (List.mem_range.2 (by have := hD.le; omega))
        rcases Bool.or_eq_true _ _ ▸ h2 with h | h
        · simpa using h
        · exfalso
          obtain ⟨j, hj, h3⟩ := List.any_eq_true.1 h
          have hj := List.mem_range.1 hj
          split at h3
          · rename_i k hk
            simp only [Bool.or_eq_true, Bool.and_eq_true, decide_eq_true_eq] at h3
            rcases h3 with ⟨b1, b2⟩ | ⟨b1, b2⟩
            · have := (hD.eff j k hj hk).1 (ahead j hj b1)
              omega
            · have h4 := behind j ops[j] (Array.getElem?_eq_getElem hj) b1
              have := (hD.eff j k hj hk).2 b2
              rw [h4] at this
              cases this
          · cases h3
      have hni : effAt P i = none := by unfold effAt; rw [a2]
      refine key c (qchk_at a3 hcs) hD.le fun j k hj hk => ?_
      rw [hg]
      by_cases ej : i = j
      · subst ej
        rw [hni] at hk
        cases hk
      · rw [if_neg ej]
        exact hD.eff j k hj hk
theorem awp_draw {R : APost} {id : Nat} {T : Tmps} {H : Heap} (hC : CtxOk C) (hm : C.P.follows .mixedOrders = true) (A : List Nat) (P : List Pl) (m : Nat) (hok : drawOk ops A P m = true) (h : adraw C nt ops P m R T H) : AWp C nt H0 (.region id ops true) R T H := by
  intro φ0 φ base W0 W a hx hb hS hT hd
  unfold adraw at h
  split at h
  · rename_i V L _
    obtain ⟨h1, h2⟩ := h
    have hb' : Below base W { W with drawn := W.drawn + 1 } := ⟨rfl, rfl, rfl, Nat.le_refl _, fun _ _ => rfl⟩
    refine wp_region_any hm (wpAny_draw (P := P) (A := A) (m := m) hC hok h1 h2 ops.size _ a _ (by simp) (by simp) ?_ ⟨0, φ, Nat.zero_le _, ?_, hx, ?_, ?_, fun t _ => hT.2 t, hT.1, hd, hb.trans hb'⟩)
    · intro j o hj hl
      exfalso
      simp [Array.getD_eq_getD_getElem?, Array.getElem?_replicate] at hl
      split at hl <;> simp at hl
    · intro i k hi hk
      constructor
      · intro hl
        exfalso
        simp [Array.getD_eq_getD_getElem?, Array.getElem?_replicate] at hl
        split at hl <;> simp at hl
      · intro h; omega
    · exact hS.same hb' (fun _ _ _ _ _ => rfl)
    · intro j o t v hj _ hl
      exfalso
      simp [Array.getD_eq_getD_getElem?, Array.getElem?_replicate] at hl
      split at hl <;> simp at hl
  · exact h.elim
theorem awp_closed {R : APost} {c : Code} {T : Tmps} {H : Heap} (h : Closed H → (∀ t, Small H.length (get T t)) → AWp C nt H0 c R T H) : AWp C nt H0 c R T H :=
  fun φ0 φ base W0 W a hx hb hS hT hd => h hS.closed (fun t => VRel.small _ _ (hT.2 t)) φ0 φ base W0 W a hx hb hS hT hd
theorem abody_of {fn : Func} {post : AV → Heap → Prop} {e : Exit} {T : Tmps} {H : Heap} (vs : List AV) (he : e = .normal ∨ e = .ret) (h : match ares C T H fn.results.toList with | some (vs', ob) => vs' = vs ∧ ob | none => False) (hlen : H0.length ≤ H.length) (hcl : Closed H) (hsm : Small H.length (oneOr vs)) (hp : post (oneOr vs) H) : ABody C fn H0 post e T H := by
  split at h
  · rename_i vs' ob hq
    obtain ⟨rfl, hob⟩ := h
    exact ⟨he, _, ob, hq, hob, H, [], (List.append_nil _).symm, hlen, hcl, hsm, hp⟩
  · exact h.elim
end
end Go.Proofs.YtjokedpaidmjoaaGreatDoor.Am
namespace Go.Proofs.YtjokedpaidmjoaaGreatDoor.Am
open Go Go.RowKit
section
variable {C : Ctx} {nt : Nat} {H0 : Heap}
/-! ### a whole body, walked as one -/
def WThen (K : Tmps → Heap → Prop) (R : APost) : APost
  | .normal, T, H => K T H
  | e, T, H => R e T H
/-- What a body must come to, reckoned along its code; what is not reckoned stays as it is. -/
def awalk (C : Ctx) (nt : Nat) (H0 : Heap) : Code → APost → Tmps → Heap → Prop
  | .seq x y, R, T, H => awalk C nt H0 x (WThen (awalk C nt H0 y R) R) T H
  | .region id ops false, R, T, H => match aseq C nt ops ops.toList T H with
    | some (T1, H1, ob) => ob ∧ R .normal T1 H1
    | none => AWp C nt H0 (.region id ops false) R T H
  | .cond c x y, R, T, H => match aev T c with
    | .bool b => (b = true → awalk C nt H0 x R T H) ∧ (b = false → awalk C nt H0 y R T H)
    | _ => False
  | .block i c, R, T, H => awalk C nt H0 c (AIn i R) T H
  | .skip, R, T, H => R .normal T H
  | .ret, R, T, H => R .ret T H
  | .exit i, R, T, H => R (.exit i) T H
  | .goto i, R, T, H => R (.goto i) T H
  | .label _, R, T, H => R .normal T H
  | c, R, T, H => AWp C nt H0 c R T H
theorem awalk_sound (hC : CtxOk C) : ∀ (c : Code) (R : APost) (T : Tmps) (H : Heap), awalk C nt H0 c R T H → AWp C nt H0 c R T H
  | .seq x y, R, T, H, h => by
    unfold awalk at h
    refine awp_seq (awp_mono (awalk_sound hC x _ T H h) ?_)
    intro e T1 H1 h1
    cases e with
    | normal => exact awalk_sound hC y R T1 H1 h1
    | _ => exact h1
  | .region id ops false, R, T, H, h => by
    unfold awalk at h
    split at h
    · rename_i T1 H1 ob hq
      exact awp_region (aops_all hC _ _ _ hq h.1 h.2)
    · exact h
  | .region id ops true, R, T, H, h => by unfold awalk at h; exact h
  | .cond c x y, R, T, H, h => by
    unfold awalk at h
    split at h
    · rename_i b hb
      exact awp_cond hb (fun e => awalk_sound hC x R T H (h.1 e)) (fun e => awalk_sound hC y R T H (h.2 e))
    · exact h.elim
  | .block i c, R, T, H, h => by
    unfold awalk at h
    exact awp_block (awalk_sound hC c _ T H h)
  | .skip, R, T, H, h => by unfold awalk at h; exact awp_skip h
  | .ret, R, T, H, h => by unfold awalk at h; exact awp_ret h
  | .exit i, R, T, H, h => by unfold awalk at h; exact awp_exit h
  | .goto i, R, T, H, h => by unfold awalk at h; exact awp_goto h
  | .label i, R, T, H, h => by unfold awalk at h; exact awp_label h
  | .loop c, R, T, H, h => by unfold awalk at h; exact h
  | .rangeFunc _ _ _ _, R, T, H, h => by unfold awalk at h; exact h
  | .scope c, R, T, H, h => by unfold awalk at h; exact h
  | .refuse _, R, T, H, h => by unfold awalk at h; exact h
/-- What stands behind a part of the code. -/
def WSeq (C : Ctx) (nt : Nat) (H0 : Heap) (y : Code) (R : APost) : APost := WThen (awalk C nt H0 y R) R
section
variable (x y : Code) (R : APost) (T : Tmps) (H : Heap) (i : Nat)
theorem ws_n : WSeq C nt H0 y R .normal T H = awalk C nt H0 y R T H := rfl
theorem ws_r : WSeq C nt H0 y R .ret T H = R .ret T H := rfl
theorem ws_e : WSeq C nt H0 y R (.exit i) T H = R (.exit i) T H := rfl
theorem ws_g : WSeq C nt H0 y R (.goto i) T H = R (.goto i) T H := rfl
theorem aw_seq : awalk C nt H0 (.seq x y) R T H = awalk C nt H0 x (WSeq C nt H0 y R) T H := rfl
theorem aw_reg (ops : Array Oper) : awalk C nt H0 (.region i ops false) R T H = (match aseq C nt ops ops.toList T H with
    | some (T1, H1, ob) => ob ∧ R .normal T1 H1
    | none => AWp C nt H0 (.region i ops false) R T H) := rfl
theorem aw_draw (ops : Array Oper) : awalk C nt H0 (.region i ops true) R T H = AWp C nt H0 (.region i ops true) R T H := rfl
theorem aw_cond (c : Operand) : awalk C nt H0 (.cond c x y) R T H = (match aev T c with
    | .bool b => (b = true → awalk C nt H0 x R T H) ∧ (b = false → awalk C nt H0 y R T H)
    | _ => False) := rfl
theorem aw_block : awalk C nt H0 (.block i x) R T H = awalk C nt H0 x (AIn i R) T H := rfl
theorem aw_skip : awalk C nt H0 .skip R T H = R .normal T H := rfl
theorem aw_ret : awalk C nt H0 .ret R T H = R .ret T H := rfl
theorem aw_exit : awalk C nt H0 (.exit i) R T H = R (.exit i) T H := rfl
theorem aw_goto : awalk C nt H0 (.goto i) R T H = R (.goto i) T H := rfl
theorem aw_label : awalk C nt H0 (.label i) R T H = R .normal T H := rfl
theorem aw_loop : awalk C nt H0 (.loop x) R T H = AWp C nt H0 (.loop x) R T H := rfl
theorem aw_scope : awalk C nt H0 (.scope x) R T H = AWp C nt H0 (.scope x) R T H := rfl
theorem awalk_mono : ∀ (c : Code) {R R' : APost} (_ : ∀ e T H, R e T H → R' e T H) (T : Tmps) (H : Heap), awalk C nt H0 c R T H → awalk C nt H0 c R' T H
  | .seq x y, R, R', hr, T, H, h => awalk_mono x (fun e T1 H1 q => by
      cases e with
      | normal => exact awalk_mono y hr T1 H1 q
      | _ => exact hr _ _ _ q) T H h
  | .region id ops false, R, R', hr, T, H, h => by
    unfold awalk at h ⊢
    split
    · rename_i T1 H1 ob hq
      rw [hq] at h
      exact ⟨h.1, hr _ _ _ h.2⟩
    · rename_i hq
      rw [hq] at h
      exact awp_mono h hr
  | .region id ops true, R, R', hr, T, H, h => awp_mono h hr
  | .cond c x y, R, R', hr, T, H, h => by
    unfold awalk at h ⊢
    split at h
    · rename_i b hb
      exact ⟨fun e => awalk_mono x hr T H (h.1 e), fun e => awalk_mono y hr T H (h.2 e)⟩
    · exact h.elim
  | .block i c, R, R', hr, T, H, h => awalk_mono c (fun e T1 H1 q => by
      cases e with
      | exit j =>
        have q : if j = i then R .normal T1 H1 else R (.exit j) T1 H1 := q
        show if j = i then R' .normal T1 H1 else R' (.exit j) T1 H1
        split
        · rename_i e; rw [if_pos e] at q; exact hr _ _ _ q
        · rename_i e; rw [if_neg e] at q; exact hr _ _ _ q
      | _ => exact hr _ _ _ q) T H h
  | .skip, R, R', hr, T, H, h => hr _ _ _ h
  | .ret, R, R', hr, T, H, h => hr _ _ _ h
  | .exit i, R, R', hr, T, H, h => hr _ _ _ h
  | .goto i, R, R', hr, T, H, h => hr _ _ _ h
  | .label i, R, R', hr, T, H, h => hr _ _ _ h
  | .loop c, R, R', hr, T, H, h => awp_mono h hr
  | .rangeFunc _ _ _ _, R, R', hr, T, H, h => awp_mono h hr
  | .scope c, R, R', hr, T, H, h => awp_mono h hr
  | .refuse _, R, R', hr, T, H, h => awp_mono h hr
/-- A part by itself, then the rest, from what the part leaves. -/
theorem awalk_mid {x y : Code} {R : APost} {T : Tmps} {H : Heap} (Mid : Tmps → Heap → Prop) (h : awalk C nt H0 x (fun e T1 H1 => e = .normal ∧ Mid T1 H1) T H) (k : ∀ T1 H1, Mid T1 H1 → awalk C nt H0 y R T1 H1) : awalk C nt H0 (.seq x y) R T H :=
  awalk_mono x (fun e T1 H1 q => by obtain ⟨rfl, q⟩ := q; exact k T1 H1 q) T H h
theorem aseq_app {ops : Array Oper} : ∀ (l1 l2 : List Oper) (T : Tmps) (H : Heap), aseq C nt ops (l1 ++ l2) T H = (match aseq C nt ops l1 T H with
    | some (T1, H1, ob1) => (match aseq C nt ops l2 T1 H1 with
      | some (T2, H2, ob2) => some (T2, H2, ob1 ∧ ob2)
      | none => none)
    | none => none)
  | [], l2, T, H => by
    simp only [List.nil_append, aseq]
    cases aseq C nt ops l2 T H with
    | none => rfl
    | some q => obtain ⟨a, b, c⟩ := q; simp
  | o :: r, l2, T, H => by
    simp only [List.cons_append, aseq]
    cases gstep C ops T H o with
    | none => rfl
    | some q =>
      obtain ⟨v, H1, ob⟩ := q
      dsimp only
      cases putT nt T o.dst v with
      | none => rfl
      | some T1 =>
        dsimp only
        rw [aseq_app r l2 T1 H1]
        cases aseq C nt ops r T1 H1 with
        | none => rfl
        | some q =>
          obtain ⟨T2, H2, ob2⟩ := q
          dsimp only
          cases aseq C nt ops l2 T2 H2 with
          | none => rfl
          | some q => obtain ⟨T3, H3, ob3⟩ := q; simp [and_assoc]
/-- A long region in two pieces. -/
theorem aw_split {ops : Array Oper} {id : Nat} {R : APost} {T : Tmps} {H : Heap} (k : Nat) (M : Tmps → Heap → Prop) (h1 : match aseq C nt ops (ops.toList.take k) T H with | some (T1, H1, ob) => ob ∧ M T1 H1 | none => False) (h2 : ∀ T1 H1, M T1 H1 → match aseq C nt ops (ops.toList.drop k) T1 H1 with | some (T2, H2, ob) => ob ∧ R .normal T2 H2 | none => False) : awalk C nt H0 (.region id ops false) R T H := by
  have e := aseq_app (C := C) (nt := nt) (ops := ops) (ops.toList.take k) (ops.toList.drop k) T H
  rw [List.take_append_drop] at e
  cases hq : aseq C nt ops (ops.toList.take k) T H with
  | none => rw [hq] at h1; exact h1.elim
  | some q =>
    obtain ⟨T1, H1, ob⟩ := q
    rw [hq] at h1 e
    have h3 := h2 T1 H1 h1.2
    cases hq2 : aseq C nt ops (ops.toList.drop k) T1 H1 with
    | none => rw [hq2] at h3; exact h3.elim
    | some q2 =>
      obtain ⟨T2, H2, ob2⟩ := q2
      rw [hq2] at h3
      dsimp only at e
      rw [hq2] at e
      unfold awalk
      rw [e]
      exact ⟨⟨h1.1, h3.1⟩, h3.2⟩
theorem aseq_split {ops : Array Oper} {l : List Oper} {T : Tmps} {H : Heap} {Q : Tmps → Heap → Prop} (k : Nat) (M : Tmps → Heap → Prop) (h1 : match aseq C nt ops (l.take k) T H with | some (T1, H1, ob) => ob ∧ M T1 H1 | none => False) (h2 : ∀ T1 H1, M T1 H1 → match aseq C nt ops (l.drop k) T1 H1 with | some (T2, H2, ob) => ob ∧ Q T2 H2 | none => False) : match aseq C nt ops l T H with | some (T2, H2, ob) => ob ∧ Q T2 H2 | none => False := by
  have e := aseq_app (C := C) (nt := nt) (ops := ops) (l.take k) (l.drop k) T H
  rw [List.take_append_drop] at e
  cases hq : aseq C nt ops (l.take k) T H with
  | none => rw [hq] at h1; exact h1.elim
  | some q =>
    obtain ⟨T1, H1, ob⟩ := q
    rw [hq] at h1 e
    have h3 := h2 T1 H1 h1.2
    cases hq2 : aseq C nt ops (l.drop k) T1 H1 with
    | none => rw [hq2] at h3; exact h3.elim
    | some q2 =>
      obtain ⟨T2, H2, ob2⟩ := q2
      rw [hq2] at h3
      dsimp only at e
      rw [hq2] at e
      rw [e]
      exact ⟨⟨h1.1, h3.1⟩, h3.2⟩
end
end
end Go.Proofs.YtjokedpaidmjoaaGreatDoor.Am
namespace Go.Proofs.YtjokedpaidmjoaaGreatDoor.Am
open Go Go.RowKit
section
theorem hget (L0 L : Heap) (k : Nat) : hat (L0 ++ L) (L0.length + k) = hat L k := by
  unfold hat
  rw [List.getElem?_append_right (by omega)]; congr 1; omega
theorem hat_z (B : Blk) (L : Heap) : hat (B :: L) 0 = some B := rfl
theorem hat_s (B : Blk) (L : Heap) (n : Nat) : hat (B :: L) (n + 1) = hat L n := rfl
theorem hget0 (L0 L : Heap) : hat (L0 ++ L) L0.length = hat L 0 := by
  unfold hat
  rw [List.getElem?_append_right (Nat.le_refl _), Nat.sub_self]
theorem aops_pref {C : Ctx} {nt : Nat} {H0 : Heap} {ops : Array Oper} {T : Tmps} {H : Heap} {R : APost} {l : List Oper} (hC : CtxOk C) (n : Nat) (h : match aseq C nt ops (l.take n) T H with | some (T1, H1, ob) => ob ∧ AOps C nt H0 ops R (l.drop n) T1 H1 | none => False) : AOps C nt H0 ops R l T H := by
  induction n generalizing l T H with
  | zero => simpa [aseq] using h
  | succ n ih =>
    cases l with
    | nil => simpa [aseq] using h
    | cons o r =>
      simp only [List.take_succ_cons, List.drop_succ_cons, aseq] at h
      split at h
      · rename_i T1 H1 ob hq
        split at hq
        · rename_i v H2 ob1 h1
          split at hq
          · rename_i T2 h2
            split at hq
            · rename_i T3 H3 ob3 h3
              cases hq
              exact aops_step hC h1 h2 h.1.1 (ih (by rw [h3]; exact ⟨h.1.2, h.2⟩))
            · cases hq
          · cases hq
        · cases hq
      · exact h.elim
/-! ### calls of contracts over values alone -/
def flatD : AV → Bool
  | .agg cs => cs.all AV.flat
  | .tup cs => cs.all AV.flat
  | a => a.flat
def concD : AV → Value
  | .agg cs => .agg (cs.map conc).toArray
  | .tup cs => .tuple (cs.map conc).toArray
  | a => conc a
theorem flats_conc {φ : Emb} {H : Heap} : ∀ {l : List AV} {us : List Value}, l.all AV.flat = true → VRels φ H l us → us = l.map conc
  | [], _, _, h => h
  | a :: r, _, hf, ⟨u, us', e, h1, h2⟩ => by
    simp only [List.all_cons, Bool.and_eq_true] at hf
    rw [e, flat_rel hf.1 h1, flats_conc hf.2 h2]
    rfl
theorem flatD_rel {φ : Emb} {H : Heap} {a : AV} (h : flatD a = true) {u : Value} (hr : VRel φ H a u) : u = concD a := by
  cases a with
  | agg cs =>
    obtain ⟨vs, rfl, h2⟩ := hr
    have := flats_conc h h2
    show Value.agg vs = .agg (cs.map conc).toArray
    rw [← this]
  | tup cs =>
    obtain ⟨vs, rfl, h2⟩ := hr
    have := flats_conc h h2
    show Value.tuple vs = .tuple (cs.map conc).toArray
    rw [← this]
  | undef => cases h
  | ptr => cases h
  | sl => cases h
  | fn => cases h
  | opt => cases h
  | bool => exact hr
  | int => exact hr
  | str => exact hr
  | nilptr => exact hr
  | nilsl => exact hr
theorem concD_rel {φ : Emb} {H : Heap} {a : AV} (h : flatD a = true) : VRel φ H a (concD a) := by
  cases a with
  | agg cs => exact ⟨_, rfl, by simpa using flats_rel h⟩
  | tup cs => exact ⟨_, rfl, by simpa using flats_rel h⟩
  | undef => cases h
  | ptr => cases h
  | sl => cases h
  | fn => cases h
  | opt => cases h
  | bool => rfl
  | int => rfl
  | str => rfl
  | nilptr => rfl
  | nilsl => rfl
theorem flatDs {φ : Emb} {H : Heap} : ∀ {l : List AV} {us : List Value}, (∀ a ∈ l, flatD a = true) → VRels φ H l us → us = l.map concD
  | [], _, _, h => h
  | a :: r, _, hf, ⟨u, us', e, h1, h2⟩ => by
    rw [e, flatD_rel (hf a (by simp)) h1, flatDs (fun b hb => hf b (by simp [hb])) h2]
    rfl
theorem Sim.below_heap {φ : Emb} {H : Heap} {base : Nat} {W W' : World} (hS : Sim φ H base W) (hb : Below W.heap.size W W') : Sim φ H base W' ∧ Below base W W' := by
  have h1 := hb.mono hS.big
  refine ⟨hS.same h1 (fun b B hB ho hn => ?_), h1⟩
  rcases hS.ow b B hB ho with q | ⟨_, cur, c1, _⟩
  · rw [hn] at q; cases q.1
  · exact hb.block _ c1.lt
theorem cons_inv {φ : Emb} {H : Heap} {a : AV} {l : List AV} {us : List Value} (h : VRels φ H (a :: l) us) : ∃ u us', us = u :: us' ∧ VRel φ H a u ∧ VRels φ H l us' := h
theorem GIv.heap {base : Nat} {W : World} (h : GIv base W) : GIv base W := h
/-- A contract over values alone, of a function that returns values alone. -/
theorem acalls_flat {P : Program} {f : FuncId} {args : List AV} {H : Heap} {v : AV} (ha : ∀ a ∈ args, flatD a = true) (hv : flatD v = true) (h : ∀ base W, GIv base W → Calls P f (args.map concD).toArray W fun e W' => e = .returned (concD v) ∧ Below W.heap.size W W') : ACalls P f args H fun v' H' => v' = v ∧ H' = H := by
  intro φ base W vs hS hvs
  rw [flatDs ha hvs]
  refine (h base W hS.g).mono ?_
  rintro e W' ⟨rfl, hb⟩
  obtain ⟨h1, h2⟩ := Sim.below_heap hS hb
  exact ⟨φ, v, concD v, H, rfl, ⟨rfl, rfl⟩, Ext.refl _ _, h1, concD_rel hv, h2⟩
/-! ### a row that a contract has made -/
theorem Sim.adopt {φ : Emb} {H : Heap} {base : Nat} {W W' : World} (hS : Sim φ H base W) (hb : Below W.heap.size W W') {e : TypeId} {sz n : Nat} {v : Value} {xs : List Value} (h : W'.ownsRow W.heap.size e sz v n xs) (g : Nat → List AV) (hg : ∀ i, i < n → (g i).length = sz)
    (hr : ∀ i j u, i < n → (g i)[j]? = some u → ∃ x, xs[i * sz + j]? = some x ∧ VRel φ H u x ∧ x.oneCell' = true) :
    ∃ φ', Ext φ H φ' (H ++ [newRowBlk e sz n g]) ∧ Sim φ' (H ++ [newRowBlk e sz n g]) base W' ∧ VRel φ' (H ++ [newRowBlk e sz n g]) (.sl H.length 0 n 0) v := by
  have hB : Below base W W' := hb.mono hS.big
  have hx : ∀ p, Ext φ H (φ.upd H.length p) (H ++ [newRowBlk e sz n g]) := by
    intro p b B0 hB0
    have hlt : b < H.length := (List.getElem?_eq_some_iff.1 hB0).1
    exact ⟨B0, by rw [List.getElem?_append_left hlt]; exact hB0, rfl, rfl, rfl, Nat.le_refl _, fun _ => Nat.le_refl _, fun _ => φ.upd_ne _ (by omega)⟩
  have hkeep : ∀ p b B0, (H ++ [newRowBlk e sz n g])[b]? = some B0 → b ≠ H.length → H[b]? = some B0 ∧ (φ.upd H.length p) b = φ b ∧ (B0.own = true → (φ b).none = false → W'.heap[(φ b).blk]? = W.heap[(φ b).blk]?) := by
    intro p b B0 hB0 hne
    have hlt : b < H.length := by
      have := (List.getElem?_eq_some_iff.1 hB0).1
      rw [List.length_append] at this; simp at this; omega
    rw [List.getElem?_append_left hlt] at hB0
    refine ⟨hB0, φ.upd_ne _ hne, fun ho hn => ?_⟩
    rcases hS.ow b B0 hB0 ho with q | ⟨_, cur, c1, _⟩
    · rw [hn] at q; cases q.1
    · exact hb.block _ c1.lt
  have hnew : (H ++ [newRowBlk e sz n g])[H.length]? = some (newRowBlk e sz n g) := by simp
  obtain ⟨hl, ⟨rfl, rfl⟩ | ⟨q, cap, cur, rfl, h1, h2, h3, h4, h5, h6⟩⟩ := h
  · refine ⟨φ.upd H.length ⟨0, 0, 0, true⟩, hx _, hS.step (hx _) hB H.length (hkeep _) ?_, ?_⟩
    · intro B0 hB0
      rw [hnew] at hB0
      obtain rfl := Option.some.inj hB0
      refine ⟨rfl, .inl ⟨by rw [Emb.upd_self], rfl⟩, fun i hi => (by cases hi), fun h => ?_⟩
      rw [Emb.upd_self] at h
      cases h
    · exact sl_mk hnew rfl (Nat.le_refl _) (.inl ⟨rfl, by rw [Emb.upd_self], rfl, rfl, rfl⟩)
  · refine ⟨φ.upd H.length ⟨q, 0, cap, false⟩, hx _, hS.step (hx _) hB H.length (hkeep _) ?_, ?_⟩
    · intro B0 hB0
      rw [hnew] at hB0
      obtain rfl := Option.some.inj hB0
      refine ⟨rfl, .inr ⟨by rw [Emb.upd_self], cur, ?_⟩, hg, fun _ b B' hB' ho' hn' hne => ?_⟩
      · rw [Emb.upd_self]
        refine ⟨.of h2, rfl, h5, h3, h4, by have := hS.big; show base ≤ q; omega, fun i j u hi hu => ?_⟩
        obtain ⟨x, x1, x2, x3⟩ := hr i j u hi hu
        refine ⟨x, ?_, VRel.ext (hx _) _ _ x2, x3⟩
        rw [← h6] at x1
        rw [← Array.getElem?_toList]
        rw [List.getElem?_take] at x1
        split at x1
        · exact x1
        · cases x1
      · rw [Emb.upd_self]
        have hlt : b < H.length := by
          have := (List.getElem?_eq_some_iff.1 hB').1
          rw [List.length_append] at this; simp at this; omega
        rw [List.getElem?_append_left hlt] at hB'
        rcases hS.ow b B' hB' ho' with z | ⟨_, cur0, c1, _⟩
        · rw [hn'] at z; cases z.1
        · have := c1.lt
          show (φ b).blk ≠ q
          omega
    · exact sl_mk hnew rfl (by show 0 + n ≤ n; omega) (.inr ⟨fun _ => by rw [Emb.upd_self], h3, fun _ => by rw [Emb.upd_self]; simp, fun _ => by rw [Emb.upd_self]; simp⟩)
end
end Go.Proofs.YtjokedpaidmjoaaGreatDoor.Am
namespace Go.Proofs.YtjokedpaidmjoaaGreatDoor.Am
open Go Go.RowKit
/-! ### a scope in which the run jumps to labels -/
def JExit (J : Nat → Act → World → Prop) (Q : Exit → Act → World → Prop) : Exit → Act → World → Prop
  | .goto l, a, w => J l a w
  | e, a, w => Q e a w
theorem wp_labels {P : Program} {a : Act} {w : World} {Q : Exit → Act → World → Prop} {c : Code} (J : Nat → Nat → Act → World → Prop)
    (first : c.wp P (JExit (fun l a w => ∃ n, J l n a w) Q) a w)
    (pass : ∀ n l a w, J l n a w → ∃ rest, findLabel c l = some rest ∧ rest.wp P (JExit (fun l' a' w' => ∃ n', n' < n ∧ J l' n' a' w') Q) a w) : (Code.scope c).wp P Q a w := by
  intro b k cs
  have key : ∀ n l a w, J l n a w → ∃ rest, findLabel c l = some rest ∧ ∃ e a' w', Q e a' w' ∧ Arrives P (lone (b.at a (.code rest :: .inScope c :: k)) cs w) b k cs e a' w' := by
    intro n
    induction n using Nat.strongRecOn with
    | _ n ih =>
      intro l a w hJ
      obtain ⟨rest, hf, hwp⟩ := pass n l a w hJ
      refine ⟨rest, hf, ?_⟩
      obtain ⟨e, a₁, w₁, hq, harr⟩ := hwp b (.inScope c :: k) cs
      cases e with
      | normal => exact ⟨.normal, a₁, w₁, hq, Steps.trans harr (.one step_inScope)⟩
      | exit id => exact ⟨.exit id, a₁, w₁, hq, fun k' hk => harr k' (by simp [exitTo, hk])⟩
      | goto l' =>
        obtain ⟨n', hlt, hJ'⟩ := hq
        obtain ⟨rest', hf', e₂, a₂, w₂, hq₂, harr₂⟩ := ih n' hlt l' a₁ w₁ hJ'
        exact ⟨e₂, a₂, w₂, hq₂, .of_steps (harr _ (by simp [gotoIn, hf'])) harr₂⟩
      | ret => exact ⟨_, a₁, w₁, hq, harr⟩
      | panic ch => exact ⟨_, a₁, w₁, hq, harr⟩
      | outgrown => exact ⟨_, a₁, w₁, hq, harr⟩
  obtain ⟨e, a₁, w₁, hq, harr⟩ := first b (.inScope c :: k) cs
  cases e with
  | normal => exact ⟨.normal, a₁, w₁, hq, .head step_scope (Steps.trans harr (.one step_inScope))⟩
  | exit id => exact ⟨.exit id, a₁, w₁, hq, fun k' hk => .head step_scope (harr k' (by simp [exitTo, hk]))⟩
  | goto l' =>
    obtain ⟨n', hJ'⟩ := hq
    obtain ⟨rest', hf', e₂, a₂, w₂, hq₂, harr₂⟩ := key n' l' a₁ w₁ hJ'
    exact ⟨e₂, a₂, w₂, hq₂, .of_steps (.head step_scope (harr _ (by simp [gotoIn, hf']))) harr₂⟩
  | ret => exact ⟨_, a₁, w₁, hq, .of_steps (.one step_scope) harr⟩
  | panic ch => exact ⟨_, a₁, w₁, hq, .of_steps (.one step_scope) harr⟩
  | outgrown => exact ⟨_, a₁, w₁, hq, .of_steps (.one step_scope) harr⟩
section
variable {C : Ctx} {nt : Nat} {T T2 : Tmps} {H H0 H2 : Heap} {R : APost} {c : Code}
def AJ (J : Nat → Tmps → Heap → Prop) (R : APost) : APost
  | .goto l, T, H => J l T H
  | e, T, H => R e T H
theorem awp_labels (J : Nat → Nat → Tmps → Heap → Prop) (first : AWp C nt H0 c (AJ (fun l T1 H1 => ∃ n T2 H2, Weak H0 T1 H1 T2 H2 ∧ J l n T2 H2) R) T H)
    (pass : ∀ n l T H, J l n T H → ∃ rest, findLabel c l = some rest ∧ AWp C nt H0 rest (AJ (fun l' T1 H1 => ∃ n' T2 H2, n' < n ∧ Weak H0 T1 H1 T2 H2 ∧ J l' n' T2 H2) R) T H) : AWp C nt H0 (.scope c) R T H := by
  intro φ0 φ base W0 W a hx hb hS hT hd
  refine wp_labels (fun l n a w => ∃ φ T H, (∃ T2 H2, Weak H0 T H T2 H2 ∧ J l n T2 H2) ∧ Ext φ0 H0 φ H ∧ Sim φ H base w ∧ TRel φ H nt T a.tmps ∧ a.defers = [] ∧ Below base W0 w) ?_ ?_
  · refine wp_mono (first φ0 φ base W0 W a hx hb hS hT hd) ?_
    rintro e a1 W1 ⟨φ1, T1, H1, h1, h2, h3, h4, h5, h6⟩
    cases e with
    | goto l =>
      obtain ⟨n, T2, H2, h7, h8⟩ := h1
      exact ⟨n, φ1, T1, H1, ⟨T2, H2, h7, h8⟩, h2, h3, h4, h5, h6⟩
    | _ => exact ⟨φ1, T1, H1, h1, h2, h3, h4, h5, h6⟩
  · rintro n l a1 W1 ⟨φ1, T1, H1, ⟨T2, H2, hw, hJ⟩, h2, h3, h4, h5, h6⟩
    obtain ⟨rest, hf, hr⟩ := pass n l T2 H2 hJ
    refine ⟨rest, hf, wp_mono (awp_weak hw hr φ0 φ1 base W0 W1 a1 h2 h6 h3 h4 h5) ?_⟩
    rintro e a2 W2 ⟨φ2, T3, H3, g1, g2, g3, g4, g5, g6⟩
    cases e with
    | goto l' =>
      obtain ⟨n', T4, H4, g7, g8, g9⟩ := g1
      exact ⟨n', g7, φ2, T3, H3, ⟨T4, H4, g8, g9⟩, g2, g3, g4, g5, g6⟩
    | _ => exact ⟨φ2, T3, H3, g1, g2, g3, g4, g5, g6⟩
end
end Go.Proofs.YtjokedpaidmjoaaGreatDoor.Am
namespace Go.Proofs.YtjokedpaidmjoaaGreatDoor.Am
open Go Go.RowKit
/-! ### blocks, by their types -/
theorem hat_lt {H : Heap} {b : Nat} {B : Blk} (h : hat H b = some B) : b < H.length := (List.getElem?_eq_some_iff.1 h).1
theorem hat_app {H : Heap} {b : Nat} {B : Blk} (h : hat H b = some B) (L : Heap) : hat (H ++ L) b = some B := by
  unfold hat at h ⊢
  rw [List.getElem?_append_left (List.getElem?_eq_some_iff.1 h).1]; exact h
theorem hat_self {H : Heap} {b : Nat} {B : Blk} (h : hat H b = some B) (X : Blk) : hat (H.set b X) b = some X := List.getElem?_set_self (hat_lt h)
theorem hat_ne {H : Heap} {b b' : Nat} (h : b ≠ b') (X : Blk) : hat (H.set b X) b' = hat H b' := List.getElem?_set_ne h
theorem ne_of_t {H : Heap} {b b' : Nat} {B B' : Blk} (h : hat H b = some B) (h' : hat H b' = some B') (ht : B.t ≠ B'.t) : b ≠ b' := by
  rintro rfl
  rw [h] at h'
  cases h'
  exact ht rfl
theorem hat_len (H : Heap) : hat H H.length = none := by simp [hat]
theorem hat_new (H : Heap) (B : Blk) : hat (H ++ [B]) H.length = some B := by simp [hat]
theorem hat_appL {H L : Heap} {b : Nat} (h : b < H.length) : hat (H ++ L) b = hat H b := List.getElem?_append_left h
theorem hat_appN {H L : Heap} {n : Nat} (h : H.length = n) : hat (H ++ L) n = hat L 0 := by subst h; exact hget0 H L
theorem hat_appK {H L : Heap} {n : Nat} (k : Nat) (h : H.length = n) : hat (H ++ L) (n + k) = hat L k := by subst h; exact hget H L k
theorem hat_setS {H : Heap} {b : Nat} {X : Blk} (h : b < H.length) : hat (H.set b X) b = some X := List.getElem?_set_self h
theorem hat_setN {H : Heap} {b b' : Nat} {X : Blk} (h : b ≠ b') : hat (H.set b X) b' = hat H b' := List.getElem?_set_ne h
theorem set_appL {H L : Heap} {b : Nat} {X : Blk} (h : b < H.length) : (H ++ L).set b X = H.set b X ++ L := List.set_append_left _ _ h
theorem set_appN {H L : Heap} {n : Nat} {X : Blk} (h : H.length = n) : (H ++ L).set n X = H ++ L.set 0 X := by subst h; simp
theorem set_appK {H L : Heap} {n : Nat} (k : Nat) {X : Blk} (h : H.length = n) : (H ++ L).set (n + k) X = H ++ L.set k X := by subst h; rw [List.set_append_right _ _ (by omega)]; congr 2; omega
/-- All blocks but those of the types ts stay as they are. -/
structure Fr (ts : List Nat) (H H' : Heap) : Prop where
  len : H.length ≤ H'.length
  keep : ∀ b B, hat H b = some B → B.t ∉ ts → hat H' b = some B
theorem Fr.refl (ts : List Nat) (H : Heap) : Fr ts H H := ⟨Nat.le_refl _, fun _ _ h _ => h⟩
theorem Fr.trans {ts : List Nat} {H H' H'' : Heap} (h : Fr ts H H') (k : Fr ts H' H'') : Fr ts H H'' := ⟨Nat.le_trans h.len k.len, fun b B hb ht => k.keep b B (h.keep b B hb ht) ht⟩
theorem Fr.mono {ts ts' : List Nat} {H H' : Heap} (h : Fr ts H H') (hs : ∀ t ∈ ts, t ∈ ts') : Fr ts' H H' := ⟨h.len, fun b B hb ht => h.keep b B hb (fun q => ht (hs _ q))⟩
theorem Fr.app (ts : List Nat) (H L : Heap) : Fr ts H (H ++ L) := ⟨by simp, fun _ _ h _ => hat_app h L⟩
theorem Fr.set {ts : List Nat} {H : Heap} {b : Nat} {B : Blk} (h : hat H b = some B) (ht : B.t ∈ ts) (X : Blk) : Fr ts H (H.set b X) := ⟨by simp, fun b' B' hb' ht' => by
  rw [hat_ne (fun e => by subst e; rw [h] at hb'; cases hb'; exact ht' ht)]
  exact hb'⟩
/-- A body's end, nothing let go. -/
def ABodyN (C : Ctx) (fn : Func) (post : AV → Heap → Prop) : APost := fun e T H => (e = .normal ∨ e = .ret) ∧ ∃ vs ob, ares C T H fn.results.toList = some (vs, ob) ∧ ob ∧ post (oneOr vs) H
theorem lift_res {C : Ctx} {nt : Nat} {φ0 : Emb} {H0 : Heap} {base : Nat} {W0 : World} {R R' : APost} (h : ∀ φ e T H W, Sim φ H base W → (∃ A, TRel φ H nt T A) → R e T H → R' e T H) {e : Exit} {a1 : Act} {W2 : World} (hl : Lift nt φ0 H0 base W0 R e a1 W2) : Lift nt φ0 H0 base W0 R' e a1 W2 := by
  obtain ⟨φ2, T2, H2, h1, h2, h3, h4, h5⟩ := hl
  exact ⟨φ2, T2, H2, h φ2 _ _ _ _ h3 ⟨_, h4⟩ h1, h2, h3, h4, h5⟩
theorem ares_small {C : Ctx} {nt : Nat} (hC : CtxOk C) {φ : Emb} {H : Heap} {base : Nat} {W : World} {T : Tmps} {a : Act} (hS : Sim φ H base W) (hT : TRel φ H nt T a.tmps) {rs : List ResultVar} {vs : List AV} {ob : Prop} (h : ares C T H rs = some (vs, ob)) (hob : ob) : Small H.length (oneOr vs) := by
  obtain ⟨us, _, h2⟩ := ares_run (a := a) hC hS hT rs vs ob h hob
  have hs := VRels.small vs us h2
  match vs, hs with
  | [], _ => exact trivial
  | [v], hs => exact hs.1
  | v :: w :: r, hs => exact hs
theorem acalls_ofN {C : Ctx} {nt : Nat} {H : Heap} (hC : CtxOk C) {f : FuncId} {fn : Func} {c : Code} {args : List AV} {post : AV → Heap → Prop} (hf : C.P.funcs[f]? = some fn) (hb : fn.body = some c) (hn : nt = args.length + (fn.ntmps - args.length))
    (h : AWp C nt H c (ABodyN C fn post) (initT 0 args) H) : ACalls C.P f args H post := by
  refine acalls_of (nt := nt) hC hf hb hn fun hclo => ?_
  intro φ0 φ base W0 W a hx hb0 hS hT hd
  refine wp_mono (h φ0 φ base W0 W a hx hb0 hS hT hd) ?_
  rintro e a1 W1 ⟨φ1, T1, H2, ⟨he, ws, ob, hr, hob, hp⟩, h2, h3, h4, h5⟩
  have hlen : H.length ≤ H2.length := by
    rcases Nat.eq_zero_or_pos H.length with h0 | h0
    · omega
    · obtain ⟨B', hB', _⟩ := h2 (H.length - 1) _ (List.getElem?_eq_getElem (by omega))
      have := (List.getElem?_eq_some_iff.1 hB').1
      omega
  exact ⟨φ1, T1, H2, ⟨he, ws, ob, hr, hob, H2, [], by simp, hlen, h3.closed, ares_small hC h3 h4 hr hob, hp⟩, h2, h3, h4, h5⟩
end Go.Proofs.YtjokedpaidmjoaaGreatDoor.Am
namespace Go.Proofs.YtjokedpaidmjoaaGreatDoor.Am
open Go Go.RowKit
/-- The temporaries that are still looked at. -/
def keepT : List Nat → Tmps → Tmps
  | [], _ => []
  | k :: r, T => (k, get T k) :: keepT r T
theorem keepT_less (T : Tmps) : ∀ (ks : List Nat) (t : Nat), get (keepT ks T) t = get T t ∨ get (keepT ks T) t = .undef
  | [], t => .inr rfl
  | k :: r, t => by
    show (if k = t then get T k else get (keepT r T) t) = get T t ∨ (if k = t then get T k else get (keepT r T) t) = .undef
    by_cases e : k = t
    · subst e; rw [if_pos rfl]; exact .inl rfl
    · rw [if_neg e]; exact keepT_less T r t
section
variable {C : Ctx} {nt : Nat} {H0 H : Heap} {T : Tmps} {R : APost} {c : Code}
theorem awp_live (ks : List Nat) (h : AWp C nt H0 c R (keepT ks T) H) : AWp C nt H0 c R T H := awp_less _ h (keepT_less T ks)
/-- A part walked by reckoning, what is behind it hidden; then the rest with the live temporaries alone. -/
theorem awp_step (hC : CtxOk C) {x y : Code} (h : ∀ K : APost, (∀ e T H, K e T H = AThen C nt H0 y R e T H) → awalk C nt H0 x K T H) : AWp C nt H0 (.seq x y) R T H :=
  awp_seq (awalk_sound hC _ _ _ _ (h _ fun _ _ _ => rfl))
theorem athen_n {y : Code} : AThen C nt H0 y R .normal T H = AWp C nt H0 y R T H := rfl
theorem athen_r {y : Code} : AThen C nt H0 y R .ret T H = R .ret T H := rfl
theorem athen_e {y : Code} (i : Nat) : AThen C nt H0 y R (.exit i) T H = R (.exit i) T H := rfl
end
theorem Sim.nil {φ : Emb} {W : World} (h : GIv W.heap.size W) : Sim φ [] W.heap.size W :=
  ⟨fun b B hB => (by simp at hB), fun b B hB => (by simp at hB), fun b b' B B' hB => (by simp at hB), fun b B hB => (by simp at hB), Nat.le_refl _, h⟩
section
variable {C : Ctx} {nt : Nat} {T : Tmps} {H H0 : Heap} {R : APost} {c : Code}
/-- A loop; what is behind a round is hidden behind Q. -/
theorem awp_loopQ (I : Nat → Tmps → Heap → Prop) (n : Nat) (h0 : I n T H)
    (hr : ∀ n T H, I n T H → ∀ Q : APost, (∀ m T1 H1 T2, m < n → Has T1 T2 → I m T2 H1 → Q .normal T1 H1) → (∀ e T1 H1, e ≠ .normal → R e T1 H1 → Q e T1 H1) → AWp C nt H0 c Q T H) : AWp C nt H0 (.loop c) R T H := by
  refine awp_loop (fun n T H => ∃ T2, (∀ t, get T2 t = get T t ∨ get T2 t = .undef) ∧ I n T2 H) (n := n) ⟨T, fun _ => .inl rfl, h0⟩ ?_
  rintro n T H ⟨T2, hT, hI⟩
  refine awp_less T2 (hr n T2 H hI _ (fun m T1 H1 T3 h1 h2 h3 => ⟨m, h1, T3, h2.less, h3⟩) (fun e T1 H1 he h => ?_)) hT
  cases e with
  | normal => exact absurd rfl he
  | _ => exact h
end
theorem aops_gcallC {C : Ctx} {nt : Nat} {H H0 : Heap} {T : Tmps} {ops : Array Oper} {R : APost} {r : List Oper} {o : Oper} {c : Call} {x : Operand} {f : FuncId} {caps : List AV} {j d : Nat} {want : Bool} (hg : o.guard = some (j, want)) (hd : (ops[j]?).bind (·.dst) = some d) (hgd : gwant T d want = some true) (ho : o.op = .call c) (hc : c.callee = .value x) (hx : Am.aev T x = .fn f caps) {F : Func} (hf : C.P.funcs[f]? = some F) (hn : (F.name == "runtime.NumGoroutine") = false) (hb : F.body.isNone = false) {post : AV → Heap → Prop} (h : ACalls C.P f (c.args.toList.map (Am.aev T) ++ caps) H post)
    (hr : ∀ v H1, post v H1 → ∃ T1, putT nt T o.dst (.opt true v) = some T1 ∧ AOps C nt H0 ops R r T1 H1) : AOps C nt H0 ops R (o :: r) T H := by
  intro φ0 φ base W0 W a hx0 hb0 hS hT hd0
  refine wpList_step fun K hK => ?_
  rw [wanted_of hT hg hd hgd, if_pos rfl]
  refine l_call ho hc hS hT hx hf hn hb h ?_
  intro v H1 hp φ1 W1 u k1 k2 k3 k4
  obtain ⟨T1, q1, q2⟩ := hr v H1 hp
  have k5 : VRel φ1 H1 (AV.opt true v) u := And.intro (fun _ => k3) (fun e => by cases e)
  obtain ⟨p1, p2⟩ := putT_rel q1 (TRel.ext k1 hT) k5
  exact hK _ _ (q2 φ0 φ1 base W0 W1 (a.put o.dst u) (hx0.trans k1) (hb0.trans k4) k2 p1 (p2.trans hd0))
theorem aops_optC {C : Ctx} {nt : Nat} {H H0 : Heap} {T : Tmps} {ops : Array Oper} {R : APost} {l : List Oper} {d : Nat} {v : AV} (h : Am.get T d = .opt true v) (hr : AOps C nt H0 ops R l ((d, v) :: T) H) : AOps C nt H0 ops R l T H := by
  intro φ0 φ b0 W0 W a hx0 hb hS hT hd
  refine hr φ0 φ b0 W0 W a hx0 hb hS ⟨hT.1, fun t => ?_⟩ hd
  by_cases e : d = t
  · subst e
    have h2 := hT.2 d
    rw [h] at h2
    rw [show Am.get ((d, v) :: T) d = v from if_pos rfl]
    exact h2.1 rfl
  · rw [show Am.get ((d, v) :: T) t = Am.get T t from if_neg e]
    exact hT.2 t
end Go.Proofs.YtjokedpaidmjoaaGreatDoor.Am
namespace Go.Proofs.YtjokedpaidmjoaaGreatDoor.Am
open Go Go.RowKit
/-- An own block, no matter how it was made. -/
def Blk.plain (B : Blk) : Blk := { B with one := false }
theorem Sim.plain {φ : Emb} {H : Heap} {base : Nat} {W : World} {b : Nat} {B : Blk} (h : Sim φ H base W) (hB : hat H b = some B) (ho : B.own = true) : Ext φ H φ (H.set b B.plain) ∧ Sim φ (H.set b B.plain) base W := by
  have hl := hat_lt hB
  have hB' : H[b]? = some B := hB
  have hx : Ext φ H φ (H.set b B.plain) := fun k X hX => by
    by_cases e : b = k
    · subst e
      rw [hB'] at hX
      obtain rfl := Option.some.inj hX
      exact ⟨_, List.getElem?_set_self hl, rfl, rfl, rfl, Nat.le_refl _, fun _ => Nat.le_refl _, fun _ => rfl⟩
    · exact ⟨X, by rw [List.getElem?_set_ne e]; exact hX, rfl, rfl, rfl, Nat.le_refl _, fun _ => Nat.le_refl _, fun _ => rfl⟩
  refine ⟨hx, h.step hx (Below.refl _ _) b (fun k X hX hne => ?_) (fun X hX => ?_)⟩
  · rw [List.getElem?_set_ne (fun e => hne e.symm)] at hX
    exact ⟨hX, rfl, fun _ _ => rfl⟩
  · rw [List.getElem?_set_self hl] at hX
    obtain rfl := Option.some.inj hX
    refine ⟨ho, ?_, h.wf b B hB', fun hn k X hX hXo hXn hne => ?_⟩
    · rcases h.ow b B hB' ho with q | ⟨q, cur, c1, c2, c3, c4, c5, c6, c7⟩
      · exact .inl q
      · exact .inr ⟨q, cur, c1, c2, c3, c4, c5, c6, fun i j u hi hu => by
          obtain ⟨x, x1, x2, x3⟩ := c7 i j u hi hu
          exact ⟨x, x1, VRel.ext hx _ _ x2, x3⟩⟩
    · rw [List.getElem?_set_ne (fun e => hne e.symm)] at hX
      exact h.inj k b X B hX hB' hXo ho hXn hn hne
theorem awp_plain {C : Ctx} {nt : Nat} {T : Tmps} {H H0 : Heap} {R : APost} {c : Code} {b : Nat} {B : Blk} (hB : hat H b = some B) (ho : B.own = true) (h : AWp C nt H0 c R T (H.set b B.plain)) : AWp C nt H0 c R T H := by
  intro φ0 φ base W0 W a hx hb hS hT hd
  obtain ⟨k1, k2⟩ := hS.plain hB ho
  exact h φ0 φ base W0 W a (hx.trans k1) hb k2 (TRel.ext k1 hT) hd
end Go.Proofs.YtjokedpaidmjoaaGreatDoor.Am
namespace Go.Proofs.YtjokedpaidmjoaaGreatDoor.Am
open Go Go.RowKit
/-- All blocks but these stand as they are. -/
structure Fx (bs : List Nat) (H H' : Heap) : Prop where
  len : H.length ≤ H'.length
  keep : ∀ b B, hat H b = some B → b ∉ bs → hat H' b = some B
theorem Fx.refl (bs : List Nat) (H : Heap) : Fx bs H H := ⟨Nat.le_refl _, fun _ _ h _ => h⟩
theorem Fx.trans {bs : List Nat} {H H' H'' : Heap} (h : Fx bs H H') (k : Fx bs H' H'') : Fx bs H H'' := ⟨Nat.le_trans h.len k.len, fun b B hb hn => k.keep b B (h.keep b B hb hn) hn⟩
theorem Fx.mono {bs bs' : List Nat} {H H' : Heap} (h : Fx bs H H') (hs : ∀ b ∈ bs, b ∈ bs') : Fx bs' H H' := ⟨h.len, fun b B hb hn => h.keep b B hb (fun q => hn (hs _ q))⟩
theorem Fx.app (bs : List Nat) (H L : Heap) : Fx bs H (H ++ L) := ⟨by simp, fun _ _ h _ => hat_app h L⟩
theorem Fx.set {bs : List Nat} {H : Heap} {b : Nat} (hb : b ∈ bs) (X : Blk) : Fx bs H (H.set b X) := ⟨by simp, fun b' B' hb' hn => by
  rw [hat_setN (fun e : b = b' => hn (by rw [← e]; exact hb))]
  exact hb'⟩
/-- What is set is new: it does not count. -/
theorem Fx.new {bs : List Nat} {H0 H : Heap} {b : Nat} {X : Blk} (h : Fx bs H0 H) (hb : H0.length ≤ b) : Fx bs H0 (H.set b X) := ⟨by have := h.len; simpa using this, fun b' B' hb' hn => by
  rw [hat_setN (fun e => by subst e; have := hat_lt hb'; omega)]
  exact h.keep b' B' hb' hn⟩
theorem Fx.fr {bs ts : List Nat} {H H' : Heap} (h : Fx bs H H') (ht : ∀ b ∈ bs, ∀ B, hat H b = some B → B.t ∈ ts) : Fr ts H H' := ⟨h.len, fun b B hb hn => h.keep b B hb (fun q => hn (ht b q B hb))⟩
/-- One block has turned, all else that is new is let go. -/
theorem Fx.one {H H' : Heap} {b : Nat} {X : Blk} (h : Fx [b] H H') (hX : hat H' b = some X) : ∃ L, H' = H.set b X ++ L := by
  refine ⟨H'.drop H.length, ?_⟩
  apply List.ext_getElem?
  intro i
  by_cases hi : i < H.length
  · rw [List.getElem?_append_left (by simpa using hi)]
    by_cases e : b = i
    · subst e
      rw [List.getElem?_set_self hi]
      exact hX
    · rw [List.getElem?_set_ne e, List.getElem?_eq_getElem hi]
      exact h.keep i _ (List.getElem?_eq_getElem hi) (by simpa using fun q : i = b => e q.symm)
  · rw [List.getElem?_append_right (by simpa using hi), List.getElem?_drop]
    congr 1
    simp
    omega
theorem Fx.none {H H' : Heap} (h : Fx [] H H') : ∃ L, H' = H ++ L := by
  refine ⟨H'.drop H.length, ?_⟩
  apply List.ext_getElem?
  intro i
  by_cases hi : i < H.length
  · rw [List.getElem?_append_left hi, List.getElem?_eq_getElem hi]
    exact h.keep i _ (List.getElem?_eq_getElem hi) (by simp)
  · rw [List.getElem?_append_right (by omega), List.getElem?_drop]
    congr 1
    omega
theorem Closed.set {H : Heap} (hc : Closed H) (b : Nat) {X : Blk} (hX : ∀ i, i < X.len → Smalls H.length (X.get i)) : Closed (H.set b X) := by
  intro k B hB i j u hi hu
  rw [List.length_set]
  by_cases e : b = k
  · subst e
    have hl : b < H.length := by
      have := (List.getElem?_eq_some_iff.1 hB).1
      simpa using this
    rw [List.getElem?_set_self hl] at hB
    obtain rfl := Option.some.inj hB
    exact Smalls.get (hX i hi) j u hu
  · rw [List.getElem?_set_ne e] at hB
    exact hc k B hB i j u hi hu
/-- A call that leaves what is new behind: it may be let go. -/
theorem acalls_exact {P : Program} {f : FuncId} {args : List AV} {H H1 : Heap} {v : AV} {post : AV → Heap → Prop} (h : ACalls P f args H post) (hl : H.length ≤ H1.length) (hc : Closed H → Closed H1) (hv : Small H1.length v)
    (hp : ∀ v' H', post v' H' → v' = v ∧ ∃ L, H' = H1 ++ L) : ACalls P f args H fun v' H' => v' = v ∧ H' = H1 := by
  intro φ base W vs hS hvs
  refine (h φ base W vs hS hvs).mono ?_
  rintro e W' ⟨φ', v', u, H', he, hpost, hx, hS', hr, hb⟩
  obtain ⟨rfl, L, rfl⟩ := hp _ _ hpost
  refine ⟨φ', _, u, H1, he, ⟨rfl, rfl⟩, ?_, hS'.drop (hc hS.closed), VRel.drop _ _ hv hr, hb⟩
  intro b B hB
  obtain ⟨B', k1, k2⟩ := hx b B hB
  have hlt := (List.getElem?_eq_some_iff.1 hB).1
  rw [List.getElem?_append_left (by omega)] at k1
  exact ⟨B', k1, k2⟩
end Go.Proofs.YtjokedpaidmjoaaGreatDoor.Am
