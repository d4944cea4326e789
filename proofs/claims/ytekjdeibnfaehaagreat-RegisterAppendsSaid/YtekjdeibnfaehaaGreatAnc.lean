/- Rows that lie above a block: they stand while boxes below it are written. -/
import Derived.Test.YtekjdeibnfaehaaGreatSanes
set_option linter.unusedSimpArgs false
set_option linter.unusedVariables false
namespace Go.Proofs.YtekjdeibnfaehaaGreat
open Go Go.RowKit

/-- A slice that lies above a block. -/
def SlA (base k : Nat) (w : World) (A : Option Addr) (n : Nat) (xs : List Value) : Prop := Sl k w A n xs ∧ (0 < n → ∀ a, A = some a → base ≤ a.block)
section
variable {base base' N k n : Nat} {w w' X X' W' : World} {A : Option Addr} {xs : List Value} {E : Array Obj} {d d' : Nat}
theorem SlA.of_ext (h : SlA base k w A n xs) (hx : Ext w w') : SlA base k w' A n xs := ⟨h.1.of_ext hx, h.2⟩
theorem SlA.mono (h : SlA base k w A n xs) (hb : base' ≤ base) : SlA base' k w A n xs := ⟨h.1, fun hn a ha => Nat.le_trans hb (h.2 hn a ha)⟩
theorem SlA.moved (h : SlA N k (X.ext E d) A n xs) (hs : X'.heap.size = X.heap.size) (hN : X.heap.size ≤ N) : SlA N k (X'.ext E d') A n xs := by
  refine ⟨⟨h.1.1, fun hn => ?_⟩, h.2⟩
  obtain ⟨g, o, rfl, hg, hc⟩ := h.1.2 hn
  have hb : N ≤ g := h.2 hn _ rfl
  refine ⟨g, o, rfl, by simp at hg ⊢; omega, fun j u hu => ?_⟩
  rw [← hc j u hu]
  simp only [World.cell?, World.ext]
  rw [Array.getElem?_append_right (by omega), Array.getElem?_append_right (by omega), hs]
theorem SlA.moved2 (h : SlA N k (X.ext E d) A n xs) (hx : Ext (X'.ext E d') W') (hs : X'.heap.size = X.heap.size) (hN : X.heap.size ≤ N) (hb : base ≤ N) : SlA base k W' A n xs :=
  ((SlA.moved h hs hN).of_ext hx).mono hb
end
/-- A list of records in a slice that lies above a block. -/
def RecsA (base : Nat) (w : World) (A : Option Addr) (l : List Rec) : Prop := SlA base 11 w A l.length (l.flatMap encRec)
def BytA (base : Nat) (w : World) (A : Option Addr) (l : List UInt8) : Prop := SlA base 1 w A l.length (l.map encB)
section
variable {base base' N n c : Nat} {w w' X X' W' : World} {A : Option Addr} {l : List Rec} {b : List UInt8} {E : Array Obj} {d d' : Nat}
theorem RecsA.read (h : RecsA base w A l) : Recs w A l := h.1
theorem BytA.read (h : BytA base w A b) : Byt w A b := h.1
theorem RecsA.of_ext (h : RecsA base w A l) (hx : Ext w w') : RecsA base w' A l := SlA.of_ext h hx
theorem BytA.of_ext (h : BytA base w A b) (hx : Ext w w') : BytA base w' A b := SlA.of_ext h hx
theorem RecsA.mono (h : RecsA base w A l) (hb : base' ≤ base) : RecsA base' w A l := SlA.mono h hb
theorem BytA.mono (h : BytA base w A b) (hb : base' ≤ base) : BytA base' w A b := SlA.mono h hb
theorem RecsA.moved2 (h : RecsA N (X.ext E d) A l) (hx : Ext (X'.ext E d') W') (hs : X'.heap.size = X.heap.size) (hN : X.heap.size ≤ N) (hb : base ≤ N) : RecsA base W' A l := SlA.moved2 h hx hs hN hb
theorem BytA.moved2 (h : BytA N (X.ext E d) A b) (hx : Ext (X'.ext E d') W') (hs : X'.heap.size = X.heap.size) (hN : X.heap.size ≤ N) (hb : base ≤ N) : BytA base W' A b := SlA.moved2 h hx hs hN hb
theorem RecsA.nil (base : Nat) (w : World) (A : Option Addr) : RecsA base w A [] := ⟨Recs.nil w A, fun h => absurd h (Nat.lt_irrefl 0)⟩
theorem BytA.nil (base : Nat) (w : World) (A : Option Addr) : BytA base w A [] := ⟨Byt.nil w A, fun h => absurd h (Nat.lt_irrefl 0)⟩
theorem OwnR.anc (h : OwnR base w (.slice A n c) l) : RecsA base w A l := ⟨h.of_slice, fun _ a ha => (h.lies a ha).1⟩
theorem OwnB.lies (h : OwnB base w (.slice A n c) b) : ∀ a, A = some a → base ≤ a.block ∧ a.block < w.heap.size := by
  intro a ha
  rcases h.2 with ⟨hv, _⟩ | ⟨g, cap, cur, hv, hb, hh, _⟩
  · cases hv; cases ha
  · cases hv; cases ha
    exact ⟨hb, (Array.getElem?_eq_some_iff.1 hh).1⟩
theorem OwnB.anc (h : OwnB base w (.slice A n c) b) : BytA base w A b := ⟨h.of_byt_slice, fun _ a ha => (h.lies a ha).1⟩
theorem RowB.anc (h : RowB base w A n c b) : BytA base w A b := by
  rcases h with rfl | h
  · exact BytA.nil _ _ _
  · exact h.anc
end
/-- A drive above a block. -/
structure DrvA (base : Nat) (w : World) (D : DriveD) (A0 : Option Addr) (n0 c0 : Nat) (A1 : Option Addr) (n1 c1 : Nat) : Prop where
  l0 : D.f0.bytes.length = n0
  l1 : D.f1.bytes.length = n1
  h0 : n0 ≤ c0
  h1 : n1 ≤ c1
  k0 : c0 ≤ 9223372036854775807
  k1 : c1 ≤ 9223372036854775807
  b0 : BytA base w A0 D.f0.bytes
  b1 : BytA base w A1 D.f1.bytes
section
variable {base base' N n0 c0 n1 c1 : Nat} {w w' X X' W' : World} {D : DriveD} {A0 A1 : Option Addr} {E : Array Obj} {d d' : Nat}
theorem DrvA.read (h : DrvA base w D A0 n0 c0 A1 n1 c1) : DrvY w D A0 n0 c0 A1 n1 c1 := ⟨h.l0, h.l1, h.h0, h.h1, h.k0, h.k1, h.b0.read, h.b1.read⟩
theorem DrvA.of_ext (h : DrvA base w D A0 n0 c0 A1 n1 c1) (hx : Ext w w') : DrvA base w' D A0 n0 c0 A1 n1 c1 := ⟨h.l0, h.l1, h.h0, h.h1, h.k0, h.k1, h.b0.of_ext hx, h.b1.of_ext hx⟩
theorem DrvA.mono (h : DrvA base w D A0 n0 c0 A1 n1 c1) (hb : base' ≤ base) : DrvA base' w D A0 n0 c0 A1 n1 c1 := ⟨h.l0, h.l1, h.h0, h.h1, h.k0, h.k1, h.b0.mono hb, h.b1.mono hb⟩
theorem DrvA.moved2 (h : DrvA N (X.ext E d) D A0 n0 c0 A1 n1 c1) (hx : Ext (X'.ext E d') W') (hs : X'.heap.size = X.heap.size) (hN : X.heap.size ≤ N) (hb : base ≤ N) : DrvA base W' D A0 n0 c0 A1 n1 c1 :=
  ⟨h.l0, h.l1, h.h0, h.h1, h.k0, h.k1, h.b0.moved2 hx hs hN hb, h.b1.moved2 hx hs hN hb⟩
theorem DrvX.anc (h : DrvX base w D A0 n0 c0 A1 n1 c1) : DrvA base w D A0 n0 c0 A1 n1 c1 := ⟨h.l0.symm, h.l1.symm, h.b0.le, h.b1.le, h.b0.cap, h.b1.cap, h.b0.anc, h.b1.anc⟩
theorem DrvZ.anc (h : DrvZ base w D A0 n0 c0 A1 n1 c1) : DrvA base w D A0 n0 c0 A1 n1 c1 := ⟨h.l0, h.l1, h.h0, h.h1, h.k0, h.k1, h.r0.anc, h.r1.anc⟩
theorem DrvA.zero (base : Nat) (w : World) : DrvA base w noDrive none 0 0 none 0 0 := (DrvZ.zero base w).anc
end
/-- A memory above a block. -/
structure MemA (base : Nat) (w : World) (M : MemD) (A : Option Addr) (n c : Nat) : Prop where
  l : M.recs.length = n
  r : RecsA base w A M.recs
section
variable {base base' N n c : Nat} {w w' X X' W' : World} {M : MemD} {A : Option Addr} {E : Array Obj} {d d' : Nat}
theorem MemA.of_ext (h : MemA base w M A n c) (hx : Ext w w') : MemA base w' M A n c := ⟨h.l, h.r.of_ext hx⟩
theorem MemA.mono (h : MemA base w M A n c) (hb : base' ≤ base) : MemA base' w M A n c := ⟨h.l, h.r.mono hb⟩
theorem MemA.moved2 (h : MemA N (X.ext E d) M A n c) (hx : Ext (X'.ext E d') W') (hs : X'.heap.size = X.heap.size) (hN : X.heap.size ≤ N) (hb : base ≤ N) : MemA base W' M A n c := ⟨h.l, h.r.moved2 hx hs hN hb⟩
theorem MemX.anc (h : MemX base w M A n c) : MemA base w M A n c := ⟨h.l.symm, h.r.anc⟩
theorem MemA.zero (base : Nat) (w : World) : MemA base w noMem none 0 0 := (MemX.zero base w).anc
end
end Go.Proofs.YtekjdeibnfaehaaGreat
