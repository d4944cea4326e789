/- Boxes: a block's cells, through calls and stores. Rows above a block stand while a block below is written. -/
import Derived.Test.YtekjdeibnfaehaaGreatAnc
set_option linter.unusedSimpArgs false
set_option linter.unusedVariables false
namespace Go.Proofs.YtekjdeibnfaehaaGreat
open Go Go.RowKit

def BoxC (P : World) (b : Nat) (cs : List Value) (t : TypeId) : Prop := P.heap[b]? = some (.cells cs.toArray t (0, 0))
section
variable {P P' : World} {b b' : Nat} {cs : List Value} {t : TypeId}
theorem BoxC.lt (h : BoxC P b cs t) : b < P.heap.size := (Array.getElem?_eq_some_iff.1 h).1
theorem BoxC.cell (h : BoxC P b cs t) {i : Nat} {v : Value} (hv : cs[i]? = some v) : P.cell? ⟨b, i, none⟩ = some v := by
  simp only [World.cell?, show P.heap[b]? = some (.cells cs.toArray t (0, 0)) from h, Option.isSome_none, Bool.false_eq_true, if_false]
  rw [List.getElem?_toArray, hv]
theorem BoxC.frozen (h : BoxC P b cs t) (i : Nat) : P.frozen? ⟨b, i, none⟩ = false := by
  simp [World.frozen?, show P.heap[b]? = some (.cells cs.toArray t (0, 0)) from h]
theorem BoxC.of_ext (h : BoxC P b cs t) (hx : Ext P P') : BoxC P' b cs t := by
  obtain ⟨E, d, rfl⟩ := hx
  exact (heap_ext P E d b h.lt).trans h
theorem BoxC.new (P : World) (cs : List Value) (t : TypeId) : BoxC (P.alloc (.cells cs.toArray t)) P.heap.size cs t := heap_alloc_new P _
theorem BoxC.new_at {g : Nat} (cs : List Value) (t : TypeId) (hg : g = P.heap.size) : BoxC (P.alloc (.cells cs.toArray t)) g cs t := by subst hg; exact BoxC.new P cs t
theorem BoxC.alloc (h : BoxC P b cs t) (o : Obj) : BoxC (P.alloc o) b cs t := by
  unfold BoxC
  rw [Below.heap_alloc _ _ _ h.lt]; exact h
theorem BoxC.drew (h : BoxC P b cs t) : BoxC P.drew b cs t := h
theorem BoxC.set (h : BoxC P b cs t) (i : Nat) (v : Value) : BoxC (P.setCell ⟨b, i, none⟩ v) b (cs.set i v) t := by
  rw [setCell_eq_setRow P b i _ t (0, 0) _ h]
  have := setRow_heap P b _ (cs.toArray.setIfInBounds i v) _ _ h
  unfold BoxC
  rw [this]
  simp
theorem BoxC.other (h : BoxC P b cs t) (i : Nat) (v : Value) (hb : b' ≠ b) : BoxC (P.setCell ⟨b', i, none⟩ v) b cs t := by
  unfold BoxC World.setCell
  simp only
  rw [Array.getElem?_modify, if_neg hb]
  exact h
theorem cell?_drew_ext (w : World) (E : Array Obj) (d n i : Nat) (hn : n < w.heap.size) : (w.drew.ext E d).cell? ⟨n, i, none⟩ = w.cell? ⟨n, i, none⟩ := cell?_ext w.drew E d n i none hn
theorem frozen?_drew_ext (w : World) (E : Array Obj) (d n i : Nat) (hn : n < w.heap.size) : (w.drew.ext E d).frozen? ⟨n, i, none⟩ = w.frozen? ⟨n, i, none⟩ := frozen?_ext w.drew E d n i none hn
theorem Ext.box {w : World} (h : Ext w P) (i : Nat) (v : Value) (hb : w.heap.size ≤ b) : Ext w (P.setCell ⟨b, i, none⟩ v) := Ext.setCell h _ _ hb
end
section
variable {base k n : Nat} {P : World} {A : Option Addr} {xs : List Value} {b i : Nat} {v : Value}
theorem SlA.set (h : SlA base k P A n xs) (hb : b < base) : SlA base k (P.setCell ⟨b, i, none⟩ v) A n xs := by
  refine ⟨⟨h.1.1, fun hn => ?_⟩, h.2⟩
  obtain ⟨g, o, rfl, hg, hc⟩ := h.1.2 hn
  have hgb : base ≤ g := h.2 hn _ rfl
  refine ⟨g, o, rfl, by rw [World.size_setCell]; exact hg, fun j u hu => ?_⟩
  rw [World.cell?_setCell_other _ _ _ _ (by intro e; have := congrArg Addr.block e; simp only at this; omega)]
  exact hc j u hu
theorem RecsA.set {l : List Rec} (h : RecsA base P A l) (hb : b < base) : RecsA base (P.setCell ⟨b, i, none⟩ v) A l := SlA.set h hb
theorem BytA.set {l : List UInt8} (h : BytA base P A l) (hb : b < base) : BytA base (P.setCell ⟨b, i, none⟩ v) A l := SlA.set h hb
theorem DrvA.set {D : DriveD} {A0 A1 : Option Addr} {n0 c0 n1 c1 : Nat} (h : DrvA base P D A0 n0 c0 A1 n1 c1) (hb : b < base) : DrvA base (P.setCell ⟨b, i, none⟩ v) D A0 n0 c0 A1 n1 c1 :=
  ⟨h.l0, h.l1, h.h0, h.h1, h.k0, h.k1, h.b0.set hb, h.b1.set hb⟩
theorem MemA.set {M : MemD} {c : Nat} (h : MemA base P M A n c) (hb : b < base) : MemA base (P.setCell ⟨b, i, none⟩ v) M A n c := ⟨h.l, h.r.set hb⟩
theorem SlA.through {N o1 o2 o3 : Nat} {P' W : World} {v1 v2 v3 : Value} (h : SlA base k P A n xs) (x1 : Ext P P') (x2 : Ext (((P'.setCell ⟨b, o1, none⟩ v1).setCell ⟨b, o2, none⟩ v2).setCell ⟨b, o3, none⟩ v3) W) (h1 : b < base) (h2 : N ≤ base) : SlA N k W A n xs :=
  (((((h.of_ext x1).set h1).set h1).set h1).of_ext x2).mono h2
theorem BytA.through {N o1 o2 o3 : Nat} {P' W : World} {v1 v2 v3 : Value} {l : List UInt8} (h : BytA base P A l) (x1 : Ext P P') (x2 : Ext (((P'.setCell ⟨b, o1, none⟩ v1).setCell ⟨b, o2, none⟩ v2).setCell ⟨b, o3, none⟩ v3) W) (h1 : b < base) (h2 : N ≤ base) : BytA N W A l := SlA.through h x1 x2 h1 h2
theorem RecsA.through {N o1 o2 o3 : Nat} {P' W : World} {v1 v2 v3 : Value} {l : List Rec} (h : RecsA base P A l) (x1 : Ext P P') (x2 : Ext (((P'.setCell ⟨b, o1, none⟩ v1).setCell ⟨b, o2, none⟩ v2).setCell ⟨b, o3, none⟩ v3) W) (h1 : b < base) (h2 : N ≤ base) : RecsA N W A l := SlA.through h x1 x2 h1 h2
theorem BytA.drew {l : List UInt8} (h : BytA base P A l) : BytA base P.drew A l := h
theorem RecsA.drew {l : List Rec} (h : RecsA base P A l) : RecsA base P.drew A l := h
theorem BytA.alloc {l : List UInt8} (h : BytA base P A l) (o : Obj) : BytA base (P.alloc o) A l := h.of_ext ((Ext.refl P).alloc o)
theorem RecsA.alloc {l : List Rec} (h : RecsA base P A l) (o : Obj) : RecsA base (P.alloc o) A l := h.of_ext ((Ext.refl P).alloc o)
end
end Go.Proofs.YtekjdeibnfaehaaGreat
