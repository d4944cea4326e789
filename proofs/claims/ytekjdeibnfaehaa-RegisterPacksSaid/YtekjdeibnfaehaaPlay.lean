/- A play in a box. -/
import Derived.Test.YtekjdeibnfaehaaDoneX
import Derived.Test.YtekjdeibnfaehaaSanes
set_option linter.unusedSimpArgs false
set_option linter.unusedVariables false
namespace Go.Proofs.Ytekjdeibnfaehaa
open Go Go.RowKit

theorem PlayA.set {base b i : Nat} {w : World} {v : Value} {p : PlayD} {A0 : Option Addr} {n0 c0 : Nat} {A1 : Option Addr} {n1 c1 : Nat} {Am : Option Addr} {nm cm : Nat} {Af : Option Addr} {nf : Nat} {Al : Option Addr} {nl cl : Nat} (h : PlayA base w p A0 n0 c0 A1 n1 c1 Am nm cm Af nf Al nl cl) (hb : b < base) : PlayA base (w.setCell ⟨b, i, none⟩ v) p A0 n0 c0 A1 n1 c1 Am nm cm Af nf Al nl cl :=
  ⟨h.d.set hb, h.m.set hb, h.fl, h.f.set hb, h.ll, h.lc, h.l.set hb⟩
theorem PlayA.mono {base base' : Nat} {w : World} {p : PlayD} {A0 : Option Addr} {n0 c0 : Nat} {A1 : Option Addr} {n1 c1 : Nat} {Am : Option Addr} {nm cm : Nat} {Af : Option Addr} {nf : Nat} {Al : Option Addr} {nl cl : Nat} (h : PlayA base w p A0 n0 c0 A1 n1 c1 Am nm cm Af nf Al nl cl) (hb : base' ≤ base) : PlayA base' w p A0 n0 c0 A1 n1 c1 Am nm cm Af nf Al nl cl :=
  ⟨h.d.mono hb, h.m.mono hb, h.fl, h.f.mono hb, h.ll, h.lc, h.l.mono hb⟩
theorem Acts.row {w : World} {g o : Nat} {l : List ActD} (h : Acts w (some ⟨g, o, none⟩) l) {i : Nat} (hi : i < l.length) (j : Nat) {v : Value} (hj : j < 11) (hv : (encAct l[i])[j]? = some v) : w.cell? ⟨g, o + i * 11 + j, none⟩ = some v := by
  obtain ⟨g', o', hA, _, hc⟩ := h.2 (by omega)
  cases hA
  rw [Nat.add_assoc]
  exact hc _ v (by rw [flatMap_get encAct 11 (fun _ => rfl) l i j hi hj]; exact hv)
theorem Acts.addr {w : World} {A : Option Addr} {l : List ActD} (h : Acts w A l) (hn : 0 < l.length) : ∃ g o, A = some ⟨g, o, none⟩ ∧ g < w.heap.size := by
  obtain ⟨g, o, hA, hg, _⟩ := h.2 hn
  exact ⟨g, o, hA, hg⟩
/-- A play in a box, its rows above it. -/
def PlayB (wr : World) (b : Nat) (p : PlayD) : Prop := ∃ A0 n0 c0 A1 n1 c1 Am nm cm Af nf cf Al nl cl F0 F1 fi ge,
  BoxC wr b [.slice A0 n0 c0, .int .i64 F0, .slice A1 n1 c1, .int .i64 F1, .slice Am nm cm, .int .i64 fi, .int .i64 ge, .slice Af nf cf, .slice Al nl cl, .bool true] 68 ∧
  (p.d.f0.firm = F0 ∧ p.d.f1.firm = F1 ∧ p.m.file = fi ∧ p.m.gen = ge ∧ p.ok = true) ∧ PlayI (b + 1) wr p A0 n0 c0 A1 n1 c1 Am nm cm Af nf Al nl cl
theorem PlayB.of_ext {wr wr' : World} {b : Nat} {p : PlayD} (h : PlayB wr b p) (hx : Ext wr wr') : PlayB wr' b p := by
  obtain ⟨A0, n0, c0, A1, n1, c1, Am, nm, cm, Af, nf, cf, Al, nl, cl, F0, F1, fi, ge, h1, h2, h3⟩ := h
  exact ⟨A0, n0, c0, A1, n1, c1, Am, nm, cm, Af, nf, cf, Al, nl, cl, F0, F1, fi, ge, h1.of_ext hx, h2, h3.of_ext hx⟩
theorem new_playB {wr : World} {b base : Nat} {A : Option Addr} {c : Nat} (h : OwnB base wr (.slice A 10 c) (headB 1 0)) (hb : BoxC wr b [.slice A 10 c, .int .i64 10, .slice none 0 0, .int .i64 0, .slice none 0 0, .int .i64 0, .int .i64 1, .slice none 0 0, .slice none 0 0, .bool true] 68) : PlayB wr b newPlay := by
  have hl : (headB 1 0).length = 10 := by decide
  exact ⟨A, 10, c, none, 0, 0, none, 0, 0, none, 0, 0, none, 0, 0, 10, 0, 0, 1, hb, ⟨rfl, rfl, rfl, rfl, rfl⟩, ⟨⟨hl, rfl, h.le, Nat.le_refl _, h.cap, by omega, h.of_byt_slice, Byt.nil _ _⟩, ⟨rfl, RecsA.nil _ _ _⟩, rfl, RecsA.nil _ _ _, rfl, Nat.le_refl _, RecsA.nil _ _ _⟩⟩
end Go.Proofs.Ytekjdeibnfaehaa
