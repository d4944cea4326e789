/- RegisterJoined: the walk. -/
import Derived.Test.YtekjdeibnfaehaaSome
import Derived.Test.YtekjdeibnfaehaaJoin
set_option linter.unusedSimpArgs false
set_option linter.unusedVariables false
namespace Go.Proofs.Ytekjdeibnfaehaa
open Go Go.RowKit

@[go_sem] theorem lt_add_10 (a b0 b1 b2 b3 b4 b5 b6 b7 b8 b9 : Nat) (hh : a < b0) : a < b0 + b1 + b2 + b3 + b4 + b5 + b6 + b7 + b8 + b9 := by omega
@[go_sem] theorem lt_add_11 (a b0 b1 b2 b3 b4 b5 b6 b7 b8 b9 b10 : Nat) (hh : a < b0) : a < b0 + b1 + b2 + b3 + b4 + b5 + b6 + b7 + b8 + b9 + b10 := by omega
@[go_sem] theorem lt_add_12 (a b0 b1 b2 b3 b4 b5 b6 b7 b8 b9 b10 b11 : Nat) (hh : a < b0) : a < b0 + b1 + b2 + b3 + b4 + b5 + b6 + b7 + b8 + b9 + b10 + b11 := by omega
@[go_sem] theorem lt_add_13 (a b0 b1 b2 b3 b4 b5 b6 b7 b8 b9 b10 b11 b12 : Nat) (hh : a < b0) : a < b0 + b1 + b2 + b3 + b4 + b5 + b6 + b7 + b8 + b9 + b10 + b11 + b12 := by omega
@[go_sem] theorem lt_add_14 (a b0 b1 b2 b3 b4 b5 b6 b7 b8 b9 b10 b11 b12 b13 : Nat) (hh : a < b0) : a < b0 + b1 + b2 + b3 + b4 + b5 + b6 + b7 + b8 + b9 + b10 + b11 + b12 + b13 := by omega
@[go_sem] theorem lt_add_15 (a b0 b1 b2 b3 b4 b5 b6 b7 b8 b9 b10 b11 b12 b13 b14 : Nat) (hh : a < b0) : a < b0 + b1 + b2 + b3 + b4 + b5 + b6 + b7 + b8 + b9 + b10 + b11 + b12 + b13 + b14 := by omega
@[go_sem] theorem lt_add_16 (a b0 b1 b2 b3 b4 b5 b6 b7 b8 b9 b10 b11 b12 b13 b14 b15 : Nat) (hh : a < b0) : a < b0 + b1 + b2 + b3 + b4 + b5 + b6 + b7 + b8 + b9 + b10 + b11 + b12 + b13 + b14 + b15 := by omega
@[go_sem] theorem lt_add_17 (a b0 b1 b2 b3 b4 b5 b6 b7 b8 b9 b10 b11 b12 b13 b14 b15 b16 : Nat) (hh : a < b0) : a < b0 + b1 + b2 + b3 + b4 + b5 + b6 + b7 + b8 + b9 + b10 + b11 + b12 + b13 + b14 + b15 + b16 := by omega
@[go_sem] theorem lt_add_18 (a b0 b1 b2 b3 b4 b5 b6 b7 b8 b9 b10 b11 b12 b13 b14 b15 b16 b17 : Nat) (hh : a < b0) : a < b0 + b1 + b2 + b3 + b4 + b5 + b6 + b7 + b8 + b9 + b10 + b11 + b12 + b13 + b14 + b15 + b16 + b17 := by omega
@[go_sem] theorem lt_add_19 (a b0 b1 b2 b3 b4 b5 b6 b7 b8 b9 b10 b11 b12 b13 b14 b15 b16 b17 b18 : Nat) (hh : a < b0) : a < b0 + b1 + b2 + b3 + b4 + b5 + b6 + b7 + b8 + b9 + b10 + b11 + b12 + b13 + b14 + b15 + b16 + b17 + b18 := by omega
@[go_sem] theorem lt_add_20 (a b0 b1 b2 b3 b4 b5 b6 b7 b8 b9 b10 b11 b12 b13 b14 b15 b16 b17 b18 b19 : Nat) (hh : a < b0) : a < b0 + b1 + b2 + b3 + b4 + b5 + b6 + b7 + b8 + b9 + b10 + b11 + b12 + b13 + b14 + b15 + b16 + b17 + b18 + b19 := by omega
@[go_sem] theorem lt_add_21 (a b0 b1 b2 b3 b4 b5 b6 b7 b8 b9 b10 b11 b12 b13 b14 b15 b16 b17 b18 b19 b20 : Nat) (hh : a < b0) : a < b0 + b1 + b2 + b3 + b4 + b5 + b6 + b7 + b8 + b9 + b10 + b11 + b12 + b13 + b14 + b15 + b16 + b17 + b18 + b19 + b20 := by omega
@[go_sem] theorem lt_add_22 (a b0 b1 b2 b3 b4 b5 b6 b7 b8 b9 b10 b11 b12 b13 b14 b15 b16 b17 b18 b19 b20 b21 : Nat) (hh : a < b0) : a < b0 + b1 + b2 + b3 + b4 + b5 + b6 + b7 + b8 + b9 + b10 + b11 + b12 + b13 + b14 + b15 + b16 + b17 + b18 + b19 + b20 + b21 := by omega
@[go_sem] theorem lt_add_23 (a b0 b1 b2 b3 b4 b5 b6 b7 b8 b9 b10 b11 b12 b13 b14 b15 b16 b17 b18 b19 b20 b21 b22 : Nat) (hh : a < b0) : a < b0 + b1 + b2 + b3 + b4 + b5 + b6 + b7 + b8 + b9 + b10 + b11 + b12 + b13 + b14 + b15 + b16 + b17 + b18 + b19 + b20 + b21 + b22 := by omega
theorem standingR_few (l : List Rec) (s d : Int) : (standingR l s d).length ≤ l.length := by
  unfold standingR
  split
  · exact Nat.le_trans (pick_length _ _ _) (List.length_filter_le _ _)
  · exact Nat.zero_le _
theorem join_to (A B : Option Addr) (n c m d : Nat) (a b x : List Rec) (hn : a.length = n) (hm : b.length = m) (hbig : n ≤ 9223372036854775807) (hbig2 : m ≤ 9223372036854775807) (ht : TxtBig a) (ht2 : TxtBig b) (he : joinE a b = 0) (hx : joinL a b = x) (w : World) (hr : Recs w A a) (hs : Recs w B b) :
    Calls Try.prog 18 #[regV A n c, regV B m d] w fun e w' => ∃ A' n' c', e = .returned (.tuple #[regV A' n' c', .int .i64 0]) ∧ Hid (x.length = n') ∧ Recs w' A' x ∧ Ext w w' := by
  refine (Join_any A B n c m d a b hn hm hbig hbig2 ht ht2 w hr hs).mono ?_
  rintro e w' ⟨A', n', c', rfl, h1, h2, h3⟩
  rw [hx] at h1 h2
  exact ⟨A', n', c', by rw [he], hid h1.out.symm, h2.of_slice, h3⟩
theorem recsEqB_one (l : List Rec) : recsEqB l l = true := recsEqB_iff.2 rfl
theorem same_to (A B : Option Addr) (n c m d : Nat) (l : List Rec) (hn : l.length = n) (hm : l.length = m) (hbig : n ≤ 9223372036854775807) (w : World) (hr : Recs w A l) (hs : Recs w B l) :
    Calls Try.prog 20 #[regV A n c, regV B m d] w fun e w' => e = .returned (.bool true) ∧ Ext w w' := by
  have h := Same_any A B n c m d l l hn hm hbig w hr hs
  rw [recsEqB_one] at h
  exact h
theorem sameR_to (A B : Option Addr) (n c m d : Nat) (l : List Rec) (hn : l.length = n) (hm : l.length = m) (hbig : n ≤ 9223372036854775807) (w : World) (hr : Recs w A l) (hs : Recs w B l) :
    Calls Try.prog 33 #[.slice A n c, .slice B m d] w fun e w' => e = .returned (.bool true) ∧ Ext w w' := by
  have h := SameRecords_any A B n c m d l l hn hm hbig w hr hs
  rw [recsEqB_one] at h
  exact h
theorem Part.txt {g x : List Rec} (hc : checkB g = true) (h : Part g x) : TxtBig x := txtBig_ok (checkB_iff.1 (h.check hc)).2.1
/-- What is there while records are added. -/
structure JdW (P wr : World) (g x : List Rec) (Ax : Option Addr) (nx cx : Nat) : Prop where
  ext : Ext (P.alloc (.cells #[.slice Ax nx cx] 38)) wr
  len : x.length = nx
  part : Part g x
  own : Recs P Ax x ∨ OwnR (P.heap.size + 1) wr (.slice Ax nx cx) x
set_option maxRecDepth 100000 in
set_option maxHeartbeats 32000000 in
theorem joined_walk (A B : Option Addr) (n c m q : Nat) (l : List RawD) (p : List Int) (day0 : Int) (hn : l.length = n) (hbig : n ≤ 9223372036854775807) (hx : RawBig l) (hm : p.length = m) (hmb : m ≤ 4611686018427387904) (w : World) (hr : Raws w A l) (hp : Ints w B p) :
    Calls Try.prog 9 #[.slice A n c, .slice B m q, .int .i64 day0] w fun e w' => e = .returned (.bool true) ∧ Ext w w' := by
  have hf : fifty l ≤ l.length ∧ fifty l ≤ 50 := by unfold fifty; split <;> omega
  have hR := regN_ok l (fifty l) hf.1 (by omega)
  obtain ⟨gl, hgl⟩ : ∃ gl, regN (l.take (fifty l)) = gl := ⟨_, rfl⟩
  rw [hgl] at hR
  have Hgl := hid hgl
  have hck := hR.check (by omega)
  have hglen : gl.length ≤ 50 := by rw [hR.len]; exact hf.2
  have HS := hid hR.sorted
  have Htx : Hid (TxtBig gl) := hid (txtBig_ok hR.ok)
  have q0 := Int.emod_nonneg day0 (show (70 : Int) ≠ 0 by decide)
  have q1 := Int.emod_lt_of_pos day0 (show (0 : Int) < 70 by decide)
  obtain ⟨dn, hdn⟩ : ∃ dn : Nat, day0 % 70 = dn := ⟨(day0 % 70).toNat, by omega⟩
  have hdn70 : dn < 70 := by omega
  have Hck := hid hck
  have Hglen := hid hglen
  clear hgl hR hf q0 q1 hck hglen
  go_enter Try.func9, Try.ntmps9
  go_wp2_with (go_at_call 29; refine (Regs_any _ _ _ l hn hbig hx _ hr).mono ?_; rintro e w1 ⟨Ag, ng, cg, rfl, hng, hog, E7, d7, rfl⟩; rw [Hgl.out] at hng hog; have hrg := OwnR.of_slice hog; clear hog)
  have hgn : gl.length = ng := hng.out.symm
  have hng50 : ng ≤ 50 := by have := Hglen.out; omega
  have Hgn := hid hgn
  clear hng hgn
  refine (some_any _ _ _ _ _ _ gl p _ Hgn.out (by omega) hm hmb (by decide) _ (by with_reducible repeat (first | assumption | apply Recs.ext | apply Recs.alloc | apply Recs.drew | (refine Recs.of_ext ?_ (by assumption)))) (by first | assumption | (refine Ints.of_ext hp (by repeat (first | with_reducible exact Ext.refl _ | with_reducible exact Ext.same _ _ _ _ | with_reducible assumption | with_reducible apply Ext.alloc | with_reducible apply Ext.ext | with_reducible apply Ext.drew | (with_reducible refine Ext.setCell ?_ _ _ ?_; rotate_left; (focus (first | omega | (simp only [World.size_alloc, World.size_drew, size_ext, World.size_setCell]; omega)))) | (with_reducible refine Ext.trans ?_ (by assumption))))))).mono ?_
  rintro e w1 ⟨Aa, na, ca, xa, rfl, hna, hoa, hsa, Ea, da, rfl⟩
  have hra := hoa.of_slice
  have Pa := hid (Part.of_sub HS.out hsa.out)
  have Hna := hid hna.out.symm
  clear hna hoa hsa
  go_wp2_with fail
  refine (some_any _ _ _ _ _ _ gl p _ Hgn.out (by omega) hm hmb (by decide) _ (by with_reducible repeat (first | assumption | apply Recs.ext | apply Recs.alloc | apply Recs.drew | (refine Recs.of_ext ?_ (by assumption)))) (by first | assumption | (refine Ints.of_ext hp (by repeat (first | with_reducible exact Ext.refl _ | with_reducible exact Ext.same _ _ _ _ | with_reducible assumption | with_reducible apply Ext.alloc | with_reducible apply Ext.ext | with_reducible apply Ext.drew | (with_reducible refine Ext.setCell ?_ _ _ ?_; rotate_left; (focus (first | omega | (simp only [World.size_alloc, World.size_drew, size_ext, World.size_setCell]; omega)))) | (with_reducible refine Ext.trans ?_ (by assumption))))))).mono ?_
  rintro e w1 ⟨Ab, nb, cb, xb, rfl, hnb, hob, hsb, Eb, db, rfl⟩
  have hrb := hob.of_slice
  have Pb := hid (Part.of_sub HS.out hsb.out)
  have Hnb := hid hnb.out.symm
  clear hnb hob hsb
  go_wp2_with fail
  refine (some_any _ _ _ _ _ _ gl p _ Hgn.out (by omega) hm hmb (by decide) _ (by with_reducible repeat (first | assumption | apply Recs.ext | apply Recs.alloc | apply Recs.drew | (refine Recs.of_ext ?_ (by assumption)))) (by first | assumption | (refine Ints.of_ext hp (by repeat (first | with_reducible exact Ext.refl _ | with_reducible exact Ext.same _ _ _ _ | with_reducible assumption | with_reducible apply Ext.alloc | with_reducible apply Ext.ext | with_reducible apply Ext.drew | (with_reducible refine Ext.setCell ?_ _ _ ?_; rotate_left; (focus (first | omega | (simp only [World.size_alloc, World.size_drew, size_ext, World.size_setCell]; omega)))) | (with_reducible refine Ext.trans ?_ (by assumption))))))).mono ?_
  rintro e w1 ⟨Ac, nc, cc, xc, rfl, hnc, hoc, hsc, Ec, dc, rfl⟩
  have hrc := hoc.of_slice
  have Pc := hid (Part.of_sub HS.out hsc.out)
  have Hnc := hid hnc.out.symm
  clear hnc hoc hsc
  obtain ⟨l1, l2, l3, l4⟩ := Part.laws Hck.out Pa.out Pb.out Pc.out
  obtain ⟨eab, pab, -⟩ := Pa.out.join Hck.out Pb.out
  obtain ⟨eba, -, -⟩ := Pb.out.join Hck.out Pa.out
  obtain ⟨ebc, pbc, -⟩ := Pb.out.join Hck.out Pc.out
  obtain ⟨eo, po, -⟩ := pab.join Hck.out Pc.out
  obtain ⟨et, -, -⟩ := Pa.out.join Hck.out pbc
  obtain ⟨eaa, -, -⟩ := Pa.out.join Hck.out Pa.out
  obtain ⟨eal, -, -⟩ := po.join Hck.out (Part.self HS.out)
  obtain ⟨xab, hxab⟩ : ∃ x, joinL xa xb = x := ⟨_, rfl⟩
  obtain ⟨xbc, hxbc⟩ : ∃ x, joinL xb xc = x := ⟨_, rfl⟩
  rw [hxab] at l1 l2 l4 pab eo po eal
  rw [hxbc] at l2 pbc et
  obtain ⟨xo, hxo⟩ : ∃ x, joinL xab xc = x := ⟨_, rfl⟩
  rw [hxo] at l2 l4 po eal
  have ba := Pa.out.len HS.out
  have bb := Pb.out.len HS.out
  have bc := Pc.out.len HS.out
  have bab := pab.len HS.out
  have bbc := pbc.len HS.out
  have bo := po.len HS.out
  have tg := Htx.out
  have F : Hid ((joinE xa xb = 0 ∧ joinE xb xa = 0 ∧ joinE xb xc = 0 ∧ joinE xab xc = 0 ∧ joinE xa xbc = 0 ∧ joinE xa xa = 0 ∧ joinE xo gl = 0) ∧ (joinL xa xb = xab ∧ joinL xb xa = xab ∧ joinL xb xc = xbc ∧ joinL xab xc = xo ∧ joinL xa xbc = xo ∧ joinL xa xa = xa ∧ joinL xo gl = gl) ∧
      (xa.length ≤ 50 ∧ xb.length ≤ 50 ∧ xc.length ≤ 50 ∧ xab.length ≤ 50 ∧ xbc.length ≤ 50 ∧ xo.length ≤ 50) ∧ (TxtBig xa ∧ TxtBig xb ∧ TxtBig xc ∧ TxtBig xab ∧ TxtBig xbc ∧ TxtBig xo) ∧ Part gl xo) :=
    hid (by
      have hg := Hglen.out
      exact ⟨⟨eab, eba, ebc, eo, et, eaa, eal⟩, ⟨hxab, l1.symm, hxbc, hxo, l2.symm, l3, l4⟩, ⟨by omega, by omega, by omega, by omega, by omega, by omega⟩, ⟨Pa.out.txt Hck.out, Pb.out.txt Hck.out, Pc.out.txt Hck.out, pab.txt Hck.out, pbc.txt Hck.out, po.txt Hck.out⟩, po⟩)
  clear eab eba ebc eo et eaa eal hxab l1 hxbc hxo l2 l3 l4 ba bb bc bab bbc bo tg pab pbc po Pa Pb Pc
  obtain ⟨⟨f1, f2, f3, f4, f5, f6, f7⟩, ⟨g1, g2, g3, g4, g5, g6, g7⟩, ⟨b1, b2, b3, b4, b5, b6⟩, ⟨t1, t2, t3, t4, t5, t6⟩, po⟩ := F.out
  have F1 := hid f1
  have F2 := hid f2
  have F3 := hid f3
  have F4 := hid f4
  have F5 := hid f5
  have F6 := hid f6
  have F7 := hid f7
  have G1 := hid g1
  have G2 := hid g2
  have G3 := hid g3
  have G4 := hid g4
  have G5 := hid g5
  have G6 := hid g6
  have G7 := hid g7
  have Po := hid po
  have c1 : na ≤ 50 := by have := Hna.out; omega
  have c2 : nb ≤ 50 := by have := Hnb.out; omega
  have c3 : nc ≤ 50 := by have := Hnc.out; omega
  clear f1 f2 f3 f4 f5 f6 f7 g1 g2 g3 g4 g5 g6 g7 po b1 b2 b3 F
  go_wp2_with fail
  refine (join_to _ _ _ _ _ _ xa xb xab Hna.out Hnb.out (by omega) (by omega) t1 t2 F1.out G1.out _ (by with_reducible repeat (first | assumption | apply Recs.ext | apply Recs.alloc | apply Recs.drew | (refine Recs.of_ext ?_ (by assumption)))) (by with_reducible repeat (first | assumption | apply Recs.ext | apply Recs.alloc | apply Recs.drew | (refine Recs.of_ext ?_ (by assumption))))).mono ?_
  rintro e w1 ⟨A1, n1, c1', rfl, hn1, hr1, E1, d1, rfl⟩
  have k1 : n1 ≤ 50 := by have := hn1.out; omega
  go_wp2_with fail
  refine (join_to _ _ _ _ _ _ xb xa xab Hnb.out Hna.out (by omega) (by omega) t2 t1 F2.out G2.out _ (by with_reducible repeat (first | assumption | apply Recs.ext | apply Recs.alloc | apply Recs.drew | (refine Recs.of_ext ?_ (by assumption)))) (by with_reducible repeat (first | assumption | apply Recs.ext | apply Recs.alloc | apply Recs.drew | (refine Recs.of_ext ?_ (by assumption))))).mono ?_
  rintro e w1 ⟨A2, n2, c2', rfl, hn2, hr2, E2, d2, rfl⟩
  have k2 : n2 ≤ 50 := by have := hn2.out; omega
  go_wp2_with fail
  refine (join_to _ _ _ _ _ _ xb xc xbc Hnb.out Hnc.out (by omega) (by omega) t2 t3 F3.out G3.out _ (by with_reducible repeat (first | assumption | apply Recs.ext | apply Recs.alloc | apply Recs.drew | (refine Recs.of_ext ?_ (by assumption)))) (by with_reducible repeat (first | assumption | apply Recs.ext | apply Recs.alloc | apply Recs.drew | (refine Recs.of_ext ?_ (by assumption))))).mono ?_
  rintro e w1 ⟨A3, n3, c3', rfl, hn3, hr3, E3, d3, rfl⟩
  have k3 : n3 ≤ 50 := by have := hn3.out; omega
  go_wp2_with fail
  refine (join_to _ _ _ _ _ _ xab xc xo hn1.out Hnc.out (by omega) (by omega) t4 t3 F4.out G4.out _ (by with_reducible repeat (first | assumption | apply Recs.ext | apply Recs.alloc | apply Recs.drew | (refine Recs.of_ext ?_ (by assumption)))) (by with_reducible repeat (first | assumption | apply Recs.ext | apply Recs.alloc | apply Recs.drew | (refine Recs.of_ext ?_ (by assumption))))).mono ?_
  rintro e P ⟨A4, n4, c4', rfl, hn4, hr4, hxP⟩
  have k4 : n4 ≤ 50 := by have := hn4.out; omega
  have cg7 : P.cell? ⟨w.heap.size + E7.size, 0, none⟩ = some (.slice Ag ng cg) := (Ext.cellOf hxP (by simp only [size_ext, World.size_alloc]; omega)).trans (by go_simp; try rfl)
  have Lcg7 : w.heap.size + E7.size < P.heap.size := Nat.lt_of_lt_of_le (by simp only [size_ext, World.size_alloc]; omega) hxP.below.size
  have cg8 : P.cell? ⟨w.heap.size + E7.size + 1 + Ea.size, 0, none⟩ = some (.slice Aa na ca) := (Ext.cellOf hxP (by simp only [size_ext, World.size_alloc]; omega)).trans (by go_simp; try rfl)
  have Lcg8 : w.heap.size + E7.size + 1 + Ea.size < P.heap.size := Nat.lt_of_lt_of_le (by simp only [size_ext, World.size_alloc]; omega) hxP.below.size
  have cg11 : P.cell? ⟨w.heap.size + E7.size + 1 + Ea.size + 1 + Eb.size + 1 + Ec.size + 1 + E1.size, 0, none⟩ = some (.slice A1 n1 c1') := (Ext.cellOf hxP (by simp only [size_ext, World.size_alloc]; omega)).trans (by go_simp; try rfl)
  have Lcg11 : w.heap.size + E7.size + 1 + Ea.size + 1 + Eb.size + 1 + Ec.size + 1 + E1.size < P.heap.size := Nat.lt_of_lt_of_le (by simp only [size_ext, World.size_alloc]; omega) hxP.below.size
  have cg13 : P.cell? ⟨w.heap.size + E7.size + 1 + Ea.size + 1 + Eb.size + 1 + Ec.size + 1 + E1.size + 1 + E2.size, 0, none⟩ = some (.slice A2 n2 c2') := (Ext.cellOf hxP (by simp only [size_ext, World.size_alloc]; omega)).trans (by go_simp; try rfl)
  have Lcg13 : w.heap.size + E7.size + 1 + Ea.size + 1 + Eb.size + 1 + Ec.size + 1 + E1.size + 1 + E2.size < P.heap.size := Nat.lt_of_lt_of_le (by simp only [size_ext, World.size_alloc]; omega) hxP.below.size
  have cg15 : P.cell? ⟨w.heap.size + E7.size + 1 + Ea.size + 1 + Eb.size + 1 + Ec.size + 1 + E1.size + 1 + E2.size + 1 + E3.size, 0, none⟩ = some (.slice A3 n3 c3') := (Ext.cellOf hxP (by simp only [size_ext, World.size_alloc]; omega)).trans (by go_simp; try rfl)
  have Lcg15 : w.heap.size + E7.size + 1 + Ea.size + 1 + Eb.size + 1 + Ec.size + 1 + E1.size + 1 + E2.size + 1 + E3.size < P.heap.size := Nat.lt_of_lt_of_le (by simp only [size_ext, World.size_alloc]; omega) hxP.below.size
  have gP : Recs P Ag gl := hrg.of_ext (by repeat (first | with_reducible exact Ext.refl _ | with_reducible exact Ext.same _ _ _ _ | with_reducible assumption | with_reducible apply Ext.alloc | with_reducible apply Ext.ext | with_reducible apply Ext.drew | (with_reducible refine Ext.setCell ?_ _ _ ?_; rotate_left; (focus (first | omega | (simp only [World.size_alloc, World.size_drew, size_ext, World.size_setCell]; omega)))) | (with_reducible refine Ext.trans ?_ (by assumption))))
  have aP : Recs P Aa xa := hra.of_ext (by repeat (first | with_reducible exact Ext.refl _ | with_reducible exact Ext.same _ _ _ _ | with_reducible assumption | with_reducible apply Ext.alloc | with_reducible apply Ext.ext | with_reducible apply Ext.drew | (with_reducible refine Ext.setCell ?_ _ _ ?_; rotate_left; (focus (first | omega | (simp only [World.size_alloc, World.size_drew, size_ext, World.size_setCell]; omega)))) | (with_reducible refine Ext.trans ?_ (by assumption))))
  have abP : Recs P A1 xab := hr1.of_ext (by repeat (first | with_reducible exact Ext.refl _ | with_reducible exact Ext.same _ _ _ _ | with_reducible assumption | with_reducible apply Ext.alloc | with_reducible apply Ext.ext | with_reducible apply Ext.drew | (with_reducible refine Ext.setCell ?_ _ _ ?_; rotate_left; (focus (first | omega | (simp only [World.size_alloc, World.size_drew, size_ext, World.size_setCell]; omega)))) | (with_reducible refine Ext.trans ?_ (by assumption))))
  have baP : Recs P A2 xab := hr2.of_ext (by repeat (first | with_reducible exact Ext.refl _ | with_reducible exact Ext.same _ _ _ _ | with_reducible assumption | with_reducible apply Ext.alloc | with_reducible apply Ext.ext | with_reducible apply Ext.drew | (with_reducible refine Ext.setCell ?_ _ _ ?_; rotate_left; (focus (first | omega | (simp only [World.size_alloc, World.size_drew, size_ext, World.size_setCell]; omega)))) | (with_reducible refine Ext.trans ?_ (by assumption))))
  have bcP : Recs P A3 xbc := hr3.of_ext (by repeat (first | with_reducible exact Ext.refl _ | with_reducible exact Ext.same _ _ _ _ | with_reducible assumption | with_reducible apply Ext.alloc | with_reducible apply Ext.ext | with_reducible apply Ext.drew | (with_reducible refine Ext.setCell ?_ _ _ ?_; rotate_left; (focus (first | omega | (simp only [World.size_alloc, World.size_drew, size_ext, World.size_setCell]; omega)))) | (with_reducible refine Ext.trans ?_ (by assumption))))
  have oP : Recs P A4 xo := hr4
  have hwP : Ext w P := by
    refine Ext.trans ?_ hxP
    exact (by repeat (first | with_reducible exact Ext.refl _ | with_reducible exact Ext.same _ _ _ _ | with_reducible assumption | with_reducible apply Ext.alloc | with_reducible apply Ext.ext | with_reducible apply Ext.drew | (with_reducible refine Ext.setCell ?_ _ _ ?_; rotate_left; (focus (first | omega | (simp only [World.size_alloc, World.size_drew, size_ext, World.size_setCell]; omega))))))
  clear hrg hra hrb hrc hr1 hr2 hr3 hr4 hxP
  go_wp2_with fail
  refine (join_to _ _ _ _ _ _ xa xbc xo Hna.out hn3.out (by omega) (by omega) t1 t5 F5.out G5.out _ (by with_reducible repeat (first | assumption | apply Recs.ext | apply Recs.alloc | apply Recs.drew | (refine Recs.of_ext ?_ (by assumption)))) (by with_reducible repeat (first | assumption | apply Recs.ext | apply Recs.alloc | apply Recs.drew | (refine Recs.of_ext ?_ (by assumption))))).mono ?_
  rintro e w1 ⟨A5, n5, c5', rfl, hn5, hr5, E5, d5, rfl⟩
  have k5 : n5 ≤ 50 := by have := hn5.out; omega
  go_wp2_with fail
  refine (join_to _ _ _ _ _ _ xa xa xa Hna.out Hna.out (by omega) (by omega) t1 t1 F6.out G6.out _ (by with_reducible repeat (first | assumption | apply Recs.ext | apply Recs.alloc | apply Recs.drew | (refine Recs.of_ext ?_ (by assumption)))) (by with_reducible repeat (first | assumption | apply Recs.ext | apply Recs.alloc | apply Recs.drew | (refine Recs.of_ext ?_ (by assumption))))).mono ?_
  rintro e w1 ⟨A6, n6, c6', rfl, hn6, hr6, E6, d6, rfl⟩
  have k6 : n6 ≤ 50 := by have := hn6.out; have := Hna.out; omega
  go_wp2_with fail
  refine (join_to _ _ _ _ _ _ xo gl gl hn4.out Hgn.out (by omega) (by omega) t6 Htx.out F7.out G7.out _ (by with_reducible repeat (first | assumption | apply Recs.ext | apply Recs.alloc | apply Recs.drew | (refine Recs.of_ext ?_ (by assumption)))) (by with_reducible repeat (first | assumption | apply Recs.ext | apply Recs.alloc | apply Recs.drew | (refine Recs.of_ext ?_ (by assumption))))).mono ?_
  rintro e w1 ⟨A7, n7, c7', rfl, hn7, hr7, E8, d8, rfl⟩
  have k7 : n7 ≤ 50 := by have := hn7.out; have := Hglen.out; omega
  go_wp2_with fail
  refine (same_to _ _ _ _ _ _ xab hn1.out hn2.out (by omega) _ (by with_reducible repeat (first | assumption | apply Recs.ext | apply Recs.alloc | apply Recs.drew | (refine Recs.of_ext ?_ (by assumption)))) (by with_reducible repeat (first | assumption | apply Recs.ext | apply Recs.alloc | apply Recs.drew | (refine Recs.of_ext ?_ (by assumption))))).mono ?_
  rintro e w1 ⟨rfl, S1, s1, rfl⟩
  go_wp2_with fail
  refine (same_to _ _ _ _ _ _ xo hn4.out hn5.out (by omega) _ (by with_reducible repeat (first | assumption | apply Recs.ext | apply Recs.alloc | apply Recs.drew | (refine Recs.of_ext ?_ (by assumption)))) (by with_reducible repeat (first | assumption | apply Recs.ext | apply Recs.alloc | apply Recs.drew | (refine Recs.of_ext ?_ (by assumption))))).mono ?_
  rintro e w1 ⟨rfl, S2, s2, rfl⟩
  go_wp2_with fail
  refine (same_to _ _ _ _ _ _ xa hn6.out Hna.out (by omega) _ (by with_reducible repeat (first | assumption | apply Recs.ext | apply Recs.alloc | apply Recs.drew | (refine Recs.of_ext ?_ (by assumption)))) (by with_reducible repeat (first | assumption | apply Recs.ext | apply Recs.alloc | apply Recs.drew | (refine Recs.of_ext ?_ (by assumption))))).mono ?_
  rintro e w1 ⟨rfl, S3, s3, rfl⟩
  go_wp2_with fail
  refine (same_to _ _ _ _ _ _ gl hn7.out Hgn.out (by omega) _ (by with_reducible repeat (first | assumption | apply Recs.ext | apply Recs.alloc | apply Recs.drew | (refine Recs.of_ext ?_ (by assumption)))) (by with_reducible repeat (first | assumption | apply Recs.ext | apply Recs.alloc | apply Recs.drew | (refine Recs.of_ext ?_ (by assumption))))).mono ?_
  rintro e w1 ⟨rfl, S4, s4, rfl⟩
  clear hr5 hr6 hr7 abP baP bcP aP cg8 cg11 cg13 cg15 Lcg8 Lcg11 Lcg13 Lcg15
  go_wp2_with (go_at_call 30; refine (Mod_any _ _ (by omega) (by omega) _).mono ?_; rintro e w1 ⟨rfl, rfl⟩)
  go_loopw [26] (fun i wr => ∃ (k : Nat) (x : List Rec) (Ax : Option Addr) (nx cx : Nat), k ≤ ng ∧ i = .int .i64 k ∧ JdW P wr gl x Ax nx cx) (fun i _ => ng - (intOf i).toNat)
  case atStart => exact ⟨0, xo, _, _, _, Nat.zero_le _, rfl, ⟨(by repeat (first | with_reducible exact Ext.refl _ | with_reducible exact Ext.same _ _ _ _ | with_reducible assumption | with_reducible apply Ext.alloc | with_reducible apply Ext.ext | with_reducible apply Ext.drew | (with_reducible refine Ext.setCell ?_ _ _ ?_; rotate_left; (focus (first | omega | (simp only [World.size_alloc, World.size_drew, size_ext, World.size_setCell]; omega)))))), hn4.out, Po.out, .inl oP⟩⟩
  case round =>
    obtain ⟨k, x, Ax, nx, cx, hk, rfl, ⟨⟨E9, d9, rfl⟩, hlx, hpx, hox⟩⟩ := hrel
    have hrx := hox.elim (fun h => (h.alloc (.cells #[.slice Ax nx cx] 38)).ext E9 d9) OwnR.of_slice
    have hsvd := fun d' => Recs.of_ext hrx (Ext.same _ _ _ d')
    have hnx : nx ≤ 50 := by have := hpx.len HS.out; have := Hglen.out; omega
    have htx := hpx.txt Hck.out
    have Hpx := hid hpx
    have Hlx := hid hlx
    have Hox := hid hox
    clear hox hrx hpx hlx
    by_cases hlt : k < ng
    · obtain ⟨j, hj⟩ : ∃ j, (k * 7 + dn) % ng = j := ⟨_, rfl⟩
      have hjn : j < ng := by rw [← hj]; exact Nat.mod_lt _ (by omega)
      have hj2 : ((k : Int) * 7 + (dn : Int)).tmod (ng : Int) = j := by
        rw [Int.tmod_eq_emod_of_nonneg (by omega), ← hj, show (k : Int) * 7 + (dn : Int) = ((k * 7 + dn : Nat) : Int) from by omega]
        exact (Int.natCast_emod _ _).symm
      have hng0 : ¬ (ng : Int) = 0 := by omega
      have hng1 : ¬ ng = 0 := by omega
      have hng2 : ((ng : Int) == 0) = false := by simp; omega
      have hw1 : IntKind.i64.wrap ((k : Int) * 7) = (k : Int) * 7 := IntWalk.i64_in _ (by omega)
      have hw2 : IntKind.i64.wrap ((k : Int) * 7 + (dn : Int)) = (k : Int) * 7 + (dn : Int) := IntWalk.i64_in _ (by omega)
      have hw3 : IntKind.i64.wrap (j : Int) = (j : Int) := IntWalk.i64_in _ (by omega)
      have hj0 : (0 : Int) ≤ j := by omega
      have hj1 : (j : Int) < ng := by omega
      clear hj
      obtain ⟨gg, oo, rfl, hgg⟩ := gP.addr (by have := Hgn.out; omega)
      obtain ⟨h0, h1, h2, h3, h4, h5, h6, h7, h8, h9, h10⟩ := gP.row (i := j) (by have := Hgn.out; omega)
      obtain ⟨r, hrj⟩ : ∃ r, gl[j]'(by have := Hgn.out; omega) = r := ⟨_, rfl⟩
      rw [hrj] at h0 h1 h2 h3 h4 h5 h6 h7 h8 h9 h10
      have hrm : r ∈ gl := by rw [← hrj]; exact List.getElem_mem _
      obtain ⟨hae, hpa, hma⟩ := Hpx.out.add Hck.out (by have := Hglen.out; omega) hrm
      have hrt : r.text.size ≤ 9223372036854775807 := Htx.out r hrm
      have Hpa := hid hpa
      have Hma := hid hma
      have Hrj := hid hrj
      clear hpa hma hrj hrm
      go_wp2_with fail
      refine wp_region_ord_same (.f 0 (.f 1 (.f 2 (.f 3 (.f 4 (.f 5 (.f 6 (.f 7 (.f 8 (.f 9 (.f 10 (.f 11 (.f 12 (.k 13 (.f 14 (.f 15 (.f 16 (.a 17 (.a 18 (.f 19 .d)))))) 17 (.a 13 (.f 14 (.f 15 (.f 16 (.a 18 (.f 19 .d)))))))))))))))))))) (by kernel_rfl) (by kernel_rfl) ?_
      repeat (first | (refine wpOrd_pass rfl rfl ?_; simp only [Act.put, List.getElem_toArray, List.getElem_cons_succ, List.getElem_cons_zero, List.setIfInBounds_toArray, List.set_cons_zero, List.set_cons_succ]) | (refine wpOrd_free (v := ?_) rfl rfl (fun _ hS => ?_) ?_; rotate_left; (focus (go_simp; try with_reducible rfl)); simp only [Act.put, List.getElem_toArray, List.getElem_cons_succ, List.getElem_cons_zero, List.setIfInBounds_toArray, List.set_cons_zero, List.set_cons_succ]))
      refine wpOrd_fork ?_ ?_
      focus
        refine wpOrd_call rfl rfl rfl Try.call21 (fun R hR => ?_)
        go_simp
        refine (Add_any _ _ _ x r Hlx.out (by omega) htx hrt _ (by with_reducible repeat (first | assumption | exact hsvd _ | apply Recs.ext | apply Recs.alloc | apply Recs.drew | (refine Recs.of_ext ?_ (by assumption))))).mono ?_
        rintro e w1 ⟨Ap1, np1, cp1, rfl, hnp1, hvp1, E1, d1, rfl⟩
        refine hR _ _ ⟨_, rfl, ?_, ?_⟩
        · (first | exact fun b o hb => Ext.cellOf (by repeat (first | with_reducible exact Ext.refl _ | with_reducible exact Ext.same _ _ _ _ | with_reducible assumption | with_reducible apply Ext.alloc | with_reducible apply Ext.ext | with_reducible apply Ext.drew | (with_reducible refine Ext.setCell ?_ _ _ ?_; rotate_left; (focus (first | omega | (simp only [World.size_alloc, World.size_drew, size_ext, World.size_setCell]; omega)))))) hb | (intro b o hb; (try simp only [size_ext, World.size_alloc, World.size_drew, World.size_setCell] at hb); go_simp; try rfl))
        clear hR R
        simp only [Act.put, List.getElem_toArray, List.getElem_cons_succ, List.getElem_cons_zero, List.setIfInBounds_toArray, List.set_cons_zero, List.set_cons_succ]
        repeat (first | (refine wpOrd_pass rfl rfl ?_; simp only [Act.put, List.getElem_toArray, List.getElem_cons_succ, List.getElem_cons_zero, List.setIfInBounds_toArray, List.set_cons_zero, List.set_cons_succ]) | (refine wpOrd_free (v := ?_) rfl rfl (fun _ hS => ?_) ?_; rotate_left; (focus (go_simp; try with_reducible rfl)); simp only [Act.put, List.getElem_toArray, List.getElem_cons_succ, List.getElem_cons_zero, List.setIfInBounds_toArray, List.set_cons_zero, List.set_cons_succ]))
        refine wpOrd_act rfl rfl (fun K hK => ?_)
        go_simp
        refine hK _ _ ⟨?_, ?_⟩
        · (first | exact fun b o hb => Ext.cellOf (by repeat (first | with_reducible exact Ext.refl _ | with_reducible exact Ext.same _ _ _ _ | with_reducible assumption | with_reducible apply Ext.alloc | with_reducible apply Ext.ext | with_reducible apply Ext.drew | (with_reducible refine Ext.setCell ?_ _ _ ?_; rotate_left; (focus (first | omega | (simp only [World.size_alloc, World.size_drew, size_ext, World.size_setCell]; omega)))))) hb | (intro b o hb; (try simp only [size_ext, World.size_alloc, World.size_drew, World.size_setCell] at hb); go_simp; try rfl))
        clear hK K
        try simp only [Act.put, List.getElem_toArray, List.getElem_cons_succ, List.getElem_cons_zero, List.setIfInBounds_toArray, List.set_cons_zero, List.set_cons_succ]
        refine wpOrd_act rfl rfl (fun K hK => ?_)
        go_simp
        refine hK _ _ ⟨?_, ?_⟩
        · (first | exact fun b o hb => Ext.cellOf (by repeat (first | with_reducible exact Ext.refl _ | with_reducible exact Ext.same _ _ _ _ | with_reducible assumption | with_reducible apply Ext.alloc | with_reducible apply Ext.ext | with_reducible apply Ext.drew | (with_reducible refine Ext.setCell ?_ _ _ ?_; rotate_left; (focus (first | omega | (simp only [World.size_alloc, World.size_drew, size_ext, World.size_setCell]; omega)))))) hb | (intro b o hb; (try simp only [size_ext, World.size_alloc, World.size_drew, World.size_setCell] at hb); go_simp; try rfl))
        clear hK K
        try simp only [Act.put, List.getElem_toArray, List.getElem_cons_succ, List.getElem_cons_zero, List.setIfInBounds_toArray, List.set_cons_zero, List.set_cons_succ]
        repeat (first | (refine wpOrd_pass rfl rfl ?_; simp only [Act.put, List.getElem_toArray, List.getElem_cons_succ, List.getElem_cons_zero, List.setIfInBounds_toArray, List.set_cons_zero, List.set_cons_succ]) | (refine wpOrd_free (v := ?_) rfl rfl (fun _ hS => ?_) ?_; rotate_left; (focus (go_simp; try with_reducible rfl)); simp only [Act.put, List.getElem_toArray, List.getElem_cons_succ, List.getElem_cons_zero, List.setIfInBounds_toArray, List.set_cons_zero, List.set_cons_succ]))
        refine wpOrd_nil ?_
      rotate_right
      focus
        refine wpOrd_act rfl rfl (fun K hK => ?_)
        go_simp
        refine hK _ _ ⟨?_, ?_⟩
        · (first | exact fun b o hb => Ext.cellOf (by repeat (first | with_reducible exact Ext.refl _ | with_reducible exact Ext.same _ _ _ _ | with_reducible assumption | with_reducible apply Ext.alloc | with_reducible apply Ext.ext | with_reducible apply Ext.drew | (with_reducible refine Ext.setCell ?_ _ _ ?_; rotate_left; (focus (first | omega | (simp only [World.size_alloc, World.size_drew, size_ext, World.size_setCell]; omega)))))) hb | (intro b o hb; (try simp only [size_ext, World.size_alloc, World.size_drew, World.size_setCell] at hb); go_simp; try rfl))
        clear hK K
        try simp only [Act.put, List.getElem_toArray, List.getElem_cons_succ, List.getElem_cons_zero, List.setIfInBounds_toArray, List.set_cons_zero, List.set_cons_succ]
        refine wpOrd_call rfl rfl rfl Try.call21 (fun R hR => ?_)
        go_simp
        refine (Add_any _ _ _ x r Hlx.out (by omega) htx hrt _ (by with_reducible repeat (first | assumption | exact hsvd _ | apply Recs.ext | apply Recs.alloc | apply Recs.drew | (refine Recs.of_ext ?_ (by assumption))))).mono ?_
        rintro e w1 ⟨Ap2, np2, cp2, rfl, hnp2, hvp2, E2, d2, rfl⟩
        refine hR _ _ ⟨_, rfl, ?_, ?_⟩
        · (first | exact fun b o hb => Ext.cellOf (by repeat (first | with_reducible exact Ext.refl _ | with_reducible exact Ext.same _ _ _ _ | with_reducible assumption | with_reducible apply Ext.alloc | with_reducible apply Ext.ext | with_reducible apply Ext.drew | (with_reducible refine Ext.setCell ?_ _ _ ?_; rotate_left; (focus (first | omega | (simp only [World.size_alloc, World.size_drew, size_ext, World.size_setCell]; omega)))))) hb | (intro b o hb; (try simp only [size_ext, World.size_alloc, World.size_drew, World.size_setCell] at hb); go_simp; try rfl))
        clear hR R
        simp only [Act.put, List.getElem_toArray, List.getElem_cons_succ, List.getElem_cons_zero, List.setIfInBounds_toArray, List.set_cons_zero, List.set_cons_succ]
        repeat (first | (refine wpOrd_pass rfl rfl ?_; simp only [Act.put, List.getElem_toArray, List.getElem_cons_succ, List.getElem_cons_zero, List.setIfInBounds_toArray, List.set_cons_zero, List.set_cons_succ]) | (refine wpOrd_free (v := ?_) rfl rfl (fun _ hS => ?_) ?_; rotate_left; (focus (go_simp; try with_reducible rfl)); simp only [Act.put, List.getElem_toArray, List.getElem_cons_succ, List.getElem_cons_zero, List.setIfInBounds_toArray, List.set_cons_zero, List.set_cons_succ]))
        refine wpOrd_act rfl rfl (fun K hK => ?_)
        go_simp
        refine hK _ _ ⟨?_, ?_⟩
        · (first | exact fun b o hb => Ext.cellOf (by repeat (first | with_reducible exact Ext.refl _ | with_reducible exact Ext.same _ _ _ _ | with_reducible assumption | with_reducible apply Ext.alloc | with_reducible apply Ext.ext | with_reducible apply Ext.drew | (with_reducible refine Ext.setCell ?_ _ _ ?_; rotate_left; (focus (first | omega | (simp only [World.size_alloc, World.size_drew, size_ext, World.size_setCell]; omega)))))) hb | (intro b o hb; (try simp only [size_ext, World.size_alloc, World.size_drew, World.size_setCell] at hb); go_simp; try rfl))
        clear hK K
        try simp only [Act.put, List.getElem_toArray, List.getElem_cons_succ, List.getElem_cons_zero, List.setIfInBounds_toArray, List.set_cons_zero, List.set_cons_succ]
        repeat (first | (refine wpOrd_pass rfl rfl ?_; simp only [Act.put, List.getElem_toArray, List.getElem_cons_succ, List.getElem_cons_zero, List.setIfInBounds_toArray, List.set_cons_zero, List.set_cons_succ]) | (refine wpOrd_free (v := ?_) rfl rfl (fun _ hS => ?_) ?_; rotate_left; (focus (go_simp; try with_reducible rfl)); simp only [Act.put, List.getElem_toArray, List.getElem_cons_succ, List.getElem_cons_zero, List.setIfInBounds_toArray, List.set_cons_zero, List.set_cons_succ]))
        refine wpOrd_nil ?_
      all_goals
        go_wp2_with fail
      all_goals
        first | have Ho := hvp1 | have Ho := hvp2
        first | have Hn := hnp1.out | have Hn := hnp2.out
        refine ⟨⟨k + 1, addL x r, _, _, _, by omega, by go_num, ⟨(by repeat (first | with_reducible exact Ext.refl _ | with_reducible exact Ext.same _ _ _ _ | with_reducible assumption | with_reducible apply Ext.alloc | with_reducible apply Ext.ext | with_reducible apply Ext.drew | (with_reducible refine Ext.setCell ?_ _ _ ?_; rotate_left; (focus (first | omega | (simp only [World.size_alloc, World.size_drew, size_ext, World.size_setCell]; omega)))))), Hn.symm, Hpa.out, .inr ?_⟩⟩, by simp [intOf]; omega⟩
        exact OwnR.moved2 Ho (by repeat (first | with_reducible exact Ext.refl _ | with_reducible exact Ext.same _ _ _ _ | with_reducible assumption | with_reducible apply Ext.alloc | with_reducible apply Ext.ext | with_reducible apply Ext.drew | (with_reducible refine Ext.setCell ?_ _ _ ?_; rotate_left; (focus (first | omega | (simp only [World.size_alloc, World.size_drew, size_ext, World.size_setCell]; omega)))))) (by simp [World.size_alloc]) (Nat.le_refl _) (by simp [World.size_alloc]; try omega)
    · have hkn : ng = k := by omega
      clear hlt
      subst hkn
      go_wp2_with fail
      go_loopw [29] (fun i wr => ∃ (k : Nat) (x : List Rec) (Ax : Option Addr) (nx cx : Nat), k ≤ ng ∧ i = .int .i64 k ∧ JdW P wr gl x Ax nx cx ∧ Hid (∀ i (hi : i < gl.length), i < k → gl[i] ∈ x)) (fun i _ => ng - (intOf i).toNat)
      case atStart => exact ⟨0, x, _, _, _, Nat.zero_le _, rfl, ⟨(by repeat (first | with_reducible exact Ext.refl _ | with_reducible exact Ext.same _ _ _ _ | with_reducible assumption | with_reducible apply Ext.alloc | with_reducible apply Ext.ext | with_reducible apply Ext.drew | (with_reducible refine Ext.setCell ?_ _ _ ?_; rotate_left; (focus (first | omega | (simp only [World.size_alloc, World.size_drew, size_ext, World.size_setCell]; omega)))))), Hlx.out, Hpx.out, Hox.out⟩, hid (fun i hi h => absurd h (Nat.not_lt_zero _))⟩
      case round =>
        obtain ⟨k, x, Ax, nx, cx, hk, rfl, ⟨⟨E9, d9, rfl⟩, hlx, hpx, hox⟩, hmem⟩ := hrel
        have hrx := hox.elim (fun h => (h.alloc (.cells #[.slice Ax nx cx] 38)).ext E9 d9) OwnR.of_slice
        have hsvd := fun d' => Recs.of_ext hrx (Ext.same _ _ _ d')
        have hnx : nx ≤ 50 := by have := hpx.len HS.out; have := Hglen.out; omega
        have htx := hpx.txt Hck.out
        have Hpx := hid hpx
        have Hlx := hid hlx
        have Hox := hid hox
        clear hox hrx hpx hlx
        by_cases hlt : k < ng
        · skip
          obtain ⟨gg, oo, rfl, hgg⟩ := gP.addr (by have := Hgn.out; omega)
          obtain ⟨h0, h1, h2, h3, h4, h5, h6, h7, h8, h9, h10⟩ := gP.row (i := k) (by have := Hgn.out; omega)
          obtain ⟨r, hrj⟩ : ∃ r, gl[k]'(by have := Hgn.out; omega) = r := ⟨_, rfl⟩
          rw [hrj] at h0 h1 h2 h3 h4 h5 h6 h7 h8 h9 h10
          have hrm : r ∈ gl := by rw [← hrj]; exact List.getElem_mem _
          obtain ⟨hae, hpa, hma⟩ := Hpx.out.add Hck.out (by have := Hglen.out; omega) hrm
          have hrt : r.text.size ≤ 9223372036854775807 := Htx.out r hrm
          have Hpa := hid hpa
          have Hma := hid hma
          have Hrj := hid hrj
          clear hpa hma hrj hrm
          go_wp2_with fail
          refine wp_region_ord_same (.f 0 (.f 1 (.f 2 (.f 3 (.f 4 (.f 5 (.k 6 (.f 7 (.f 8 (.f 9 (.a 10 (.a 11 (.f 12 .d)))))) 10 (.a 6 (.f 7 (.f 8 (.f 9 (.a 11 (.f 12 .d))))))))))))) (by kernel_rfl) (by kernel_rfl) ?_
          repeat (first | (refine wpOrd_pass rfl rfl ?_; simp only [Act.put, List.getElem_toArray, List.getElem_cons_succ, List.getElem_cons_zero, List.setIfInBounds_toArray, List.set_cons_zero, List.set_cons_succ]) | (refine wpOrd_free (v := ?_) rfl rfl (fun _ hS => ?_) ?_; rotate_left; (focus (go_simp; try with_reducible rfl)); simp only [Act.put, List.getElem_toArray, List.getElem_cons_succ, List.getElem_cons_zero, List.setIfInBounds_toArray, List.set_cons_zero, List.set_cons_succ]))
          refine wpOrd_fork ?_ ?_
          focus
            refine wpOrd_call rfl rfl rfl Try.call21 (fun R hR => ?_)
            go_simp
            refine (Add_any _ _ _ x r Hlx.out (by omega) htx hrt _ (by with_reducible repeat (first | assumption | exact hsvd _ | apply Recs.ext | apply Recs.alloc | apply Recs.drew | (refine Recs.of_ext ?_ (by assumption))))).mono ?_
            rintro e w1 ⟨Ap1, np1, cp1, rfl, hnp1, hvp1, E1, d1, rfl⟩
            refine hR _ _ ⟨_, rfl, ?_, ?_⟩
            · (first | exact fun b o hb => Ext.cellOf (by repeat (first | with_reducible exact Ext.refl _ | with_reducible exact Ext.same _ _ _ _ | with_reducible assumption | with_reducible apply Ext.alloc | with_reducible apply Ext.ext | with_reducible apply Ext.drew | (with_reducible refine Ext.setCell ?_ _ _ ?_; rotate_left; (focus (first | omega | (simp only [World.size_alloc, World.size_drew, size_ext, World.size_setCell]; omega)))))) hb | (intro b o hb; (try simp only [size_ext, World.size_alloc, World.size_drew, World.size_setCell] at hb); go_simp; try rfl))
            clear hR R
            simp only [Act.put, List.getElem_toArray, List.getElem_cons_succ, List.getElem_cons_zero, List.setIfInBounds_toArray, List.set_cons_zero, List.set_cons_succ]
            repeat (first | (refine wpOrd_pass rfl rfl ?_; simp only [Act.put, List.getElem_toArray, List.getElem_cons_succ, List.getElem_cons_zero, List.setIfInBounds_toArray, List.set_cons_zero, List.set_cons_succ]) | (refine wpOrd_free (v := ?_) rfl rfl (fun _ hS => ?_) ?_; rotate_left; (focus (go_simp; try with_reducible rfl)); simp only [Act.put, List.getElem_toArray, List.getElem_cons_succ, List.getElem_cons_zero, List.setIfInBounds_toArray, List.set_cons_zero, List.set_cons_succ]))
            refine wpOrd_act rfl rfl (fun K hK => ?_)
            go_simp
            refine hK _ _ ⟨?_, ?_⟩
            · (first | exact fun b o hb => Ext.cellOf (by repeat (first | with_reducible exact Ext.refl _ | with_reducible exact Ext.same _ _ _ _ | with_reducible assumption | with_reducible apply Ext.alloc | with_reducible apply Ext.ext | with_reducible apply Ext.drew | (with_reducible refine Ext.setCell ?_ _ _ ?_; rotate_left; (focus (first | omega | (simp only [World.size_alloc, World.size_drew, size_ext, World.size_setCell]; omega)))))) hb | (intro b o hb; (try simp only [size_ext, World.size_alloc, World.size_drew, World.size_setCell] at hb); go_simp; try rfl))
            clear hK K
            try simp only [Act.put, List.getElem_toArray, List.getElem_cons_succ, List.getElem_cons_zero, List.setIfInBounds_toArray, List.set_cons_zero, List.set_cons_succ]
            refine wpOrd_act rfl rfl (fun K hK => ?_)
            go_simp
            refine hK _ _ ⟨?_, ?_⟩
            · (first | exact fun b o hb => Ext.cellOf (by repeat (first | with_reducible exact Ext.refl _ | with_reducible exact Ext.same _ _ _ _ | with_reducible assumption | with_reducible apply Ext.alloc | with_reducible apply Ext.ext | with_reducible apply Ext.drew | (with_reducible refine Ext.setCell ?_ _ _ ?_; rotate_left; (focus (first | omega | (simp only [World.size_alloc, World.size_drew, size_ext, World.size_setCell]; omega)))))) hb | (intro b o hb; (try simp only [size_ext, World.size_alloc, World.size_drew, World.size_setCell] at hb); go_simp; try rfl))
            clear hK K
            try simp only [Act.put, List.getElem_toArray, List.getElem_cons_succ, List.getElem_cons_zero, List.setIfInBounds_toArray, List.set_cons_zero, List.set_cons_succ]
            repeat (first | (refine wpOrd_pass rfl rfl ?_; simp only [Act.put, List.getElem_toArray, List.getElem_cons_succ, List.getElem_cons_zero, List.setIfInBounds_toArray, List.set_cons_zero, List.set_cons_succ]) | (refine wpOrd_free (v := ?_) rfl rfl (fun _ hS => ?_) ?_; rotate_left; (focus (go_simp; try with_reducible rfl)); simp only [Act.put, List.getElem_toArray, List.getElem_cons_succ, List.getElem_cons_zero, List.setIfInBounds_toArray, List.set_cons_zero, List.set_cons_succ]))
            refine wpOrd_nil ?_
          rotate_right
          focus
            refine wpOrd_act rfl rfl (fun K hK => ?_)
            go_simp
            refine hK _ _ ⟨?_, ?_⟩
            · (first | exact fun b o hb => Ext.cellOf (by repeat (first | with_reducible exact Ext.refl _ | with_reducible exact Ext.same _ _ _ _ | with_reducible assumption | with_reducible apply Ext.alloc | with_reducible apply Ext.ext | with_reducible apply Ext.drew | (with_reducible refine Ext.setCell ?_ _ _ ?_; rotate_left; (focus (first | omega | (simp only [World.size_alloc, World.size_drew, size_ext, World.size_setCell]; omega)))))) hb | (intro b o hb; (try simp only [size_ext, World.size_alloc, World.size_drew, World.size_setCell] at hb); go_simp; try rfl))
            clear hK K
            try simp only [Act.put, List.getElem_toArray, List.getElem_cons_succ, List.getElem_cons_zero, List.setIfInBounds_toArray, List.set_cons_zero, List.set_cons_succ]
            refine wpOrd_call rfl rfl rfl Try.call21 (fun R hR => ?_)
            go_simp
            refine (Add_any _ _ _ x r Hlx.out (by omega) htx hrt _ (by with_reducible repeat (first | assumption | exact hsvd _ | apply Recs.ext | apply Recs.alloc | apply Recs.drew | (refine Recs.of_ext ?_ (by assumption))))).mono ?_
            rintro e w1 ⟨Ap2, np2, cp2, rfl, hnp2, hvp2, E2, d2, rfl⟩
            refine hR _ _ ⟨_, rfl, ?_, ?_⟩
            · (first | exact fun b o hb => Ext.cellOf (by repeat (first | with_reducible exact Ext.refl _ | with_reducible exact Ext.same _ _ _ _ | with_reducible assumption | with_reducible apply Ext.alloc | with_reducible apply Ext.ext | with_reducible apply Ext.drew | (with_reducible refine Ext.setCell ?_ _ _ ?_; rotate_left; (focus (first | omega | (simp only [World.size_alloc, World.size_drew, size_ext, World.size_setCell]; omega)))))) hb | (intro b o hb; (try simp only [size_ext, World.size_alloc, World.size_drew, World.size_setCell] at hb); go_simp; try rfl))
            clear hR R
            simp only [Act.put, List.getElem_toArray, List.getElem_cons_succ, List.getElem_cons_zero, List.setIfInBounds_toArray, List.set_cons_zero, List.set_cons_succ]
            repeat (first | (refine wpOrd_pass rfl rfl ?_; simp only [Act.put, List.getElem_toArray, List.getElem_cons_succ, List.getElem_cons_zero, List.setIfInBounds_toArray, List.set_cons_zero, List.set_cons_succ]) | (refine wpOrd_free (v := ?_) rfl rfl (fun _ hS => ?_) ?_; rotate_left; (focus (go_simp; try with_reducible rfl)); simp only [Act.put, List.getElem_toArray, List.getElem_cons_succ, List.getElem_cons_zero, List.setIfInBounds_toArray, List.set_cons_zero, List.set_cons_succ]))
            refine wpOrd_act rfl rfl (fun K hK => ?_)
            go_simp
            refine hK _ _ ⟨?_, ?_⟩
            · (first | exact fun b o hb => Ext.cellOf (by repeat (first | with_reducible exact Ext.refl _ | with_reducible exact Ext.same _ _ _ _ | with_reducible assumption | with_reducible apply Ext.alloc | with_reducible apply Ext.ext | with_reducible apply Ext.drew | (with_reducible refine Ext.setCell ?_ _ _ ?_; rotate_left; (focus (first | omega | (simp only [World.size_alloc, World.size_drew, size_ext, World.size_setCell]; omega)))))) hb | (intro b o hb; (try simp only [size_ext, World.size_alloc, World.size_drew, World.size_setCell] at hb); go_simp; try rfl))
            clear hK K
            try simp only [Act.put, List.getElem_toArray, List.getElem_cons_succ, List.getElem_cons_zero, List.setIfInBounds_toArray, List.set_cons_zero, List.set_cons_succ]
            repeat (first | (refine wpOrd_pass rfl rfl ?_; simp only [Act.put, List.getElem_toArray, List.getElem_cons_succ, List.getElem_cons_zero, List.setIfInBounds_toArray, List.set_cons_zero, List.set_cons_succ]) | (refine wpOrd_free (v := ?_) rfl rfl (fun _ hS => ?_) ?_; rotate_left; (focus (go_simp; try with_reducible rfl)); simp only [Act.put, List.getElem_toArray, List.getElem_cons_succ, List.getElem_cons_zero, List.setIfInBounds_toArray, List.set_cons_zero, List.set_cons_succ]))
            refine wpOrd_nil ?_
          all_goals
            go_wp2_with fail
          all_goals
            first | have Ho := hvp1 | have Ho := hvp2
            first | have Hn := hnp1.out | have Hn := hnp2.out
            refine ⟨⟨k + 1, addL x r, _, _, _, by omega, by go_num, ⟨(by repeat (first | with_reducible exact Ext.refl _ | with_reducible exact Ext.same _ _ _ _ | with_reducible assumption | with_reducible apply Ext.alloc | with_reducible apply Ext.ext | with_reducible apply Ext.drew | (with_reducible refine Ext.setCell ?_ _ _ ?_; rotate_left; (focus (first | omega | (simp only [World.size_alloc, World.size_drew, size_ext, World.size_setCell]; omega)))))), Hn.symm, Hpa.out, .inr ?_⟩, hid (fun i hi hik => ?_)⟩, by simp [intOf]; omega⟩
            · exact OwnR.moved2 Ho (by repeat (first | with_reducible exact Ext.refl _ | with_reducible exact Ext.same _ _ _ _ | with_reducible assumption | with_reducible apply Ext.alloc | with_reducible apply Ext.ext | with_reducible apply Ext.drew | (with_reducible refine Ext.setCell ?_ _ _ ?_; rotate_left; (focus (first | omega | (simp only [World.size_alloc, World.size_drew, size_ext, World.size_setCell]; omega)))))) (by simp [World.size_alloc]) (Nat.le_refl _) (by simp [World.size_alloc]; try omega)
            · by_cases e : i = k
              · subst e
                rw [Hrj.out]
                exact (Hma.out r).2 (.inl rfl)
              · exact (Hma.out _).2 (.inr (hmem.out i hi (by omega)))
        · have hkn2 : ng = k := by omega
          clear hlt
          subst hkn2
          have hfull : x = gl := Hpx.out.full HS.out (fun r hr => by
            obtain ⟨i, hi, rfl⟩ := List.getElem_of_mem hr
            exact hmem.out i hi (by have := Hgn.out; omega))
          subst hfull
          have hse : standingE x 10 dn = 0 := standingE_ok Hck.out (by decide) (inB_spec.2 ⟨by omega, by omega⟩)
          have Hsl := hid (standingR_few x 10 dn)
          go_wp2_with fail
          refine (Standing_any _ _ _ x _ _ Hlx.out (by omega) Htx.out _ (by with_reducible repeat (first | assumption | exact hsvd _ | apply Recs.ext | apply Recs.alloc | apply Recs.drew | (refine Recs.of_ext ?_ (by assumption))))).mono ?_
          rintro e w1 ⟨As1, ns1, cs1, rfl, hns1, hrs1, V1, v1, rfl⟩
          rw [hse]
          go_wp2_with fail
          refine (Standing_any _ _ _ x _ _ Hgn.out (by omega) Htx.out _ (by with_reducible repeat (first | assumption | apply Recs.ext | apply Recs.alloc | apply Recs.drew | (refine Recs.of_ext ?_ (by assumption))))).mono ?_
          rintro e w1 ⟨As2, ns2, cs2, rfl, hns2, hrs2, V2, v2, rfl⟩
          rw [hse]
          go_wp2_with fail
          refine (same_to _ _ _ _ _ _ x Hlx.out Hgn.out (by omega) _ (by with_reducible repeat (first | assumption | exact hsvd _ | apply Recs.ext | apply Recs.alloc | apply Recs.drew | (refine Recs.of_ext ?_ (by assumption)))) (by with_reducible repeat (first | assumption | apply Recs.ext | apply Recs.alloc | apply Recs.drew | (refine Recs.of_ext ?_ (by assumption))))).mono ?_
          rintro e w1 ⟨rfl, V3, v3, rfl⟩
          have hsn1 : ns1 ≤ 100 := by have := hns1.out; have := Hsl.out; have := Hglen.out; omega
          go_wp2_with fail
          refine (sameR_to _ _ _ _ _ _ (standingR x 10 dn) hns1.out.symm hns2.out.symm (by omega) _ (by with_reducible repeat (first | assumption | apply Recs.ext | apply Recs.alloc | apply Recs.drew | (refine Recs.of_ext ?_ (by assumption)))) (by with_reducible repeat (first | assumption | apply Recs.ext | apply Recs.alloc | apply Recs.drew | (refine Recs.of_ext ?_ (by assumption))))).mono ?_
          rintro e w1 ⟨rfl, V4, v4, rfl⟩
          go_wp2_with (go_at_call 17; refine (sane_any _).mono ?_; rintro e w1 ⟨rfl, E1, d1, rfl⟩)
          go_ret
          exact ⟨ret_val rfl, (by repeat (first | with_reducible exact Ext.refl _ | with_reducible exact Ext.same _ _ _ _ | with_reducible assumption | with_reducible apply Ext.alloc | with_reducible apply Ext.ext | with_reducible apply Ext.drew | (with_reducible refine Ext.setCell ?_ _ _ ?_; rotate_left; (focus (first | omega | (simp only [World.size_alloc, World.size_drew, size_ext, World.size_setCell]; omega))))))⟩
end Go.Proofs.Ytekjdeibnfaehaa
