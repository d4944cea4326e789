/- Texts of a proof. -/
import Derived.Test.YtekjdeibnfaehaaGreatKAbj
import Derived.Test.YtekjdeibnfaehaaGreatKAbk
import Derived.Test.YtekjdeibnfaehaaGreatKAas
/- A world of offices in a box: what the laws' loops keep. -/
set_option linter.unusedSimpArgs false
set_option linter.unusedVariables false
namespace Go.Proofs.YtekjdeibnfaehaaGreat
open Go Go.RowKit

/-- What comes in as a move. -/
def MovOk (m : MoveD) : Prop := m.x.text.size ≤ 9223372036854775807 ∧ -9223372036854775808 ≤ m.k0 ∧ m.k0 ≤ 9223372036854775807 ∧ -9223372036854775808 ≤ m.k1 ∧ m.k1 ≤ 9223372036854775807
def Moves (w : World) (A : Option Addr) (l : List MoveD) : Prop := Sl 13 w A l.length (l.flatMap mvC)
section
variable {w wr w' : World} {b k na c n' c' : Nat} {W : WD} {G : Gh} {Ls Ls' : Nat → OffL} {A A' : Option Addr} {m : MoveD} {l : List MoveD} {v v1 : Value} {ack : List MsgD}
theorem Moves.at {g o : Nat} (h : Moves w (some ⟨g, o, none⟩) l) (hk : k < l.length) : w.cell? ⟨g, o + k * 13, none⟩ = some (.int .i64 l[k].what) ∧ w.cell? ⟨g, o + k * 13 + 1, none⟩ = some (.int .i64 l[k].a) ∧ w.cell? ⟨g, o + k * 13 + 2, none⟩ = some (.int .i64 l[k].b) ∧ w.cell? ⟨g, o + k * 13 + 3, none⟩ = some (.int .i64 l[k].x.a0) ∧ w.cell? ⟨g, o + k * 13 + 4, none⟩ = some (.int .i64 l[k].x.a1) ∧ w.cell? ⟨g, o + k * 13 + 5, none⟩ = some (.int .i64 l[k].x.a2) ∧ w.cell? ⟨g, o + k * 13 + 6, none⟩ = some (.int .i64 l[k].x.a3) ∧ w.cell? ⟨g, o + k * 13 + 7, none⟩ = some (.int .i64 l[k].x.a4) ∧ w.cell? ⟨g, o + k * 13 + 8, none⟩ = some (.int .i64 l[k].x.a5) ∧ w.cell? ⟨g, o + k * 13 + 9, none⟩ = some (.int .i64 l[k].x.a6) ∧ w.cell? ⟨g, o + k * 13 + 10, none⟩ = some (.string l[k].x.text) ∧ w.cell? ⟨g, o + k * 13 + 11, none⟩ = some (.int .i64 l[k].k0) ∧ w.cell? ⟨g, o + k * 13 + 12, none⟩ = some (.int .i64 l[k].k1) := by
  obtain ⟨g', o', he, _, hc⟩ := h.2 (by omega)
  cases he
  have key : ∀ j u, (mvC l[k])[j]? = some u → w.cell? ⟨g, o + k * 13 + j, none⟩ = some u := fun j u hu => by
    rw [Nat.add_assoc]
    refine hc _ u ?_
    rw [flatMap_get mvC 13 (fun _ => rfl) l k j hk (by have := (List.getElem?_eq_some_iff.1 hu).1; exact this)]
    exact hu
  exact ⟨key 0 _ rfl, key 1 _ rfl, key 2 _ rfl, key 3 _ rfl, key 4 _ rfl, key 5 _ rfl, key 6 _ rfl, key 7 _ rfl, key 8 _ rfl, key 9 _ rfl, key 10 _ rfl, key 11 _ rfl, key 12 _ rfl⟩
theorem Moves.of_ext (h : Moves w A l) (hx : Ext w w') : Moves w' A l := Sl.of_ext h hx
theorem Moves.addr (h : Moves w A l) (hn : 0 < l.length) : ∃ g o, A = some ⟨g, o, none⟩ ∧ g < w.heap.size := by
  obtain ⟨g, o, h1, h2, _⟩ := h.2 hn
  exact ⟨g, o, h1, h2⟩
theorem moved_q (wc : List Value) (hwc : worldC W Ls A na c = wc) (hI : WI k W G) (w : World) (hY : WorldY w W Ls A na c) (hm : MovOk m) (hlong : na ≤ 100000) :
    Calls Tryz.prog 38 #[.agg wc.toArray, mvV m] w fun e w' => ∃ (Ls' : Nat → OffL) (A' : Option Addr) (n' c' : Nat) (nc : List Value), e = .returned (.agg nc.toArray) ∧ Whole nc.toArray 70 ∧ nc.length = 70 ∧ Hid (worldC (movedW W m) Ls' A' n' c' = nc ∧ MovR w w' Ls A na (movedW W m) Ls' A' n' c') ∧ Ext w w' := by
  subst hwc
  obtain ⟨h0, h1, h2, h3, h4⟩ := hm
  refine (moved_any W Ls A na c m w hI hY h0 h1 h2 h3 h4 hlong).mono ?_
  rintro e w' ⟨Ls', A', n', c', rfl, hM⟩
  exact ⟨Ls', A', n', c', _, rfl, worldC_whole _ _ _ _ _, rfl, hid ⟨rfl, hM⟩, hM.2.2⟩
theorem movedW_way (W : WD) (m : MoveD) : (movedW W m).way.length ≤ W.way.length + 12 := by
  unfold movedW restW offerW recvW grantW noteW
  have hw : ∀ d b, (wayW W d b).length ≤ W.way.length := fun d b => by
    unfold wayW
    split
    · rw [List.length_append, List.length_take, List.length_drop]; omega
    · exact Nat.le_refl _
  split
  · split <;> simp [setW, errW]
  split
  · split
    · simp only [setW, List.length_append, List.length_take]; omega
    · simp [errW]
  split
  · split
    · simp [errW]
    · split
      · have := hw 3 m.b; simp only [errW]; omega
      · split
        · have h1 := hw (m.what % 12) m.b
          have h2 : (recvL (W.off (msgW W m.b).to.toNat) (msgW W m.b)).length ≤ 1 := by unfold recvL; split <;> simp
          simp only [setW, List.length_append]; omega
        · have := hw (m.what % 12) m.b; simp only [errW]; omega
  split <;> split <;> simp [setW, errW]
/-- A world of offices in a box. -/
structure WBox (w : World) (b : Nat) (wr : World) (k : Nat) (W : WD) (G : Gh) (Ls : Nat → OffL) (A : Option Addr) (na c : Nat) : Prop where
  x : Ext w wr
  q : BoxC wr b (worldC W Ls A na c) 83
  i : WI k W G
  y : WorldY wr W Ls A na c
  f : WorldF b Ls A na
  l : na ≤ 12 * k
theorem box_whole {vs cs : List Value} {t : TypeId} (h : BoxC w b cs t) (hl : cs.length = vs.length) : BoxC (w.setCells b 0 vs) b vs t := by
  have := BoxC.cells vs 0 h (by omega)
  rwa [List.take_zero, List.nil_append, Nat.zero_add, ← hl, List.drop_length, List.append_nil] at this
theorem WBox.next (h : WBox w b wr k W G Ls A na c) (hb : w.heap.size ≤ b) (hM : MovR wr w' Ls A na (movedW W m) Ls' A' n' c') :
    ∃ G', WBox w b (w'.setCells b 0 (worldC (movedW W m) Ls' A' n' c')) (k + 1) (movedW W m) G' Ls' A' n' c' ∧ Grows G G' ∧ (movedW W m).e ≠ 72 ∧ (movedW W m).e ≠ 76 := by
  obtain ⟨G', h1, h2, h3, h4⟩ := h.i.moved m
  have hlt := h.q.lt
  have hF := hM.2.1 b hlt h.f
  refine ⟨G', ⟨Ext.cells _ _ (h.x.trans hM.2.2) hb, box_whole (h.q.of_ext hM.2.2) rfl, h1, hM.1.grown hF (gb_cells b _ 0 w'), hF, ?_⟩, h2, h3, h4⟩
  have e1 := hM.1.m.1
  have e2 := h.y.m.1
  have e3 := movedW_way W m
  have := h.l
  omega
theorem MovR.drew {W' : WD} (h : MovR wr.drew w' Ls A na W' Ls' A' n' c') : MovR wr w' Ls A na W' Ls' A' n' c' := ⟨h.1, h.2.1, (Ext.refl wr).drew.trans h.2.2⟩
theorem WBox.of_ext (h : WBox w b wr k W G Ls A na c) (hx : Ext wr w') : WBox w b w' k W G Ls A na c := ⟨h.x.trans hx, h.q.of_ext hx, h.i, h.y.of_ext hx, h.f, h.l⟩
theorem worldC_reg (W : WD) (Ls : Nat → OffL) (A : Option Addr) (n c : Nat) {f : Nat} (hf : f < 4) : (worldC W Ls A n c)[f * 17 + 5]? = some (.slice (Ls f).Am (Ls f).nm (Ls f).cm) := by
  have : f = 0 ∨ f = 1 ∨ f = 2 ∨ f = 3 := by omega
  rcases this with rfl | rfl | rfl | rfl <;> rfl
theorem MsgsY.rec {g o n c k : Nat} {l : List MsgD} {x : MsgD} (h : MsgsY w (some ⟨g, o, none⟩) n c l) (hx : l[k]? = some x) : (ldRow 46 ⟨g, o + k * 14 + 3, none⟩).run Tryz.prog w = .ok (recV x.r) w :=
  ld_rec x.r (h.at hx (j := 3) rfl) (h.at hx (j := 4) rfl) (h.at hx (j := 5) rfl) (h.at hx (j := 6) rfl) (h.at hx (j := 7) rfl) (h.at hx (j := 8) rfl) (h.at hx (j := 9) rfl) (h.at hx (j := 10) rfl) (h.at hx (j := 11) rfl) (h.at hx (j := 12) rfl) (h.at hx (j := 13) rfl)
/-- Records whose acknowledgement came back. -/
structure AckV (b : Nat) (wr : World) (v : Value) (ack : List MsgD) (G : Gh) (Ls : Nat → OffL) (A : Option Addr) (na : Nat) : Prop where
  o : OwnM (b + 1) wr v ack
  f : ∀ g, v.ownBlock = some g → WorldF g Ls A na
  k : ∀ m ∈ ack, 0 ≤ m.fr ∧ m.fr < 4 ∧ m.r ∈ firmL G m.fr
theorem AckV.next {G' : Gh} (h : AckV b wr v ack G Ls A na) {vs : List Value} {W' : WD} (hM : MovR wr w' Ls A na W' Ls' A' n' c') (hG : Grows G G') : AckV b (w'.setCells b 0 vs) v ack G' Ls' A' n' := by
  refine ⟨(h.o.of_ext hM.2.2).kept (gb_cells b vs 0 w') (.inr fun he => ?_), fun g hg => hM.2.1 g (h.o.lt g hg).2 (h.f g hg), fun m hm => ?_⟩
  · have := own_base h.o b he; omega
  · obtain ⟨h1, h2, h3⟩ := h.k m hm
    exact ⟨h1, h2, hG _ _ h3⟩
theorem AckV.of_ext (h : AckV b wr v ack G Ls A na) (hx : Ext wr w') : AckV b w' v ack G Ls A na := ⟨h.o.of_ext hx, h.f, h.k⟩
theorem gb_any {row : Option Nat} (h : w.grownBy w' row) (hr : row = none) (g : Nat) : w.grownBy w' (some g) := by
  subst hr
  exact ⟨h.os, h.tape, h.output, h.size, fun k hk _ => h.block k hk (by simp)⟩
theorem AckV.push {m : MsgD} (h : AckV b wr v ack G Ls A na) (hw : WBox w b wr k W G Ls A na c) (hb : w.heap.size ≤ b) (hm : m ∈ W.way) {o : Obj} {w1 : World} (h1 : OwnM (b + 1) w1 v1 (ack ++ [m])) (hg : (wr.alloc o).grownBy w1 v.ownBlock)
    (hat : v1.ownBlock = v.ownBlock ∨ v1.ownBlock = some (wr.alloc o).heap.size) : WBox w b w1 k W G Ls A na c ∧ AckV b w1 v1 (ack ++ [m]) G Ls A na := by
  have hlt := hw.q.lt
  have hsz := hg.size
  have hne : ∀ g, v.ownBlock = some g → b < g := fun g hv => own_base h.o g hv
  have hy1 : WorldY w1 W Ls A na c := by
    have hy := hw.y.of_ext ((Ext.refl wr).alloc o)
    cases hv : v.ownBlock with
    | none => exact hy.grown (hy.far (Nat.le_refl _)) (gb_any hg hv _)
    | some g => rw [hv] at hg; exact hy.grown (h.f g hv) hg
  have hx1 : Ext w w1 := by
    have hx := hw.x.alloc o
    have hbl : Below w.heap.size (wr.alloc o) w1 := (Below.refl w.heap.size (wr.alloc o)).grown hg (by have := hx.below.size; exact this) (fun g hv => by have := hne g hv; omega)
    obtain ⟨E, d, he⟩ := hx.below_of hbl (Nat.le_refl _)
    exact ⟨E, d, he⟩
  refine ⟨⟨hx1, ?_, hw.i, hy1, hw.f, hw.l⟩, h1, fun g hv => ?_, fun x hx => ?_⟩
  · have e1 := hg.block b (by rw [World.size_alloc]; omega) (fun he => by have := hne b he.symm; omega)
    unfold BoxC at *
    rw [e1]
    exact hw.q.alloc o
  · rcases hat with hat | hat
    · exact h.f g (by rw [← hat]; exact hv)
    · rw [hat] at hv
      cases hv
      exact (hw.y.of_ext ((Ext.refl wr).alloc o)).far (Nat.le_refl _)
  · rcases List.mem_append.1 hx with hx | hx
    · exact h.k x hx
    · obtain rfl : x = m := by simpa using hx
      have := hw.i.m x hm
      exact ⟨this.f0, this.f1, this.s⟩
end
end Go.Proofs.YtekjdeibnfaehaaGreat
/- RegisterAcknowledged: the walk. -/
set_option linter.unusedSimpArgs false
set_option linter.unusedVariables false
namespace Go.Proofs.YtekjdeibnfaehaaGreat
open Go Go.RowKit

set_option maxRecDepth 100000 in
set_option maxHeartbeats 16000000 in
theorem ack_walk (A0 : Option Addr) (n c0 : Nat) (l : List MoveD) (hn : l.length = n) (hbig : n ≤ 9223372036854775807) (hok : ∀ m ∈ l, MovOk m) (w : World) (hl : Moves w A0 l) :
    Calls Tryz.prog 7 #[.slice A0 n c0] w fun e w' => e = .returned (.bool true) ∧ Ext w w' := by
  have Hok := hid hok
  have Hl := hid hl
  clear hok hl
  obtain ⟨zc, hzc⟩ : ∃ zc, worldC zeroW (fun _ => zL) none 0 0 = zc := ⟨_, rfl⟩
  have hzw := zero_world
  rw [hzc] at hzw
  have lzc : zc.length = 70 := by rw [← hzc]; rfl
  clear hzc
  go_enter Tryz.func7, Tryz.ntmps7
  go_wp2_with fail
  refine (begun_any w).mono ?_
  rintro e w1 ⟨Ls0, rfl, hY0, hF0, ⟨E0, d0, rfl⟩⟩
  obtain ⟨wc, hwc⟩ : ∃ wc, worldC beginW Ls0 none 0 0 = wc := ⟨_, rfl⟩
  have wwc : Whole wc.toArray 70 := by rw [← hwc]; exact worldC_whole _ _ _ _ _
  have lwc : wc.length = 70 := by rw [← hwc]; rfl
  rw [hwc]
  have Hwc := hid hwc
  have HY0 := hid hY0
  have HF0 := hid hF0
  clear hwc hY0 hF0
  go_wp2_with fail
  obtain ⟨b, hb⟩ : ∃ b, w.heap.size + E0.size = b := ⟨_, rfl⟩
  simp only [hb]
  have hsb : (w.ext E0 d0).heap.size = b := by rw [size_ext]; exact hb
  obtain ⟨P, hP⟩ : ∃ P, ((w.ext E0 d0).alloc (.cells zc.toArray 83)).setCells b 0 wc = P := ⟨_, rfl⟩
  simp only [hP]
  have hwb : w.heap.size ≤ b := by omega
  have hF1 : WorldF b Ls0 none 0 := HY0.out.far (by omega)
  have HW : WBox w b P 0 beginW noGh Ls0 none 0 0 := by
    rw [← hP]
    refine ⟨Ext.cells _ _ (Ext.alloc ((Ext.refl w).ext E0 d0) _) hwb, ?_, WI.begin, ?_, hF1, Nat.zero_le _⟩
    · rw [Hwc.out]; exact box_whole (BoxC.new_at zc _ hsb.symm) (by rw [lzc, lwc])
    · exact (HY0.out.of_ext ((Ext.refl _).alloc _)).grown hF1 (gb_cells b wc 0 _)
  have HA : AckV b P (.slice none 0 0) [] noGh Ls0 none 0 := ⟨OwnM.none _ _, fun g hg => by simp [Value.ownBlock] at hg, fun m hm => absurd hm List.not_mem_nil⟩
  clear hP hsb hF1 HY0 HF0 hb hzw
  go_loopw [4, 5] (fun v i wr => ∃ (k : Nat) (W : WD) (G : Gh) (Ls : Nat → OffL) (A : Option Addr) (na c : Nat) (ack : List MsgD), k ≤ n ∧ k ≤ 36 ∧ i = .int .i64 k ∧ Hid (WBox w b wr k W G Ls A na c) ∧ Hid (AckV b wr v ack G Ls A na) ∧ ack.length ≤ 500 * k) (fun _ i _ => 36 - (intOf i).toNat)
  case atStart => exact ⟨0, _, _, _, _, _, _, _, Nat.zero_le _, Nat.zero_le _, rfl, hid HW, hid HA, Nat.zero_le _⟩
  case round =>
    obtain ⟨k, W, G, Ls, A, na, c, ack, hkn, hk36, rfl, hW, hA, hal⟩ := hrel
    clear HW HA
    by_cases hlt : k < n ∧ k < 36
    · obtain ⟨hk1, hk2⟩ := hlt
      have hkl : k < l.length := by omega
      obtain ⟨w68, w69, lq0, rq0⟩ := hW.out.q.world
      have t0 := hW.out.q.lt
      have f0 := hW.out.q.frozen
      have fb := fars t0
      obtain ⟨wc, hwc⟩ : ∃ wc, worldC W Ls A na c = wc := ⟨_, rfl⟩
      rw [hwc] at rq0
      have Hwc := hid hwc
      have wwc : Whole wc.toArray 70 := by rw [← hwc]; exact worldC_whole _ _ _ _ _
      obtain ⟨g, o, rfl, hg⟩ := Hl.out.addr (by omega)
      have hcl := (Hl.out.of_ext hW.out.x).at hkl
      obtain ⟨m, hm⟩ : ∃ m, l[k] = m := ⟨_, rfl⟩
      rw [hm] at hcl
      have Hm : Hid (MovOk m) := hid (Hok.out m (by rw [← hm]; exact List.getElem_mem hkl))
      have hna : na ≤ 432 := by have := hW.out.l; omega
      have hg2 : g < wr.heap.size := Nat.lt_of_lt_of_le hg hW.out.x.below.size
      have fg := fars hg2
      have hki : (k : Int) < n := by omega
      have hk36i : (k : Int) < 36 := by omega
      clear hwc hm
      go_wp2_with fail
      refine wp_region_ordZ 6 (.f 0 (.f 1 (.f 2 (.f 3 (.f 4 (.a 5 (.z 6))))))) (Kept (wr) (wr.heap.size) (wr.heap.size)) (by kernel_rfl) (by kernel_rfl) (Kept.refl _ _ _).drew ?_
      repeat ((first | refine wpOrd_pass rfl rfl ?_ | (refine wpOrd_free (v := ?_) rfl rfl (fun _ hS => ?_) ?_; rotate_left; focus (have hS1 := Kept.rows hS; have hS2 := Kept.len hS; have hS3 := Kept.cell hS; go_simp; try with_reducible rfl))); simp only [Act.put, zp])
      refine wpOrd_call rfl rfl rfl Tryz.call38 (fun R hR => ?_)
      go_simp
      refine (moved_q wc Hwc.out hW.out.i _ (hW.out.y.of_ext exI) Hm.out (by omega)).mono ?_
      rintro e w1 ⟨Ls1, A1, n1, c1, nc, rfl, wn, ln, hN, E1, d1, rfl⟩
      refine hR _ _ ⟨_, rfl, ?_, ?_⟩
      · exact (by repeat (first | with_reducible exact Kept.refl _ _ _ | with_reducible assumption | with_reducible apply Kept.drew | with_reducible apply Kept.alloc | with_reducible apply Kept.ext | (with_reducible refine Kept.cells ?_ ?_; rotate_left; focus (first | exact .inl rfl | exact .inr (.inl rfl) | (refine .inr (.inr ?_); simp only [zs]; omega) | omega)) | (with_reducible refine Kept.set ?_ ?_; rotate_left; focus (first | exact .inl rfl | exact .inr (.inl rfl) | (refine .inr (.inr ?_); simp only [zs]; omega) | omega))))
      clear hR R
      simp only [Act.put, zp]
      refine wpOrd_last rfl rfl (fun K hK => ?_)
      go_simp
      refine hK _ _ ?_
      clear hK K
      try simp only [Act.put, zp]
      obtain ⟨G1, hW1, hG1, he1, he2⟩ := hW.out.next hwb hN.out.2.drew
      have hA1 := hA.out.next (vs := nc) hN.out.2.drew hG1
      rw [hN.out.1] at hW1
      obtain ⟨W1, hW1e⟩ : ∃ W1, movedW W m = W1 := ⟨_, rfl⟩
      rw [hW1e] at hW1 he1 he2
      obtain ⟨R, hR⟩ : ∃ R, (wr.drew.ext E1 d1).setCells b 0 nc = R := ⟨_, rfl⟩
      rw [hR] at hW1 hA1
      simp only [hR]
      have HW1 := hid hW1
      have HA1 := hid hA1
      clear hW hA hR hW1e hG1 hN wn ln hcl fg hg2 w68 w69 lq0 rq0 t0 f0 fb wwc Hm hW1 hA1 Hwc
      obtain ⟨w68, w69, lq0, rq0⟩ := HW1.out.q.world
      clear rq0
      have he1' : (W1.e == 72) = false := by simpa using he1
      have he2' : (W1.e == 76) = false := by simpa using he2
      have hw1 : IntKind.i64.wrap ((na : Int) - 1) = (na : Int) - 1 := IntWalk.i64_in _ (by omega)
      have hmx : max (0 : Int) ((na : Int) - 1) = ((na - 1 : Nat) : Int) := by omega
      go_wp2_with fail
      have hn1 : n1 ≤ 432 := by have := HW1.out.l; omega
      clear hw1 hmx he1' he2' he1 he2 w68 w69 lq0
      obtain ⟨i0, hi, hz0, hz1, hz2⟩ := info_parts info_msg
      go_loopw [4, 7] (fun v j w2 => ∃ (jj : Nat) (ak : List MsgD), jj ≤ 450 ∧ j = .int .i64 jj ∧ Hid (WBox w b w2 (k + 1) W1 G1 Ls1 A1 n1 c1) ∧ Hid (AckV b w2 v ak G1 Ls1 A1 n1) ∧ ak.length ≤ 500 * k + jj) (fun _ j _ => n1 - (intOf j).toNat)
      case atStart => exact ⟨na - 1, ack, by omega, rfl, HW1, HA1, by omega⟩
      case round =>
        clear HW1 HA1
        obtain ⟨jj, ak, hj450, rfl, hW2, hA2, hak⟩ := hrel
        obtain ⟨w68, w69, lq0, rq0⟩ := hW2.out.q.world
        clear rq0
        by_cases hjn : jj < n1
        · have hji : (jj : Int) < n1 := by omega
          obtain ⟨g1, o1, rfl, hg1⟩ := hW2.out.y.m.addr (by omega)
          obtain ⟨x, hx⟩ : ∃ x, W1.way[jj]? = some x := ⟨_, List.getElem?_eq_getElem (by have := hW2.out.y.m.1; omega)⟩
          have hca := hW2.out.y.m.at hx (j := 2) rfl
          have hld := hW2.out.y.m.load hx
          have hmem := List.mem_of_getElem? hx
          have Hmem := hid hmem
          clear hmem hx
          obtain ⟨Av, nv, cv, rfl⟩ := hA2.out.o.slice
          obtain ⟨fr, to, xa, r⟩ := x
          cases xa with
          | false =>
            go_wp2_with fail
            exact ⟨⟨jj + 1, ak, by omega, by go_num, hW2, hA2, by omega⟩, by simp [intOf]; omega⟩
          | true =>
            have howa := hid (hA2.out.o.alloc (.cells (msgC ⟨fr, to, true, r⟩).toArray 70))
            have hbs : b + 1 ≤ wr.heap.size := by have := hW2.out.q.lt; omega
            go_wp2_with (at_builtin; go_loud (refine wpList_append_own_at (P := Tryz.prog) _ rfl _ _ 81 rfl (b + 1) 70 i0 _ 14 120 Tryz.underlying81 hi hz0 hz1 hz2 rfl (by decide) (.slice Av nv cv) ak.length _ rfl howa.out ⟨wr.heap.size, 0, none⟩ 1 1 (msgC ⟨fr, to, true, r⟩) rfl rfl (fun j u hj => by rw [addr_add, Nat.zero_add]; exact (BoxC.new_at (msgC ⟨fr, to, true, r⟩) 70 rfl).cell hj) (fun u hu => msgC_one [⟨fr, to, true, r⟩] u (by simpa using hu)) (by unfold maxLen; omega) (by omega) (by rw [World.size_alloc]; omega) (fun v1 w1 hown1 hgb1 _ hat1 => ?_)); have Hown1 := hid hown1; have Hgb1 := hid hgb1; have Hat1 := hid hat1; clear hown1 hgb1 hat1)
            have ho1 : OwnM (b + 1) w1 v1 (ak ++ [⟨fr, to, true, r⟩]) := by
              have h := Hown1.out
              unfold OwnM
              rw [List.length_append, List.flatMap_append]
              simpa using h
            obtain ⟨hW3, hA3⟩ := hA2.out.push hW2.out hwb Hmem.out ho1 Hgb1.out Hat1.out
            exact ⟨⟨jj + 1, ak ++ [⟨fr, to, true, r⟩], by omega, by go_num, hid hW3, hid hA3, by rw [List.length_append]; simp only [List.length_cons, List.length_nil]; omega⟩, by simp [intOf]; omega⟩
        · have hji : ¬ ((jj : Int) < n1) := by omega
          obtain ⟨Av, nv, cv, rfl⟩ := hA2.out.o.slice
          have hnv := hA2.out.o.msgs.1
          have hak2 : nv ≤ 20000 := by omega
          go_wp2_with fail
          clear w68 w69 lq0
          go_loopw [8] (fun j w3 => ∃ q : Nat, q ≤ nv ∧ j = .int .i64 q ∧ Ext wr w3) (fun j _ => nv - (intOf j).toNat)
          case atStart => exact ⟨0, Nat.zero_le _, rfl, Ext.refl _⟩
          case round =>
            obtain ⟨q, hq, rfl, ⟨E3, d3, rfl⟩⟩ := hrel
            by_cases hqn : q < nv
            · have hqi : (q : Int) < nv := by omega
              have hrd := hA2.out.o.msgs.read
              obtain ⟨ga, oa, rfl, hga⟩ := hrd.addr (by omega)
              obtain ⟨x, hx⟩ : ∃ x, ak[q]? = some x := ⟨_, List.getElem?_eq_getElem (by omega)⟩
              obtain ⟨k0, k1, k2⟩ := hA2.out.k x (List.mem_of_getElem? hx)
              obtain ⟨f, hf⟩ : ∃ f : Nat, x.fr = f := ⟨x.fr.toNat, by omega⟩
              have hf4 : f < 4 := by omega
              have hfi : (f : Int) < 4 := by omega
              have hft : f * 17 ≤ 51 := by omega
              have hc0 : wr.cell? ⟨ga, oa + q * 14, none⟩ = some (.int .i64 f) := hrd.at hx (j := 0) (u := .int .i64 f) (by rw [← hf]; rfl)
              have hrec : ∀ E d, (ldRow 46 ⟨ga, oa + q * 14 + 3, none⟩).run Tryz.prog (wr.ext E d) = .ok (recV x.r) (wr.ext E d) := fun E d => (hrd.of_ext ⟨E, d, rfl⟩).rec hx
              have hreg := hW2.out.q.cell (worldC_reg W1 Ls1 A1 n1 c1 hf4)
              have hoy := hW2.out.y.o f hf4
              have hol := hoy.l
              have hrr := hid hoy.r
              have h80 : (Ls1 f).nm ≤ 1000000 := by
                have h := (checkB_iff.1 (hW2.out.i.o f hf4).check).1
                omega
              have hhas : hasB (W1.off f).m.recs x.r = true := hasB_iff.2 (by
                have h := hW2.out.i.firm k0 k1 k2
                rw [hf] at h
                exact h)
              have tb := hW2.out.q.lt
              clear hoy hx k0 k1 k2 hf
              go_wp2_with fail
              refine wp_region_ord (.f 0 (.f 1 (.f 2 (.f 3 (.f 4 (.f 5 (.f 6 (.f 7 (.f 8 (.f 9 (.f 10 (.f 11 (.f 12 (.f 13 (.f 14 (.a 15 (.f 16 .d))))))))))))))))) (Ext (wr)) (by kernel_rfl) (by kernel_rfl) exI ?_
              repeat ((first | refine wpOrd_pass rfl rfl ?_ | (refine wpOrd_free (v := ?_) rfl rfl (fun _ hS => ?_) ?_; rotate_left; focus (obtain ⟨E9, d9, rfl⟩ := hS; go_simp; try with_reducible rfl))); simp only [Act.put, zp])
              refine wpOrd_call rfl rfl rfl Tryz.call51 (fun R hR => ?_)
              go_simp
              refine (has_any _ _ _ (W1.off f).m.recs x.r hol h80 _ (hrr.out.of_ext exI)).mono ?_
              rintro e w1 ⟨rfl, E201, d201, rfl⟩
              refine hR _ _ ⟨_, rfl, ?_, ?_⟩
              · exact exI
              clear hR R
              simp only [Act.put, zp]
              repeat ((first | refine wpOrd_pass rfl rfl ?_ | (refine wpOrd_free (v := ?_) rfl rfl (fun _ hS => ?_) ?_; rotate_left; focus (obtain ⟨E9, d9, rfl⟩ := hS; go_simp; try with_reducible rfl))); simp only [Act.put, zp])
              refine wpOrd_nil ?_
              go_wp2_with fail
              exact ⟨⟨q + 1, by omega, by go_num, exI⟩, by simp [intOf]; omega⟩
            · obtain rfl : q = nv := by omega
              go_wp2_with fail
              exact ⟨⟨k + 1, W1, G1, Ls1, A1, n1, c1, ak, by omega, by omega, by go_num, hid (hW2.out.of_ext ⟨E3, d3, rfl⟩), hid (hA2.out.of_ext ⟨E3, d3, rfl⟩), by omega⟩, by simp [intOf]; omega⟩
    · have xwr := hW.out.x
      clear hW hA
      by_cases hc : k < n
      · have h1 : (k : Int) < n := by omega
        have h2 : ¬ ((k : Int) < 36) := by omega
        go_wp2_with (go_at_call 18; refine (sane_any _).mono ?_; rintro e w1 ⟨rfl, E1, d1, rfl⟩)
        go_ret
        exact ⟨ret_val rfl, xwr.ext _ _⟩
      · have h1 : ¬ ((k : Int) < n) := by omega
        go_wp2_with (go_at_call 18; refine (sane_any _).mono ?_; rintro e w1 ⟨rfl, E1, d1, rfl⟩)
        go_ret
        exact ⟨ret_val rfl, xwr.ext _ _⟩
end Go.Proofs.YtekjdeibnfaehaaGreat
