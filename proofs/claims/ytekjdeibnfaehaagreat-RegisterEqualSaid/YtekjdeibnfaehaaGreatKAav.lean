/- Texts of a proof. -/
import Derived.Test.YtekjdeibnfaehaaGreatKAat
import Derived.Test.YtekjdeibnfaehaaGreatKAau
import Derived.Test.YtekjdeibnfaehaaGreatKAag
import Derived.Test.YtekjdeibnfaehaaGreatKAaj
/- Offices in plain terms: what they do. No program. -/
set_option linter.unusedSimpArgs false
set_option linter.unusedVariables false
namespace Go.Proofs.YtekjdeibnfaehaaGreat
open Go Go.RowKit

/-- A message. -/
structure MsgD where
  fr : Int
  to : Int
  ack : Bool
  r : Rec
def noOff : OffD := ⟨0, noDrive, noMem, fun _ => []⟩
def newOE (me : Int) : Int := if inB me 0 8 = true then 0 else 1
def newO (me : Int) : OffD := if inB me 0 8 = true then ⟨me, newDrive, newMem, fun _ => []⟩ else noOff
def apdO (O : OffD) (r : Rec) : OffD := ⟨O.me, appD O.d O.m r, appM O.d O.m r, O.kn⟩
def firmO (O : OffD) : OffD := ⟨O.me, firmD O.d, O.m, O.kn⟩
def atR (o s : Int) (r : Rec) : Rec := ⟨o, s, r.kind, r.ship, r.day, r.known, r.wo, r.ws, r.to, r.til, r.text⟩
def ownR (O : OffD) (r : Rec) : Rec := atR O.me (nextI O.m.recs O.me) r
def noteE (O : OffD) (r : Rec) : Int := if offOk O = true then if r.kind = 1 then 75 else appE O.d O.m (ownR O r) else 76
def noteO (O : OffD) (r : Rec) : OffD := if noteE O r = 0 then apdO O (ownR O r) else noOff
def noteR (O : OffD) (r : Rec) : Rec := if noteE O r = 0 then ownR O r else zeroR
def leaseR (O : OffD) (ship to day til : Int) : Rec := ⟨O.me, nextI O.m.recs O.me, 1, ship, day, day, 0, 0, to, til, noText⟩
def leaseOn (r x : Rec) : Bool := decide (x.kind = 1) && (decide (x.ship = r.ship) && (decide (x.day ≤ r.til) && decide (r.day ≤ x.til)))
def leasable (O : OffD) (r : Rec) : Bool := decide (homeI r.ship = O.me) && (recOk r && !O.m.recs.any (leaseOn r))
def grantE (O : OffD) (ship to day til : Int) : Int :=
  if offOk O = true then if inB ship 1 999 = true ∧ inB to 0 8 = true then if inB day 0 100000 = true ∧ inB til 0 100000 = true then
    if leasable O (leaseR O ship to day til) = true then appE O.d O.m (leaseR O ship to day til) else 75 else 6 else 1 else 76
def grantO (O : OffD) (ship to day til : Int) : OffD := if grantE O ship to day til = 0 then firmO (apdO O (leaseR O ship to day til)) else noOff
def grantR (O : OffD) (ship to day til : Int) : Rec := if grantE O ship to day til = 0 then leaseR O ship to day til else zeroR
def knowsB (l : List Plc) (o s : Int) : Bool := l.any fun p => decide (p.o = o) && decide (p.s = s)
def posP (l : List Plc) (o s : Int) : Nat := l.countP fun p => ltP p.o p.s o s
def learnL (l : List Plc) (o s : Int) : List Plc := if knowsB l o s = true then l else l.take (posP l o s) ++ ⟨o, s⟩ :: l.drop (posP l o s)
def offerE (O : OffD) (to : Int) : Int := if offOk O = true then if inB to 0 8 = true ∧ to ≠ O.me then 0 else 1 else 76
def offerO (O : OffD) (to : Int) : OffD := if offerE O to = 0 then firmO O else noOff
def offerL (O : OffD) (to : Int) : List MsgD := if offerE O to = 0 then (O.m.recs.filter fun r => !knowsB (O.kn to.toNat) r.ao r.sq).map fun r => ⟨O.me, to, false, r⟩ else []
def learnO (O : OffD) (m : MsgD) : OffD := ⟨O.me, O.d, O.m, upd O.kn m.fr.toNat (learnL (O.kn m.fr.toNat) m.r.ao m.r.sq)⟩
def recvE (O : OffD) (m : MsgD) : Int :=
  if offOk O = true then if m.to = O.me ∧ inB m.fr 0 8 = true ∧ m.fr ≠ O.me then if m.ack = true then if hasR O.m.recs m.r.ao m.r.sq = true then 0 else 3 else appE O.d O.m m.r else 1 else 76
def recvO (O : OffD) (m : MsgD) : OffD := if recvE O m = 0 then if m.ack = true then learnO O m else learnO (firmO (apdO O m.r)) m else noOff
def recvL (O : OffD) (m : MsgD) : List MsgD := if recvE O m = 0 ∧ m.ack = false then [⟨O.me, m.fr, true, m.r⟩] else []
def restE (O : OffD) (n m : Int) : Int := if offOk O = true then openE (crashD O.d n m) else 76
def restO (O : OffD) (n m : Int) : OffD := if restE O n m = 0 then ⟨O.me, openD (crashD O.d n m), openM (crashD O.d n m), fun _ => []⟩ else noOff

/-! Places that are known. -/
def ahP (a b : Plc) : Bool := ltP a.o a.s b.o b.s
def SortedP (l : List Plc) : Prop := l.Pairwise fun a b => ahP a b = true
theorem sortedP_of : ∀ {l : List Plc}, (∀ i, i + 1 < l.length → ahP (pAt l i) (pAt l (i + 1)) = true) → SortedP l
  | [], _ => List.Pairwise.nil
  | [a], _ => List.pairwise_singleton _ _
  | a :: b :: l, h => by
    have ih : SortedP (b :: l) := sortedP_of fun i hi => by
      have := h (i + 1) (by simpa using hi)
      simpa [pAt] using this
    refine List.pairwise_cons.2 ⟨fun x hx => ?_, ih⟩
    have h0 : ahP a b = true := by have := h 0 (by simp); simpa [pAt] using this
    rcases List.mem_cons.1 hx with rfl | hx
    · exact h0
    · exact ltP_trans h0 (List.rel_of_pairwise_cons ih hx)
theorem pAt_of {l : List Plc} {i : Nat} (h : i < l.length) : pAt l i = l[i] := by simp [pAt, h]
theorem knB_iff {l : List Plc} : knB l = true ↔ (∀ x ∈ l, isPlaceB x.o x.s = true) ∧ SortedP l := by
  simp only [knB, List.all_eq_true, List.mem_range, plOk, Bool.and_eq_true, Bool.or_eq_true, decide_eq_true_eq]
  constructor
  · intro h
    refine ⟨fun x hx => ?_, sortedP_of fun i hi => ?_⟩
    · obtain ⟨i, hi, rfl⟩ := List.getElem_of_mem hx
      have := (h i hi).1
      rwa [pAt_of hi] at this
    · have := (h (i + 1) hi).2
      rcases this with h0 | h0
      · omega
      · exact cmpP_neg.1 (by simpa using h0)
  · rintro ⟨h1, h2⟩ i hi
    refine ⟨by rw [pAt_of hi]; exact h1 _ (List.getElem_mem hi), ?_⟩
    rcases Nat.eq_zero_or_pos i with h0 | h0
    · exact .inl h0
    · refine .inr (cmpP_neg.2 ?_)
      rw [pAt_of hi, pAt_of (show i - 1 < l.length by omega)]
      exact List.pairwise_iff_getElem.1 h2 (i - 1) i (by omega) hi (by omega)
theorem knB_nil : knB [] = true := rfl
theorem knowsB_iff {l : List Plc} {o s : Int} : knowsB l o s = true ↔ ⟨o, s⟩ ∈ l := by
  simp only [knowsB, List.any_eq_true, Bool.and_eq_true, decide_eq_true_eq]
  constructor
  · rintro ⟨⟨a, b⟩, h, rfl, rfl⟩
    exact h
  · intro h
    exact ⟨_, h, rfl, rfl⟩
theorem learnL_mem {l : List Plc} {o s : Int} {x : Plc} : x ∈ learnL l o s ↔ x ∈ l ∨ x = ⟨o, s⟩ := by
  unfold learnL
  split
  · rename_i h
    have := knowsB_iff.1 h
    constructor
    · exact .inl
    · rintro (h | rfl)
      · exact h
      · exact this
  · have : x ∈ l ↔ x ∈ l.take (posP l o s) ∨ x ∈ l.drop (posP l o s) := by rw [← List.mem_append, List.take_append_drop]
    rw [List.mem_append, List.mem_cons, this]
    constructor
    · rintro (h | h | h)
      · exact .inl (.inl h)
      · exact .inr h
      · exact .inl (.inr h)
    · rintro ((h | h) | h)
      · exact .inl h
      · exact .inr (.inr h)
      · exact .inr (.inl h)
theorem posP_cons (a : Plc) (l : List Plc) (o s : Int) : posP (a :: l) o s = posP l o s + if ltP a.o a.s o s = true then 1 else 0 := by
  unfold posP
  rw [List.countP_cons]
theorem posP_zero {l : List Plc} {o s : Int} (h : ∀ x ∈ l, ltP o s x.o x.s = true) : posP l o s = 0 :=
  List.countP_eq_zero.2 fun x hx => by rw [ltP_asymm (h x hx)]; exact Bool.false_ne_true
theorem ins_sortedP : ∀ {l : List Plc} {o s : Int}, SortedP l → knowsB l o s = false → SortedP (l.take (posP l o s) ++ ⟨o, s⟩ :: l.drop (posP l o s))
  | [], _, _, _, _ => List.pairwise_singleton _ _
  | a :: l, o, s, h, hk => by
    obtain ⟨h1, h2⟩ := List.pairwise_cons.1 h
    have hk' : knowsB l o s = false := by
      simp only [knowsB, List.any_cons, Bool.or_eq_false_iff] at hk
      exact hk.2
    by_cases hl : ltP a.o a.s o s = true
    · rw [posP_cons, if_pos hl, List.take_succ_cons, List.drop_succ_cons, List.cons_append]
      refine List.pairwise_cons.2 ⟨fun x hx => ?_, ins_sortedP h2 hk'⟩
      rw [List.mem_append, List.mem_cons] at hx
      rcases hx with hx | rfl | hx
      · exact h1 x (List.mem_of_mem_take hx)
      · exact hl
      · exact h1 x (List.mem_of_mem_drop hx)
    · have hlt : ltP o s a.o a.s = true := by
        cases hq : ltP o s a.o a.s with
        | true => rfl
        | false =>
          obtain ⟨e1, e2⟩ := ltP_total (by simpa using hl) hq
          have : knowsB (a :: l) o s = true := knowsB_iff.2 (by obtain ⟨x, y⟩ := a; simp only at e1 e2; rw [e1, e2]; exact List.mem_cons_self)
          rw [this] at hk; cases hk
      have hz : posP (a :: l) o s = 0 := posP_zero fun x hx => by
        rcases List.mem_cons.1 hx with rfl | hx
        · exact hlt
        · exact ltP_trans hlt (h1 x hx)
      rw [hz, List.take_zero, List.nil_append, List.drop_zero]
      refine List.pairwise_cons.2 ⟨fun x hx => ?_, h⟩
      rcases List.mem_cons.1 hx with rfl | hx
      · exact hlt
      · exact ltP_trans hlt (h1 x hx)
theorem learnL_ok {l : List Plc} {o s : Int} (h : knB l = true) (hp : isPlaceB o s = true) : knB (learnL l o s) = true := by
  obtain ⟨h1, h2⟩ := knB_iff.1 h
  refine knB_iff.2 ⟨fun x hx => ?_, ?_⟩
  · rcases learnL_mem.1 hx with hx | rfl
    · exact h1 x hx
    · exact hp
  · unfold learnL
    split
    · exact h2
    · rename_i hk
      exact ins_sortedP h2 (by simpa using hk)
end Go.Proofs.YtekjdeibnfaehaaGreat
/- Is a place known? -/
set_option linter.unusedSimpArgs false
set_option linter.unusedVariables false
namespace Go.Proofs.YtekjdeibnfaehaaGreat
open Go Go.RowKit

def toR (p : Plc) : Rec := ⟨p.o, p.s, 0, 0, 0, 0, 0, 0, 0, 0, noText⟩
theorem posP_R (l : List Plc) (o s : Int) : posR (l.map toR) o s = posP l o s := by
  unfold posR posP
  rw [List.countP_map]
  rfl
theorem knowsB_R (l : List Plc) (o s : Int) : hasR (l.map toR) o s = knowsB l o s := by
  unfold hasR knowsB
  rw [List.any_map]
  rfl
theorem sortedP_R {l : List Plc} (h : SortedP l) : Sorted (l.map toR) := List.pairwise_map.2 h
set_option maxRecDepth 100000 in
set_option maxHeartbeats 4000000 in
theorem SearchP_any (A : Option Addr) (c n : Nat) (l : List Plc) (o s : Int) (hn : l.length = n) (hbig : n ≤ 1000000) (hs0 : SortedP l) (w : World) (hr : Sl 2 w A n (l.flatMap encP)) :
    Calls Tryz.prog 149 #[.slice A n c, .agg #[.int .i64 o, .int .i64 s], .func (.func 122) #[] #[]] w
      fun e w' => e = .returned (.tuple #[.int .i64 (posP l o s), .bool (knowsB l o s)]) ∧ Ext w w' := by
  have hs := sortedP_R hs0
  have hl : (l.map toR).length = n := by rw [List.length_map]; exact hn
  have Hs := hid hs
  clear hs hs0
  go_enter Tryz.func149, Tryz.ntmps149
  go_wp2_with fail
  go_loopw [9, 10] (fun i j wr => ∃ a b : Nat, a ≤ b ∧ b ≤ n ∧ i = .int .i64 a ∧ j = .int .i64 b ∧ Ext (w.alloc (.cells #[.int .i64 o, .int .i64 s] 44)) wr ∧ Parts (l.map toR) o s a b) (fun i j _ => (intOf j).toNat - (intOf i).toNat)
  case atStart => exact ⟨0, n, Nat.zero_le _, Nat.le_refl _, rfl, rfl, Ext.refl _, ⟨fun t _ h => absurd h (Nat.not_lt_zero _), fun t h1 h2 => by omega⟩⟩
  case round =>
    obtain ⟨a, b, hab, hb, rfl, rfl, ⟨E0, d0, rfl⟩, hp⟩ := hrel
    by_cases hlt : a < b
    · have hm : (a + b) / 2 < l.length := by omega
      have hm' : (a + b) / 2 < (l.map toR).length := by omega
      obtain ⟨g, of, rfl, hg, hrow⟩ := plcs_row hr hn (by omega)
      obtain ⟨x0, x1⟩ := hrow ((a + b) / 2) (by omega)
      obtain ⟨p, hpk⟩ : ∃ p, pAt l ((a + b) / 2) = p := ⟨_, rfl⟩
      have Hrk : Hid ((l.map toR)[(a + b) / 2] = toR p) := hid (by rw [List.getElem_map, ← hpk, pAt_of hm])
      rw [hpk] at x0 x1
      clear hpk hrow
      have hi1 : ((a : Int) + (b : Int)) / 2 < (n : Int) := by omega
      have hi0 : (0 : Int) ≤ ((a : Int) + (b : Int)) / 2 := by omega
      have hi4 : (((a : Int) + (b : Int)) / 2).toNat = (a + b) / 2 := by omega
      by_cases hc : cmpP p.o p.s o s < 0
      · have hp' : Parts (l.map toR) o s ((a + b) / 2 + 1) b := by
          have hc' := hc
          rw [cmpP_neg] at hc'
          refine ⟨fun t h1 h2 => ?_, hp.hi⟩
          have := sorted_mono Hs.out (i := t) (j := (a + b) / 2) (by omega) hm' (o := o) (s := s) (by rw [Hrk.out]; exact hc')
          exact this
        have Hp := hid hp'
        clear hp hp'
        go_wp2_with fail
        refine wp_region_ord_same (.f 0 (.f 1 (.f 2 (.f 3 (.f 4 (.f 5 (.a 6 (.f 7 .d)))))))) (by kernel_rfl) (by kernel_rfl) ?_
        repeat ((first | refine wpOrd_pass rfl rfl ?_ | (refine wpOrd_free (v := ?_) rfl rfl (fun _ hS => ?_) ?_; rotate_left; focus (go_simp; try with_reducible rfl))); simp only [Act.put, zp])
        refine wpOrd_act rfl rfl (fun K hK => ?_)
        go_simp
        refine (compare_any _ _ _ _ _).mono ?_
        rintro e w1 ⟨rfl, E, d, rfl⟩
        refine hK _ _ ⟨?_, ?_⟩
        · exact keepI
        clear hK K
        try simp only [Act.put, zp]
        repeat ((first | refine wpOrd_pass rfl rfl ?_ | (refine wpOrd_free (v := ?_) rfl rfl (fun _ hS => ?_) ?_; rotate_left; focus (go_simp; try with_reducible rfl))); simp only [Act.put, zp])
        refine wpOrd_nil ?_
        go_wp2_with fail
        exact ⟨⟨(a + b) / 2 + 1, b, by omega, by omega, congrArg (Value.int .i64) (by omega), rfl, exI, Hp.out⟩, by simp [intOf]; omega⟩
      · have hp' : Parts (l.map toR) o s a ((a + b) / 2) := by
          refine ⟨hp.lo, fun t h1 h2 => ?_⟩
          rw [← Bool.not_eq_true]
          intro h3
          have := sorted_mono Hs.out (i := (a + b) / 2) (j := t) h2 h1 (o := o) (s := s) h3
          rw [Hrk.out, ← cmpP_neg] at this
          exact hc this
        have Hp := hid hp'
        clear hp hp'
        go_wp2_with fail
        refine wp_region_ord_same (.f 0 (.f 1 (.f 2 (.f 3 (.f 4 (.f 5 (.a 6 (.f 7 .d)))))))) (by kernel_rfl) (by kernel_rfl) ?_
        repeat ((first | refine wpOrd_pass rfl rfl ?_ | (refine wpOrd_free (v := ?_) rfl rfl (fun _ hS => ?_) ?_; rotate_left; focus (go_simp; try with_reducible rfl))); simp only [Act.put, zp])
        refine wpOrd_act rfl rfl (fun K hK => ?_)
        go_simp
        refine (compare_any _ _ _ _ _).mono ?_
        rintro e w1 ⟨rfl, E, d, rfl⟩
        refine hK _ _ ⟨?_, ?_⟩
        · exact keepI
        clear hK K
        try simp only [Act.put, zp]
        repeat ((first | refine wpOrd_pass rfl rfl ?_ | (refine wpOrd_free (v := ?_) rfl rfl (fun _ hS => ?_) ?_; rotate_left; focus (go_simp; try with_reducible rfl))); simp only [Act.put, zp])
        refine wpOrd_nil ?_
        go_wp2_with fail
        exact ⟨⟨a, (a + b) / 2, by omega, by omega, rfl, congrArg (Value.int .i64) (by omega), exI, Hp.out⟩, by simp [intOf]; omega⟩
    · obtain rfl : a = b := by omega
      have hpos : posR (l.map toR) o s = a := posR_eq a (by omega) hp.lo hp.hi
      by_cases han : a < n
      · have hm : a < l.length := by omega
        have hm' : a < (l.map toR).length := by omega
        obtain ⟨g, of, rfl, hg, hrow⟩ := plcs_row hr hn (by omega)
        obtain ⟨x0, x1⟩ := hrow a (by omega)
        obtain ⟨p, hpk⟩ : ∃ p, pAt l a = p := ⟨_, rfl⟩
        have hrk : (l.map toR)[a] = toR p := by rw [List.getElem_map, ← hpk, pAt_of hm]
        rw [hpk] at x0 x1
        have hhas : hasR (l.map toR) o s = atB (toR p) o s := by
          rw [← hrk, Bool.eq_iff_iff, hasR_pos Hs.out, hpos]
          exact ⟨fun ⟨_, h⟩ => h, fun h => ⟨hm', h⟩⟩
        have hz : (cmpP p.o p.s o s == 0) = atB (toR p) o s := by
          rw [Bool.eq_iff_iff, beq_iff_eq, cmpP_zero, atB, Bool.and_eq_true]
          exact ⟨fun h => ⟨decide_eq_true h.1, decide_eq_true h.2⟩, fun h => ⟨of_decide_eq_true h.1, of_decide_eq_true h.2⟩⟩
        have Hpos := hid (posP_R l o s ▸ hpos)
        have Hhas := hid (knowsB_R l o s ▸ hhas)
        clear hp hpos hhas hrk hpk hrow
        go_wp2_with fail
        refine wp_region_ord_same (.f 0 (.f 1 (.f 2 (.f 3 (.f 4 (.f 5 (.f 6 (.f 7 (.f 8 (.f 9 (.f 10 (.a 11 (.f 12 (.f 13 (.f 14 (.f 15 .d)))))))))))))))) (by kernel_rfl) (by kernel_rfl) ?_
        repeat ((first | refine wpOrd_pass rfl rfl ?_ | (refine wpOrd_free (v := ?_) rfl rfl (fun _ hS => ?_) ?_; rotate_left; focus (go_simp; try with_reducible rfl))); simp only [Act.put, zp])
        refine ord_bool (j := 4) rfl (fun hb4 => ?_) (fun hb4 => ?_)
        rotate_left
        focus
         try (exfalso; first | (simp at hb4; done) | (simp at hb4; omega))
         all_goals
          (try simp only [hb4])
          repeat ((first | refine wpOrd_pass rfl rfl ?_ | (refine wpOrd_free (v := ?_) rfl rfl (fun _ hS => ?_) ?_; rotate_left; focus (go_simp; try with_reducible rfl))); simp only [Act.put, zp])
          refine wpOrd_actPass rfl rfl ?_ ?_
          · exact keepI
          simp only [Act.put, zp]
          repeat ((first | refine wpOrd_pass rfl rfl ?_ | (refine wpOrd_free (v := ?_) rfl rfl (fun _ hS => ?_) ?_; rotate_left; focus (go_simp; try with_reducible rfl))); simp only [Act.put, zp])
          refine wpOrd_nil ?_
        rotate_right
        focus
         try (exfalso; first | (simp at hb4; done) | (simp at hb4; omega))
         all_goals
          (try simp only [hb4])
          repeat ((first | refine wpOrd_pass rfl rfl ?_ | (refine wpOrd_free (v := ?_) rfl rfl (fun _ hS => ?_) ?_; rotate_left; focus (go_simp; try with_reducible rfl))); simp only [Act.put, zp])
          refine wpOrd_act rfl rfl (fun K hK => ?_)
          go_simp
          refine (compare_any _ _ _ _ _).mono ?_
          rintro e w1 ⟨rfl, E, d, rfl⟩
          refine hK _ _ ⟨?_, ?_⟩
          · exact keepI
          clear hK K
          try simp only [Act.put, zp]
          repeat ((first | refine wpOrd_pass rfl rfl ?_ | (refine wpOrd_free (v := ?_) rfl rfl (fun _ hS => ?_) ?_; rotate_left; focus (go_simp; try with_reducible rfl))); simp only [Act.put, zp])
          refine wpOrd_nil ?_
        go_wp2_with fail
        go_ret2
        exact ⟨ret_val (by rw [Hpos.out, Hhas.out]; rfl), exI⟩
      · have hhas : hasR (l.map toR) o s = false := by
          rw [← Bool.not_eq_true, hasR_pos Hs.out, hpos]
          rintro ⟨h, _⟩
          omega
        have Hpos := hid (posP_R l o s ▸ hpos)
        have Hhas := hid (knowsB_R l o s ▸ hhas)
        clear hp hpos hhas
        go_wp2_with fail
        refine wp_region_ord_same (.f 0 (.f 1 (.f 2 (.f 3 (.f 4 (.f 5 (.f 6 (.f 7 (.f 8 (.f 9 (.f 10 (.a 11 (.f 12 (.f 13 (.f 14 (.f 15 .d)))))))))))))))) (by kernel_rfl) (by kernel_rfl) ?_
        repeat ((first | refine wpOrd_pass rfl rfl ?_ | (refine wpOrd_free (v := ?_) rfl rfl (fun _ hS => ?_) ?_; rotate_left; focus (go_simp; try with_reducible rfl))); simp only [Act.put, zp])
        refine ord_bool (j := 4) rfl (fun hb4 => ?_) (fun hb4 => ?_)
        rotate_left
        focus
         try (exfalso; first | (simp at hb4; done) | (simp at hb4; omega))
         all_goals
          (try simp only [hb4])
          repeat ((first | refine wpOrd_pass rfl rfl ?_ | (refine wpOrd_free (v := ?_) rfl rfl (fun _ hS => ?_) ?_; rotate_left; focus (go_simp; try with_reducible rfl))); simp only [Act.put, zp])
          refine wpOrd_actPass rfl rfl ?_ ?_
          · exact keepI
          simp only [Act.put, zp]
          repeat ((first | refine wpOrd_pass rfl rfl ?_ | (refine wpOrd_free (v := ?_) rfl rfl (fun _ hS => ?_) ?_; rotate_left; focus (go_simp; try with_reducible rfl))); simp only [Act.put, zp])
          refine wpOrd_nil ?_
        rotate_right
        focus
         try (exfalso; first | (simp at hb4; done) | (simp at hb4; omega))
         all_goals
          (try simp only [hb4])
          repeat ((first | refine wpOrd_pass rfl rfl ?_ | (refine wpOrd_free (v := ?_) rfl rfl (fun _ hS => ?_) ?_; rotate_left; focus (go_simp; try with_reducible rfl))); simp only [Act.put, zp])
          refine wpOrd_act rfl rfl (fun K hK => ?_)
          go_simp
          refine (compare_any _ _ _ _ _).mono ?_
          rintro e w1 ⟨rfl, E, d, rfl⟩
          refine hK _ _ ⟨?_, ?_⟩
          · exact keepI
          clear hK K
          try simp only [Act.put, zp]
          repeat ((first | refine wpOrd_pass rfl rfl ?_ | (refine wpOrd_free (v := ?_) rfl rfl (fun _ hS => ?_) ?_; rotate_left; focus (go_simp; try with_reducible rfl))); simp only [Act.put, zp])
          refine wpOrd_nil ?_
        go_wp2_with fail
        go_ret2
        exact ⟨ret_val (by rw [Hpos.out, Hhas.out]; rfl), exI⟩
set_option maxHeartbeats 1000000 in
theorem knows_any (A : Option Addr) (c n : Nat) (l : List Plc) (o s : Int) (hn : l.length = n) (hbig : n ≤ 1000000) (hs : SortedP l) (w : World) (hr : Sl 2 w A n (l.flatMap encP)) :
    Calls Tryz.prog 111 #[.slice A n c, .agg #[.int .i64 o, .int .i64 s]] w fun e w' => e = .returned (.tuple #[.int .i64 (posP l o s), .bool (knowsB l o s)]) ∧ Ext w w' := by
  go_enter Tryz.func111, Tryz.ntmps111
  go_wp2_with fail
  refine (SearchP_any A c n l o s hn hbig hs _ (hr.of_ext exI)).mono ?_
  rintro e w1 ⟨rfl, E1, d1, rfl⟩
  go_wp2_with fail
  go_ret2
  exact ⟨rfl, exI⟩
end Go.Proofs.YtekjdeibnfaehaaGreat
/- slices.Insert of one place into a row of one's own. -/
set_option linter.unusedSimpArgs false
set_option linter.unusedVariables false
namespace Go.Proofs.YtekjdeibnfaehaaGreat
open Go.RowKit

def zeros2 : Array Value := #[.int .i64 0, .int .i64 0]
theorem gb_drew (w : World) (b : Option Nat) : w.grownBy w.drew b := ⟨rfl, rfl, rfl, Nat.le_refl _, fun _ _ _ => rfl⟩
theorem gb_setRow (w : World) (g : Nat) (cs : Array Value) : w.grownBy (w.setRow g cs) (some g) := ⟨rfl, rfl, rfl, by simp, fun k _ hk => setRow_other w g k cs (fun e => hk (by rw [e]))⟩
theorem gb_setCell (w : World) (g i : Nat) (v : Value) : w.grownBy (w.setCell ⟨g, i, none⟩ v) (some g) := ⟨rfl, rfl, rfl, by simp, fun k _ hk => by
  simp only [World.setCell]
  rw [Array.getElem?_modify, if_neg (fun e => hk (by rw [← e]))]⟩
theorem gb_alloc (w : World) (o : Obj) (b : Option Nat) : w.grownBy (w.alloc o) b := World.grownBy_alloc w o b
theorem gb_drew' {w w' : World} {b : Option Nat} (h : w.grownBy w' b) : w.grownBy w'.drew b := ⟨h.os, h.tape, h.output, h.size, h.block⟩
/-- A block that was not there is written. -/
theorem gb_newRow {w w' : World} {b : Option Nat} (h : w.grownBy w' b) (g : Nat) (cs : Array Value) (hg : w.heap.size ≤ g) : w.grownBy (w'.setRow g cs) b :=
  ⟨h.os, h.tape, h.output, by simpa using h.size, fun k hk hb => (setRow_other w' g k cs (by omega)).trans (h.block k hk hb)⟩
theorem plcs_length (l : List Plc) : (l.flatMap encP).length = l.length * 2 := by
  induction l with
  | nil => rfl
  | cons r l ih =>
    have h : ((r :: l).flatMap encP).length = (encP r).length + (l.flatMap encP).length := by rw [List.flatMap_cons, List.length_append]
    have h2 : (encP r).length = 2 := rfl
    have h3 : (r :: l).length = l.length + 1 := rfl
    rw [h, ih, h3, h2]
    omega
theorem encP_length (r : Plc) : (encP r).length = 2 := rfl
theorem plcs_take : ∀ (l : List Plc) (i : Nat), (l.flatMap encP).take (i * 2) = (l.take i).flatMap encP
  | [], i => by simp
  | r :: l, 0 => by simp
  | r :: l, i + 1 => by
    rw [List.flatMap_cons, List.take_succ_cons, List.flatMap_cons, List.take_append, encP_length, List.take_of_length_le (by rw [encP_length]; omega), show (i + 1) * 2 - 2 = i * 2 by omega, plcs_take l i]
theorem plcs_drop : ∀ (l : List Plc) (i : Nat), (l.flatMap encP).drop (i * 2) = (l.drop i).flatMap encP
  | [], i => by simp
  | r :: l, 0 => by simp
  | r :: l, i + 1 => by
    rw [List.flatMap_cons, List.drop_succ_cons, List.drop_append, encP_length, List.drop_of_length_le (by rw [encP_length]; omega), show (i + 1) * 2 - 2 = i * 2 by omega, plcs_drop l i]
    rfl
/-- The row behind both copies. -/
theorem insert_rowsP (l : List Plc) (r : Plc) (i : Nat) (hi : i ≤ l.length) (cur : List Value) (h : cur.take (l.length * 2) = l.flatMap encP) (hc : (l.length + 1) * 2 ≤ cur.length) :
    let c1 := cur.take ((i + 1) * 2) ++ (l.drop i).flatMap encP ++ cur.drop ((i + 1) * 2 + ((l.drop i).flatMap encP).length)
    let c2 := c1.take (i * 2) ++ encP r ++ c1.drop (i * 2 + (encP r).length)
    c2.length = cur.length ∧ c2.take ((l.length + 1) * 2) = (l.take i ++ r :: l.drop i).flatMap encP := by
  intro c1 c2
  have he : (encP r).length = 2 := rfl
  have hd : ((l.drop i).flatMap encP).length = (l.length - i) * 2 := by rw [plcs_length, List.length_drop]
  have h1 : c1.take (i * 2) = (l.take i).flatMap encP := by
    rw [← plcs_take, ← h, List.take_take, Nat.min_eq_left (by omega)]
    show (cur.take ((i + 1) * 2) ++ _ ++ _).take (i * 2) = _
    rw [List.append_assoc, List.take_append_of_le_length (by rw [List.length_take]; omega), List.take_take, Nat.min_eq_left (by omega)]
  have h2 : c1.drop (i * 2 + (encP r).length) = (l.drop i).flatMap encP ++ cur.drop ((l.length + 1) * 2) := by
    show (cur.take ((i + 1) * 2) ++ _ ++ _).drop (i * 2 + (encP r).length) = _
    rw [List.append_assoc, List.drop_append, List.length_take, he, show i * 2 + 2 - min ((i + 1) * 2) cur.length = 0 by omega, List.drop_of_length_le (by rw [List.length_take]; omega), hd]
    rw [show (i + 1) * 2 + (l.length - i) * 2 = (l.length + 1) * 2 by omega]
    rfl
  have h3 : c2 = (l.take i ++ r :: l.drop i).flatMap encP ++ cur.drop ((l.length + 1) * 2) := by
    show c1.take (i * 2) ++ encP r ++ c1.drop (i * 2 + (encP r).length) = _
    rw [h1, h2, List.flatMap_append, List.flatMap_cons]
    simp only [List.append_assoc]
  have h4 : ((l.take i ++ r :: l.drop i).flatMap encP).length = (l.length + 1) * 2 := by
    rw [plcs_length, List.length_append, List.length_cons, List.length_take, List.length_drop]
    congr 1
    omega
  refine ⟨?_, ?_⟩
  · rw [h3, List.length_append, h4, List.length_drop]; omega
  · rw [h3, List.take_append_of_le_length (by omega), List.take_of_length_le (by omega)]
theorem insert_rowsQ (l : List Plc) (r : Plc) (i : Nat) (hi : i ≤ l.length) (row : List Value) (hr : row.take (i * 2) = (l.take i).flatMap encP) (hc : (l.length + 1) * 2 ≤ row.length) :
    let c1 := row.take (i * 2) ++ encP r ++ row.drop (i * 2 + (encP r).length)
    let c2 := c1.take ((i + 1) * 2) ++ (l.drop i).flatMap encP ++ c1.drop ((i + 1) * 2 + ((l.drop i).flatMap encP).length)
    c2.length = row.length ∧ c2.take ((l.length + 1) * 2) = (l.take i ++ r :: l.drop i).flatMap encP := by
  intro c1 c2
  have he : (encP r).length = 2 := rfl
  have hd : ((l.drop i).flatMap encP).length = (l.length - i) * 2 := by rw [plcs_length, List.length_drop]
  have hl1 : (row.take (i * 2) ++ encP r).length = (i + 1) * 2 := by rw [List.length_append, he, List.length_take]; omega
  have h1 : c1.take ((i + 1) * 2) = (l.take i).flatMap encP ++ encP r := by
    show (row.take (i * 2) ++ encP r ++ _).take ((i + 1) * 2) = _
    rw [List.take_append_of_le_length (by omega), List.take_of_length_le (by omega), hr]
  have hcl : c1.length = row.length := by
    show (row.take (i * 2) ++ encP r ++ row.drop _).length = _
    rw [List.length_append, hl1, List.length_drop, he]; omega
  have h4 : ((l.take i ++ r :: l.drop i).flatMap encP).length = (l.length + 1) * 2 := by
    rw [plcs_length, List.length_append, List.length_cons, List.length_take, List.length_drop]
    congr 1
    omega
  have h3 : c2 = (l.take i ++ r :: l.drop i).flatMap encP ++ c1.drop ((l.length + 1) * 2) := by
    show c1.take ((i + 1) * 2) ++ (l.drop i).flatMap encP ++ c1.drop _ = _
    rw [h1, hd, List.flatMap_append, List.flatMap_cons, show (i + 1) * 2 + (l.length - i) * 2 = (l.length + 1) * 2 by omega]
    simp only [List.append_assoc]
  refine ⟨?_, ?_⟩
  · rw [h3, List.length_append, h4, List.length_drop]; omega
  · rw [h3, List.take_append_of_le_length (by omega), List.take_of_length_le (by omega)]
theorem info_plc_size : (Tryz.prog.info? 44).map (·.size) = some 2 := by
  obtain ⟨i0, hi, hz0, hz1, hz2⟩ := info_parts info_plc
  rw [hi]; simp [hz1]
theorem sizeOf_plc (w : World) : (Go.sizeOf 44).run Tryz.prog w = .ok 2 w := by
  obtain ⟨i0, hi, hz0, hz1, hz2⟩ := info_parts info_plc
  simp [sizeOf, typeInfo, hi, hz1]
/-- A row that another block holds: a record laid for the call. -/
structure LaidP (w : World) (vb : Nat) (r : Plc) : Prop where
  at_ : w.heap[vb]? = some (.cells (encP r).toArray 44)
set_option maxRecDepth 100000 in
set_option maxHeartbeats 4000000 in
theorem InsertP_room (X : World) (A : Option Addr) (n c vb vc i : Nat) (l : List Plc) (r : Plc) (hn : n = l.length) (hbig : n ≤ 100000) (hi : i < n) (hroom : n + 1 ≤ c) (w : World) (hx : Ext X w) (ho : OwnP X.heap.size w (.slice A n c) l) (hv : LaidP w vb r) (hne : ∀ a, A = some a → vb ≠ a.block) :
    Calls Tryz.prog 150 #[.slice A n c, .int .i64 i, .slice (some ⟨vb, 0, none⟩) 1 vc] w fun e w' =>
      ∃ A' n' c', e = .returned (.slice A' n' c') ∧ OwnP X.heap.size w' (.slice A' n' c') (l.take i ++ r :: l.drop i) ∧ Ext X w' ∧ w.grownBy w' (A.map (·.block)) := by
  rcases ho.2 with ⟨_, h0⟩ | ⟨g, cap, cur, hvl, hb, hg, hnc, hcm, hcs, hcur⟩
  · omega
  subst hn
  cases hvl
  have hvb := hne _ rfl
  simp only at hvb
  have hdl : ((l.drop i).flatMap encP).length = (l.length - i) * 2 := by rw [plcs_length, List.length_drop]
  have hcl : (l.length + 1) * 2 ≤ cur.size := by rw [hcs]; exact Nat.mul_le_mul_right _ hroom
  obtain ⟨hr1, hr2⟩ := insert_rowsP l r i (by omega) cur.toList hcur (by simpa using hcl)
  have hcell : ∀ j v, ((l.drop i).flatMap encP)[j]? = some v → w.cell? ⟨g, i * 2 + j, none⟩ = some v := fun j v hj => by
    rw [← plcs_drop, ← hcur, List.getElem?_drop, List.getElem?_take] at hj
    split at hj
    · simp only [World.cell?, hg, Option.isSome_none, Bool.false_eq_true, if_false]
      rw [← hj, Array.getElem?_toList]
    · cases hj
  have hcp1 : ∀ ty dc sc, (Builtin.copy_ #[71, 71] ty #[.slice (some ⟨g, (i + 1) * 2, none⟩) (l.length - i) dc, .slice (some ⟨g, i * 2, none⟩) (l.length + 1 - i) sc]).run Tryz.prog w.drew =
      .ok (goInt (l.length - i : Nat)) (w.drew.setRow g (cur.toList.take ((i + 1) * 2) ++ (l.drop i).flatMap encP ++ cur.toList.drop ((i + 1) * 2 + ((l.drop i).flatMap encP).length)).toArray) := fun ty dc sc =>
    run_copy_rowk w.drew _ _ ty 44 2 g ((i + 1) * 2) _ dc ⟨g, i * 2, none⟩ _ sc (l.length - i) cur 44 _ Tryz.underlying71 info_plc_size (by simp only [Nat.min_def]; split <;> omega) hg hdl
      (fun j v hj => by rw [Addr.add_lit]; exact hcell j v hj) (by rw [hdl]; omega) (encP_one _)
  obtain ⟨c1, hc1⟩ : ∃ c1, cur.toList.take ((i + 1) * 2) ++ (l.drop i).flatMap encP ++ cur.toList.drop ((i + 1) * 2 + ((l.drop i).flatMap encP).length) = c1 := ⟨_, rfl⟩
  rw [hc1] at hcp1 hr1 hr2
  have hc1l : c1.length = cur.size := by
    rw [← hc1, List.length_append, List.length_append, List.length_take, List.length_drop, hdl, Array.length_toList]; omega
  have hg1 : (w.drew.setRow g c1.toArray).heap[g]? = some (.cells c1.toArray 44 (0, 0)) := setRow_heap _ _ cur _ _ _ hg
  have hcp2 : ∀ (W : World), W.heap = (w.drew.setRow g c1.toArray).heap → ∀ ty dc, (Builtin.copy_ #[71, 71] ty #[.slice (some ⟨g, i * 2, none⟩) (l.length + 1 - i) dc, .slice (some ⟨vb, 0, none⟩) 1 vc]).run Tryz.prog W =
      .ok (goInt (1 : Nat)) (W.setRow g (c1.take (i * 2) ++ encP r ++ c1.drop (i * 2 + (encP r).length)).toArray) := fun W hW ty dc => by
    have := run_copy_rowk (P := Tryz.prog) W 71 71 ty 44 2 g (i * 2) (l.length + 1 - i) dc ⟨vb, 0, none⟩ 1 vc 1 c1.toArray 44 (encP r) Tryz.underlying71 info_plc_size (by simp only [Nat.min_def]; split <;> omega) (by rw [hW]; exact hg1) rfl
      (fun j v hj => by
        rw [Addr.add_lit]
        have h2 : W.heap[vb]? = some (.cells (encP r).toArray 44) := by rw [hW, setRow_other _ _ _ _ hvb]; exact hv.at_
        simp only [World.cell?, h2, Nat.zero_add, Option.isSome_none, Bool.false_eq_true, if_false]
        rw [← hj, List.getElem?_toArray]) (by rw [List.size_toArray, hc1l, encP_length]; omega) (by intro v hv; exact encP_one [r] v (by simpa using hv))
    exact this
  obtain ⟨c2, hc2⟩ : ∃ c2, c1.take (i * 2) ++ encP r ++ c1.drop (i * 2 + (encP r).length) = c2 := ⟨_, rfl⟩
  rw [hc2] at hcp2 hr1 hr2
  have hov : ∀ lb cb o, (callFunc 163 #[.slice (some ⟨vb, 0, none⟩) 1 vc, .slice (some ⟨g, o, none⟩) lb cb]).run Tryz.prog w = .ok (.value (.bool false)) w := fun lb cb o => by
    rw [run_callFunc_extern Tryz.func163 (by kernel_rfl) (by kernel_rfl) (by kernel_rfl) (e := Extern.SlicesOverlaps.overlaps #[71, 71] #[4]) (by kernel_rfl),
      Lib.run_overlaps_apart w 71 4 44 Tryz.underlying71 2 sizeOf_plc ⟨vb, 0, none⟩ ⟨g, o, none⟩ 1 vc lb cb hvb 44 44 2 cur.size (by simp [World.shape?, hv.at_, encP_length]) (by simp [World.shape?, hg]) (by omega) (by simp [World.frozen?, hv.at_]) (by simp [World.frozen?, hv.at_])]
    rfl
  have hw1 : IntKind.i64.wrap ((i : Int) + 1) = (i : Int) + 1 := by rw [IntKind.wrap_i64]; omega
  have htn : ((i : Int) + 1).toNat = i + 1 := by omega
  have hcap : c ≤ 9223372036854775807 := hcm
  have hz2 : ¬ ((i : Int) = (l.length : Int)) := by omega
  have hf0 : (0 : Int) ≤ (i : Int) + 1 := by omega
  have hf1 : i ≤ l.length := by omega
  have hf2 : ¬ (c = i + 1) := by omega
  have hf3 : ¬ (c = i) := by omega
  have hf4 : (i : Int) ≤ (l.length : Int) + 1 := by omega
  go_enter Tryz.func150, Tryz.ntmps150
  go_wp2_with (simp only [hov])
  refine wp_region_ord (.f 0 (.f 1 (.f 2 (.f 3 (.f 4 (.f 5 (.f 6 (.f 7 (.a 8 .d))))))))) (Ext (X)) (by kernel_rfl) (by kernel_rfl) (by repeat (with_reducible first | exact Ext.refl _ | exact Ext.same _ _ _ _ | assumption | apply Ext.alloc | apply Ext.ext | apply Ext.drew)) ?_
  repeat ((first | refine wpOrd_pass rfl rfl ?_ | (refine wpOrd_free (v := ?_) rfl rfl (fun _ hS => ?_) ?_; rotate_left; focus (obtain ⟨E9, d9, rfl⟩ := hS; go_simp; try with_reducible rfl))); simp only [Act.put, zp])
  refine wpOrd_act rfl rfl (fun K hK => ?_)
  refine wp_copy_runI _ _ _ 71 71 rfl _ _ rfl rfl (hcp1 _ _ _) ?_
  refine hK _ _ ⟨?_, ?_⟩
  · exact (hx.drew).setRow _ _ hb
  clear hK K
  try simp only [Act.put, zp]
  refine wpOrd_nil ?_
  go_wp2_with (at_builtin; refine wpList_copy_runI _ rfl _ _ 71 71 rfl _ _ rfl rfl (hcp2 _ rfl _ _) ?_)
  go_ret
  have hlen : (l.take i ++ r :: l.drop i).length = l.length + 1 := by simp; omega
  refine ⟨_, _, _, rfl, ⟨?_, .inr ⟨g, c, _, by rw [hlen], hb, setRow_heap _ _ _ _ _ _ hg1, by omega, hcm, ?_, ?_⟩⟩, ((hx.drew).setRow _ _ hb).setRow _ _ hb, ((gb_drew w _).trans (gb_setRow _ _ _)).trans (gb_setRow _ _ _)⟩
  · rw [plcs_length]
  · exact (List.size_toArray).trans (hr1.trans ((Array.length_toList).trans hcs))
  · rw [hlen]
    exact hr2
set_option maxRecDepth 100000 in
set_option maxHeartbeats 4000000 in
theorem InsertP_grow (X : World) (A : Option Addr) (n c vb vc i : Nat) (l : List Plc) (r : Plc) (hn : n = l.length) (hbig : n ≤ 100000) (hi : i < n) (hroom : c < n + 1) (w : World) (hx : Ext X w) (ho : OwnP X.heap.size w (.slice A n c) l) (hv : LaidP w vb r) :
    Calls Tryz.prog 150 #[.slice A n c, .int .i64 i, .slice (some ⟨vb, 0, none⟩) 1 vc] w fun e w' =>
      ∃ A' n' c', e = .returned (.slice A' n' c') ∧ OwnP X.heap.size w' (.slice A' n' c') (l.take i ++ r :: l.drop i) ∧ Ext X w' ∧ w.grownBy w' (A.map (·.block)) := by
  rcases ho.2 with ⟨_, h0⟩ | ⟨g, cap, cur, hvl, hb, hg, hnc, hcm, hcs, hcur⟩
  · omega
  subst hn
  cases hvl
  obtain rfl : c = l.length := by omega
  obtain ⟨i0, hi0, hz0, hzs, hzb⟩ := info_parts info_plc
  have hbw : g < w.heap.size := (Array.getElem?_eq_some_iff.1 hg).1
  have hvw : vb < w.heap.size := (Array.getElem?_eq_some_iff.1 hv.at_).1
  have hXw : X.heap.size ≤ w.heap.size := hx.below.size
  have hdl : ((l.drop i).flatMap encP).length = (l.length - i) * 2 := by rw [plcs_length, List.length_drop]
  have hcell0 : ∀ j v, (l.flatMap encP)[j]? = some v → w.cell? ⟨g, j, none⟩ = some v := fun j v hj => by
    rw [← hcur, List.getElem?_take] at hj
    split at hj
    · simp only [World.cell?, hg, Option.isSome_none, Bool.false_eq_true, if_false]
      rw [← hj, Array.getElem?_toList]
    · cases hj
  have hcell : ∀ j v, ((l.drop i).flatMap encP)[j]? = some v → w.cell? ⟨g, i * 2 + j, none⟩ = some v := fun j v hj => by
    rw [← plcs_drop, List.getElem?_drop] at hj
    exact hcell0 _ _ hj
  have hold : (Builtin.firstCells i0.size i (.slice (some ⟨g, 0, none⟩) i l.length)).run Tryz.prog w.drew = .ok ((l.take i).flatMap encP).toArray w.drew := by
    rw [hzs]
    refine run_firstCells_some w.drew 2 i ⟨g, 0, none⟩ i l.length _ (by rw [plcs_length, List.length_take]; congr 1; omega) (fun j v hj => ?_)
    rw [Addr.add_lit, Nat.zero_add]
    rw [← plcs_take, List.getElem?_take] at hj
    split at hj
    · exact hcell0 _ _ hj
    · cases hj
  have hik : i + (l.length + 1 - i) = l.length + 1 := by omega
  have hkk : (l.length : Int) + 1 - (i : Int) = ((l.length + 1 - i : Nat) : Int) := by omega
  obtain ⟨G, hG⟩ : ∃ G, G = grownCap w (l.length + 1) l.length 44 := ⟨_, rfl⟩
  obtain ⟨ROW, hROW⟩ : ∃ ROW : Array Value, ROW = ((l.take i).flatMap encP).toArray ++ Builtin.zeroCells zeros2 (l.length + 1 - i) ++ Builtin.zeroCells zeros2 (G - (l.length + 1)) := ⟨_, rfl⟩
  have hrz : ∀ ty, (Builtin.append_ #[71, 3] ty #[.slice (some ⟨g, 0, none⟩) i l.length, .int .i64 ((l.length : Int) + 1 - (i : Int))]).run Tryz.prog w =
      .ok (.slice (some ⟨w.heap.size, 0, none⟩) (l.length + 1) G) (w.drew.alloc (.cells ROW 44)) := fun ty => by
    have h := Lib.run_append_grow_zeros w 71 3 ty 44 i0 _ .i64 .i64 Tryz.underlying71 Tryz.underlying3 hi0 hz0 (some ⟨g, 0, none⟩) i l.length ((l.take i).flatMap encP) hold (l.length + 1 - i) (by omega) (by omega) (by omega) (by omega) (by rw [hzb]; omega) (by rw [hzb, hik]; exact growslice_fits hroom (by omega))
    rw [hik, ← hG] at h
    rw [hkk, hROW]
    exact h
  have hGn : l.length + 1 ≤ G := by rw [hG]; exact grownCap_ge w _ _ _
  have hG63 : G ≤ maxLen := by rw [hG]; exact grownCap_le_maxLen w (l.length + 1) l.length 44 (by unfold maxLen; omega)
  have hG64 : G ≤ 9223372036854775807 := hG63
  have hrt : ((l.take i).flatMap encP).length = i * 2 := by rw [plcs_length, List.length_take]; congr 1; omega
  have hRl : ROW.size = G * 2 := by
    rw [hROW, Array.size_append, Array.size_append, List.size_toArray, hrt, size_zeroCells, size_zeroCells]
    have : zeros2.size = 2 := rfl
    rw [this]
    omega
  have hRt : ROW.toList.take (i * 2) = (l.take i).flatMap encP := by
    rw [hROW]
    simp only [Array.toList_append, List.append_assoc]
    rw [List.take_append_of_le_length (by rw [hrt]; exact Nat.le_refl _), List.take_of_length_le (by rw [hrt]; exact Nat.le_refl _)]
  obtain ⟨hr1, hr2⟩ := insert_rowsQ l r i (by omega) ROW.toList hRt (by rw [show ROW.toList.length = ROW.size from Array.length_toList, hRl]; exact Nat.mul_le_mul_right _ hGn)
  obtain ⟨W1, hW1⟩ : ∃ W1, W1 = w.drew.alloc (.cells ROW 44) := ⟨_, rfl⟩
  have hg0 : W1.heap[w.heap.size]? = some (.cells ROW 44 (0, 0)) := by rw [hW1]; exact heap_alloc_new w.drew _
  have hvat : W1.heap[vb]? = some (.cells (encP r).toArray 44) := by rw [hW1, heap_alloc_old w.drew _ _ hvw]; exact hv.at_
  have hgat : W1.heap[g]? = some (.cells cur 44) := by rw [hW1, heap_alloc_old w.drew _ _ hbw]; exact hg
  have hcpA : ∀ (W : World), W.heap = W1.heap → ∀ ty dc, (Builtin.copy_ #[71, 71] ty #[.slice (some ⟨w.heap.size, i * 2, none⟩) (l.length + 1 - i) dc, .slice (some ⟨vb, 0, none⟩) 1 vc]).run Tryz.prog W =
      .ok (goInt (1 : Nat)) (W.setRow w.heap.size (ROW.toList.take (i * 2) ++ encP r ++ ROW.toList.drop (i * 2 + (encP r).length)).toArray) := fun W hW ty dc => by
    have := run_copy_rowk (P := Tryz.prog) W 71 71 ty 44 2 w.heap.size (i * 2) (l.length + 1 - i) dc ⟨vb, 0, none⟩ 1 vc 1 ROW 44 (encP r) Tryz.underlying71 info_plc_size (by simp only [Nat.min_def]; split <;> omega) (by rw [hW]; exact hg0) rfl
      (fun j v hj => by
        rw [Addr.add_lit]
        have h2 : W.heap[vb]? = some (.cells (encP r).toArray 44) := by rw [hW]; exact hvat
        simp only [World.cell?, h2, Nat.zero_add, Option.isSome_none, Bool.false_eq_true, if_false]
        rw [← hj, List.getElem?_toArray]) (by rw [hRl, encP_length]; omega) (by intro v hv; exact encP_one [r] v (by simpa using hv))
    exact this
  obtain ⟨c1, hc1⟩ : ∃ c1, ROW.toList.take (i * 2) ++ encP r ++ ROW.toList.drop (i * 2 + (encP r).length) = c1 := ⟨_, rfl⟩
  rw [hc1] at hcpA hr1 hr2
  have hc1l : c1.length = ROW.size := by
    rw [← hc1, List.length_append, List.length_append, List.length_take, List.length_drop, encP_length, show ROW.toList.length = ROW.size from Array.length_toList, hRl]; omega
  have hcpB : ∀ (W : World), W.heap = (W1.setRow w.heap.size c1.toArray).heap → ∀ ty dc sc, (Builtin.copy_ #[71, 71] ty #[.slice (some ⟨w.heap.size, (i + 1) * 2, none⟩) (l.length - i) dc, .slice (some ⟨g, i * 2, none⟩) (l.length - i) sc]).run Tryz.prog W =
      .ok (goInt (l.length - i : Nat)) (W.setRow w.heap.size (c1.take ((i + 1) * 2) ++ (l.drop i).flatMap encP ++ c1.drop ((i + 1) * 2 + ((l.drop i).flatMap encP).length)).toArray) := fun W hW ty dc sc => by
    have := run_copy_rowk (P := Tryz.prog) W 71 71 ty 44 2 w.heap.size ((i + 1) * 2) (l.length - i) dc ⟨g, i * 2, none⟩ (l.length - i) sc (l.length - i) c1.toArray 44 ((l.drop i).flatMap encP) Tryz.underlying71 info_plc_size (by simp only [Nat.min_def]; split <;> omega) (by rw [hW]; exact setRow_heap _ _ _ _ _ _ hg0) hdl
      (fun j v hj => by
        rw [Addr.add_lit]
        have h2 : W.heap[g]? = some (.cells cur 44) := by rw [hW, setRow_other _ _ _ _ (by omega)]; exact hgat
        have h3 := hcell j v hj
        simp only [World.cell?, hg, Option.isSome_none, Bool.false_eq_true, if_false] at h3
        simp only [World.cell?, h2, Option.isSome_none, Bool.false_eq_true, if_false]
        exact h3) (by rw [List.size_toArray, hc1l, hRl, hdl]; omega) (encP_one _)
    exact this
  obtain ⟨c2, hc2⟩ : ∃ c2, c1.take ((i + 1) * 2) ++ (l.drop i).flatMap encP ++ c1.drop ((i + 1) * 2 + ((l.drop i).flatMap encP).length) = c2 := ⟨_, rfl⟩
  rw [hc2] at hcpB hr1 hr2
  have hgB : ∀ W : World, W.heap = (W1.setRow w.heap.size c1.toArray).heap → W.heap[w.heap.size]? = some (.cells c1.toArray 44 (0, 0)) := fun W hW => by rw [hW]; exact setRow_heap _ _ _ _ _ _ hg0
  rw [← hW1] at hrz
  have hxW : Ext X W1 := by rw [hW1]; exact hx.drew.alloc _
  have hw1 : IntKind.i64.wrap ((i : Int) + 1) = (i : Int) + 1 := by rw [IntKind.wrap_i64]; omega
  have htn : ((i : Int) + 1).toNat = i + 1 := by omega
  have hz2 : ¬ ((i : Int) = (l.length : Int)) := by omega
  have hf0 : (0 : Int) ≤ (i : Int) + 1 := by omega
  have hf1 : i ≤ l.length := by omega
  have hf2 : ¬ (G = i + 1) := by omega
  have hf3 : ¬ (G = i) := by omega
  have hf4 : (i : Int) ≤ (l.length : Int) + 1 := by omega
  have hf5 : ¬ (l.length = i) := by omega
  have hf6 : (i : Int) ≤ (l.length : Int) := by omega
  clear hkk hik hold hROW hG hRt
  go_enter Tryz.func150, Tryz.ntmps150
  go_wp2_with (first | (at_builtin; refine Lib.wpList_append_run _ rfl _ _ _ _ rfl _ _ rfl rfl _ _ (hrz _) ?_) | (at_builtin; refine wpList_copy_runI _ rfl _ _ 71 71 rfl _ _ rfl rfl (hcpA _ (by first | rfl | (rw [hW1]; rfl)) _ _) ?_))
  have hS0 := ((hx.alloc (.cells ROW 44)).drew).setRow w.heap.size c1.toArray hXw
  refine wp_region_ord (.f 0 (.f 1 (.f 2 (.f 3 (.f 4 (.f 5 (.f 6 (.f 7 (.a 8 .d))))))))) (Ext (X)) (by kernel_rfl) (by kernel_rfl) (by repeat (first | (with_reducible first | exact Ext.refl _ | exact Ext.same _ _ _ _ | assumption | apply Ext.alloc | apply Ext.ext | apply Ext.drew) | (with_reducible refine Ext.setCell ?_ _ _ ?_; rotate_left; focus (first | omega | (simp only [zs]; omega))) | (with_reducible refine Ext.trans ?_ (by assumption)))) ?_
  repeat ((first | refine wpOrd_pass rfl rfl ?_ | (refine wpOrd_free (v := ?_) rfl rfl (fun _ hS => ?_) ?_; rotate_left; focus (obtain ⟨E9, d9, rfl⟩ := hS; go_simp; try with_reducible rfl))); simp only [Act.put, zp])
  refine wpOrd_act rfl rfl (fun K hK => ?_)
  refine wp_copy_runI _ _ _ 71 71 rfl _ _ rfl rfl (hcpB _ (by rw [hW1]; rfl) _ _ _) ?_
  refine hK _ _ ⟨?_, ?_⟩
  · exact (hS0.drew).setRow _ _ hXw
  clear hK K
  try simp only [Act.put, zp]
  refine wpOrd_nil ?_
  go_wp2_with fail
  go_ret
  have hlen : (l.take i ++ r :: l.drop i).length = l.length + 1 := by simp; omega
  refine ⟨_, _, _, rfl, ⟨?_, .inr ⟨w.heap.size, G, _, by rw [hlen], hXw, setRow_heap _ _ _ _ _ _ (hgB _ (by rw [hW1]; rfl)), by omega, hG63, ?_, ?_⟩⟩, (hS0.drew).setRow _ _ hXw, gb_newRow (gb_drew' (gb_newRow (gb_drew' (gb_alloc w _ _)) _ _ (Nat.le_refl _))) _ _ (Nat.le_refl _)⟩
  · rw [plcs_length]
  · exact (List.size_toArray).trans (hr1.trans ((Array.length_toList).trans hRl))
  · rw [hlen]
    exact hr2
set_option maxRecDepth 100000 in
set_option maxHeartbeats 4000000 in
theorem InsertP_end (X : World) (A : Option Addr) (n c vb vc : Nat) (l : List Plc) (r : Plc) (hn : n = l.length) (hbig : n ≤ 100000) (w : World) (hx : Ext X w) (ho : OwnP X.heap.size w (.slice A n c) l) (hv : LaidP w vb r) :
    Calls Tryz.prog 150 #[.slice A n c, .int .i64 n, .slice (some ⟨vb, 0, none⟩) 1 vc] w fun e w' =>
      ∃ A' n' c', e = .returned (.slice A' n' c') ∧ OwnP X.heap.size w' (.slice A' n' c') (l ++ [r]) ∧ Ext X w' ∧ w.grownBy w' (A.map (·.block)) := by
  subst hn
  obtain ⟨i0, hi, hz0, hz1, hz2⟩ := info_parts info_plc
  have hown : w.ownsRow X.heap.size 44 2 (.slice A l.length c) l.length (l.flatMap encP) := ho
  have hXw : X.heap.size ≤ w.heap.size := hx.below.size
  have hnews : ∀ (j : Nat) (u : Value), (encP r)[j]? = some u → w.cell? ((⟨vb, 0, none⟩ : Addr).add j) = some u := fun j u hj => by
    rw [Addr.add_lit, Nat.zero_add]
    simp only [World.cell?, hv.at_, Option.isSome_none, Bool.false_eq_true, if_false]
    rw [← hj, List.getElem?_toArray]
  go_enter Tryz.func150, Tryz.ntmps150
  go_wp2_with (at_builtin; go_loud (refine wpList_append_own (P := Tryz.prog) _ rfl _ _ 71 rfl X.heap.size 44 i0 _ 2 16 Tryz.underlying71 hi hz0 hz1 hz2 rfl (by decide) (.slice A l.length c) l.length _ rfl hown ⟨vb, 0, none⟩ 1 vc (encP r) rfl rfl hnews (fun u hu => encP_one [r] u (by simpa using hu)) (by unfold maxLen; omega) (by omega) hXw (fun v1 w1 hown1 hgb1 _ => ?_)); obtain ⟨A1, c1, rfl, hc1, hs1⟩ := ownsRow_slice hown1; have Hown1 := hid hown1; have Hgb1 := hid hgb1; clear hown1 hgb1 hs1 hc1)
  all_goals
    go_ret
    have hgb := Hgb1.out
    have ho1 := Hown1.out
    refine ⟨_, _, _, rfl, ?_, Ext.of_below (hx.below.grown hgb hXw fun k hk => ?_), by cases A <;> exact hgb⟩
    · unfold OwnP
      simpa using ho1
    · rcases ho.2 with ⟨h0, _⟩ | ⟨g, cap, cur, hvl, hb, _⟩
      · simp only [Value.slice.injEq] at h0
        rw [h0.1] at hk
        cases hk
      · cases hvl
        cases hk
        exact hb
theorem InsertP_any (X : World) (A : Option Addr) (n c vb vc i : Nat) (l : List Plc) (r : Plc) (hn : n = l.length) (hbig : l.length ≤ 100000) (hi : i ≤ l.length) (w : World) (ho : OwnP X.heap.size w (.slice A n c) l) (hx : Ext X w) (hv : LaidP w vb r) (hne : ∀ a, A = some a → vb ≠ a.block) :
    Calls Tryz.prog 150 #[.slice A n c, .int .i64 i, .slice (some ⟨vb, 0, none⟩) 1 vc] w fun e w' =>
      ∃ A' n' c', e = .returned (.slice A' n' c') ∧ OwnP X.heap.size w' (.slice A' n' c') (l.take i ++ r :: l.drop i) ∧ Ext X w' ∧ w.grownBy w' (A.map (·.block)) := by
  by_cases h1 : i = n
  · subst h1
    refine (InsertP_end X A i c vb vc l r hn (by omega) w hx ho hv).mono fun e w' h => ?_
    rw [show l.take i ++ r :: l.drop i = l ++ [r] by rw [hn]; simp]
    exact h
  · by_cases h2 : n + 1 ≤ c
    · exact InsertP_room X A n c vb vc i l r hn (by omega) (by omega) h2 w hx ho hv hne
    · exact InsertP_grow X A n c vb vc i l r hn (by omega) (by omega) (by omega) w hx ho hv
end Go.Proofs.YtekjdeibnfaehaaGreat
