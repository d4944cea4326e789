/- All that offices offer each other is received: then they are equal. No program. -/
import Derived.Test.YtekjdeibnfaehaaGreatKAbd
import Derived.Test.YtekjdeibnfaehaaGreatKCaa
set_option linter.unusedSimpArgs false
set_option linter.unusedVariables false
namespace Go.Proofs.YtekjdeibnfaehaaGreat
open Go Go.RowKit

def sent1 (W : WD) (m : MsgD) : WD := ⟨upd W.off m.to.toNat (recvO (W.off m.to.toNat) m), W.way, 0⟩
def ackM (m : MsgD) : MsgD := ⟨m.to, m.fr, true, m.r⟩
def sent2 (W : WD) (m : MsgD) : WD := sent1 (sent1 W m) (ackM m)
def offer0 (W : WD) (f : Nat) (t : Int) : WD := ⟨upd W.off f (offerO (W.off f) t), W.way, 0⟩
def offeredW (W : WD) (f : Nat) (t : Int) : WD := (offerL (W.off f) t).foldl sent2 (offer0 W f t)
/-- What offices know stays known. -/
def KnGrows (W W' : WD) : Prop := ∀ q i x, x ∈ (W.off q).kn i → x ∈ (W'.off q).kn i
theorem KnGrows.trans {W W' W'' : WD} (h : KnGrows W W') (h' : KnGrows W' W'') : KnGrows W W'' := fun q i x hx => h' q i x (h q i x hx)
theorem kn_recv {O : OffD} {m : MsgD} (h0 : recvE O m = 0) : (recvO O m).kn = upd O.kn m.fr.toNat (learnL (O.kn m.fr.toNat) m.r.ao m.r.sq) := by
  rw [recvO, if_pos h0]
  split <;> rfl
theorem kn_sent {W : WD} {m : MsgD} (h0 : recvE (W.off m.to.toNat) m = 0) : KnGrows W (sent1 W m) ∧ ⟨m.r.ao, m.r.sq⟩ ∈ ((sent1 W m).off m.to.toNat).kn m.fr.toNat := by
  refine ⟨fun q i x hx => ?_, ?_⟩
  · unfold sent1
    simp only [upd]
    split
    · rename_i hq
      subst hq
      rw [kn_recv h0]
      simp only [upd]
      split
      · rename_i hi
        subst hi
        exact learnL_mem.2 (.inl hx)
      · exact hx
    · exact hx
  · unfold sent1
    simp only [upd_at]
    rw [kn_recv h0, upd_at]
    exact learnL_mem.2 (.inr rfl)
section
variable {n : Nat} {W : WD} {G : Gh}
theorem WI.send (h : WI n W G) (hn : n < 80) {m : MsgD} (hm : MsgI G m) (hack : m.ack = false) (hh : m.r ∈ G.l m.fr.toNat) :
    recvE (W.off m.to.toNat) m = 0 ∧ recvL (W.off m.to.toNat) m = [ackM m] ∧ recvE ((sent1 W m).off m.fr.toNat) (ackM m) = 0 ∧ ∃ G', WI n (sent2 W m) G' ∧ Grows G G' ∧ (∀ q : Nat, q ≠ m.to.toNat → ∀ x, x ∈ G'.l q ↔ x ∈ G.l q) ∧
      (∀ x ∈ G'.l m.to.toNat, x ∈ G.l m.to.toNat ∨ x = m.r) ∧ (∀ x ∈ G.l m.to.toNat, x ∈ G'.l m.to.toNat) ∧ m.r ∈ G'.l m.to.toNat ∧ KnGrows W (sent2 W m) ∧ ⟨m.r.ao, m.r.sq⟩ ∈ ((sent2 W m).off m.fr.toNat).kn m.to.toNat := by
  obtain ⟨_, _, h3, h4⟩ := h.recv hm
  have h0 := h3 hack hn
  obtain ⟨G1, g1, hM, hin, hq, hx, hsub, hW⟩ := h4 h0
  have t0 := hm.t0
  have t1 := hm.t1
  have f0 := hm.f0
  have f1 := hm.f1
  have hne := hm.ne
  have hL : recvL (W.off m.to.toNat) m = [ackM m] := by
    rw [recvL, if_pos ⟨h0, hack⟩, (h.o m.to.toNat (by omega)).me, Int.toNat_of_nonneg t0]
    rfl
  have hW1 : WI n (sent1 W m) G1 := hW W.way (fun x hx => .inl hx) 0
  have hA : MsgI G1 (ackM m) := hM _ (by rw [hL]; exact List.mem_singleton.2 rfl)
  have hfr : (sent1 W m).off m.fr.toNat = W.off m.fr.toNat := upd_ne _ _ (by omega)
  have hin1 := hin hack
  obtain ⟨_, _, _, k4⟩ := hW1.recv hA
  have hft : (ackM m).to.toNat = m.fr.toNat := rfl
  have hE : recvE ((sent1 W m).off m.fr.toNat) (ackM m) = 0 := by
    have I := hW1.o m.fr.toNat (by omega)
    have hhr : hasR ((sent1 W m).off m.fr.toNat).m.recs m.r.ao m.r.sq = true := hasR_in ((mem_recs I m.r).2 (by rw [hq _ (by omega)]; exact hh))
    rw [recvE, if_pos (I.ok (by omega)), if_pos ⟨by rw [I.me]; simp [ackM]; omega, inB_spec.2 (by simp [ackM]; omega), by rw [I.me]; simp [ackM]; omega⟩, if_pos (by rfl)]
    exact if_pos hhr
  rw [hft] at k4
  obtain ⟨G2, g2, _, _, q2, x2, s2, hW2⟩ := k4 hE
  have hK1 := (kn_sent h0).1
  have hK2 := kn_sent (W := sent1 W m) (m := ackM m) hE
  have hset : ∀ q : Nat, ∀ x, x ∈ G2.l q ↔ x ∈ G1.l q := by
    intro q x
    by_cases hqf : q = m.fr.toNat
    · subst hqf
      exact ⟨fun hx => (x2 x hx).resolve_right fun hc => (by cases hc.1), s2 x⟩
    · rw [q2 q hqf]
  refine ⟨h0, hL, hE, G2, hW2 (sent1 W m).way (fun x hx => .inl hx) 0, g1.trans g2, fun q hqt x => by rw [hset q x, hq q hqt], fun x hxx => (hx x ((hset _ x).1 hxx)).imp id And.right, fun x hxx => (hset _ x).2 (hsub x hxx), ?_, hK1.trans hK2.1, hK2.2⟩
  have := firm_sub hin1
  exact (hset _ _).2 this
/-- What holds while the messages of an offer are received. -/
structure Sent (W0 : WD) (G0 : Gh) (n : Nat) (f t : Nat) (done left : List MsgD) (W : WD) (G : Gh) : Prop where
  w : WI n W G
  g : Grows G0 G
  q : ∀ q : Nat, q ≠ t → ∀ x, x ∈ G.l q ↔ x ∈ G0.l q
  a : ∀ x ∈ G.l t, x ∈ G0.l t ∨ x ∈ G0.l f
  b : ∀ x ∈ G0.l t, x ∈ G.l t
  k : KnGrows W0 W
  m : ∀ m ∈ left, MsgI G m
  h : ∀ m ∈ done, m.r ∈ G.l t ∧ ⟨m.r.ao, m.r.sq⟩ ∈ (W.off f).kn t
structure FromTo (f t : Nat) (m : MsgD) : Prop where
  fr : m.fr = f
  to : m.to = t
  ack : m.ack = false
theorem Sent.next {W0 : WD} {G0 : Gh} {f t : Nat} {done left : List MsgD} {m : MsgD} (h : Sent W0 G0 n f t done (m :: left) W G) (hn : n < 80) (hft : f ≠ t) (hm : FromTo f t m) (hr : m.r ∈ G0.l f) :
    recvE (W.off t) m = 0 ∧ recvL (W.off t) m = [ackM m] ∧ recvE ((sent1 W m).off f) (ackM m) = 0 ∧ ∃ G', Sent W0 G0 n f t (done ++ [m]) left (sent2 W m) G' := by
  have e1 : m.fr.toNat = f := by rw [hm.fr]; rfl
  have e2 : m.to.toNat = t := by rw [hm.to]; rfl
  have hM := h.m m List.mem_cons_self
  have key := h.w.send hn hM hm.ack (by rw [e1]; exact (h.q f hft _).2 hr)
  rw [e1, e2] at key
  obtain ⟨h1, h2, h3, G', k1, k2, k3, k4, k5, k6, k7, k8⟩ := key
  refine ⟨h1, h2, h3, G', k1, h.g.trans k2, fun q hq x => (k3 q hq x).trans (h.q q hq x), fun x hx => ?_, fun x hx => k5 x (h.b x hx), h.k.trans k7, fun x hx => (h.m x (List.mem_cons_of_mem _ hx)).mono k2, fun x hx => ?_⟩
  · rcases k4 x hx with h | rfl
    · exact ‹Sent W0 G0 n f t done (m :: left) W G›.a x h
    · exact .inr hr
  · rcases List.mem_append.1 hx with hx | hx
    · exact ⟨k5 _ (h.h x hx).1, k7 _ _ _ (h.h x hx).2⟩
    · rw [List.mem_singleton] at hx
      subst hx
      exact ⟨k6, k8⟩
theorem Sent.all {W0 : WD} {G0 : Gh} {f t : Nat} (hn : n < 80) (hft : f ≠ t) : ∀ (left done : List MsgD) (W : WD) (G : Gh), Sent W0 G0 n f t done left W G → (∀ m ∈ left, FromTo f t m ∧ m.r ∈ G0.l f) → ∃ G', Sent W0 G0 n f t (done ++ left) [] (left.foldl sent2 W) G'
  | [], done, W, G, h, _ => ⟨G, by rw [List.append_nil]; exact h⟩
  | m :: left, done, W, G, h, hm => by
    obtain ⟨h1, h2⟩ := hm m List.mem_cons_self
    obtain ⟨_, _, _, G', h'⟩ := h.next hn hft h1 h2
    obtain ⟨G2, h''⟩ := Sent.all hn hft left (done ++ [m]) _ G' h' fun x hx => hm x (List.mem_cons_of_mem _ hx)
    exact ⟨G2, by rw [List.append_assoc] at h''; exact h''⟩
theorem WI.offer0 (h : WI n W G) {f t : Nat} (hf : f < 4) (ht : t < 4) (hft : f ≠ t) : offerE (W.off f) t = 0 ∧ (∀ m ∈ offerL (W.off f) t, FromTo f t m ∧ m.r ∈ G.l f) ∧ (∀ r ∈ G.l f, ⟨r.ao, r.sq⟩ ∈ (W.off f).kn t ∨ ∃ m ∈ offerL (W.off f) t, m.r = r) ∧ ∃ G', Sent W G n f t [] (offerL (W.off f) t) (offer0 W f t) G' := by
  have I := h.o f hf
  have h0 : offerE (W.off f) t = 0 := by rw [offerE, if_pos (I.ok hf), if_pos ⟨inB_spec.2 ⟨by omega, by omega⟩, by rw [I.me]; omega⟩]
  have hL : offerL (W.off f) t = ((W.off f).m.recs.filter fun r => !knowsB ((W.off f).kn t) r.ao r.sq).map fun r => ⟨(W.off f).me, t, false, r⟩ := by rw [offerL, if_pos h0]; rfl
  obtain ⟨_, _, h3⟩ := h.offer hf t (by omega) (by omega)
  obtain ⟨G', g, hl, hM, hW⟩ := h3 h0
  refine ⟨h0, fun m hm => ?_, fun r hr => ?_, G', hW W.way (fun x hx => .inl hx) 0, g, fun q _ x => by rw [hl], fun x hx => .inl (by rw [← hl]; exact hx), fun x hx => by rw [hl]; exact hx, fun q i x hx => ?_, hM, fun m hm => absurd hm List.not_mem_nil⟩
  · rw [hL] at hm
    obtain ⟨r, hr, rfl⟩ := List.mem_map.1 hm
    exact ⟨⟨I.me, rfl, rfl⟩, (mem_recs I r).1 ((List.mem_filter.1 hr).1)⟩
  · cases hk : knowsB ((W.off f).kn t) r.ao r.sq with
    | true => exact .inl (knowsB_iff.1 hk)
    | false =>
      refine .inr ⟨⟨(W.off f).me, t, false, r⟩, ?_, rfl⟩
      rw [hL]
      exact List.mem_map.2 ⟨r, List.mem_filter.2 ⟨(mem_recs I r).2 hr, by rw [hk]; rfl⟩, rfl⟩
  · unfold Go.Proofs.YtekjdeibnfaehaaGreat.offer0
    simp only [upd]
    split
    · rename_i hq
      subst hq
      rw [offerO, if_pos h0]
      exact hx
    · exact hx
/-- One office has received all that another one offers. -/
theorem WI.offered (h : WI n W G) (hn : n < 80) {f t : Nat} (hf : f < 4) (ht : t < 4) (hft : f ≠ t) : ∃ G', WI n (offeredW W f t) G' ∧ (∀ q : Nat, q ≠ t → ∀ x, x ∈ G'.l q ↔ x ∈ G.l q) ∧ (∀ x, x ∈ G'.l t ↔ x ∈ G.l t ∨ x ∈ G.l f) ∧ KnGrows W (offeredW W f t) ∧ ∀ r ∈ G.l f, ⟨r.ao, r.sq⟩ ∈ ((offeredW W f t).off f).kn t := by
  obtain ⟨h0, h1, h2, G1, hS⟩ := h.offer0 hf ht hft
  obtain ⟨G', hE⟩ := Sent.all hn hft _ _ _ _ hS h1
  rw [List.nil_append] at hE
  refine ⟨G', hE.w, hE.q, fun x => ⟨hE.a x, fun hx => ?_⟩, hE.k, fun r hr => ?_⟩
  · rcases hx with hx | hx
    · exact hE.b x hx
    · rcases h2 x hx with hk | ⟨m, hm, rfl⟩
      · obtain ⟨r, hr, e1, e2⟩ := (h.o f hf).kn t (by omega) _ hk
        have hr2 := firm_sub hr
        rw [Int.toNat_natCast] at hr2
        have hrt := hE.b r hr2
        have hrf : r ∈ firmL G' t := hE.g _ _ hr
        obtain ⟨a0, a1, a2⟩ := (hE.w.o t ht).ho r hrt
        have hfx : x ∈ G'.l f := (hE.q f hft x).2 hx
        obtain ⟨b0, b1, b2⟩ := (hE.w.o f hf).ho x hfx
        have : r = x := by
          rcases a2 with a2 | a2
          · exact (hE.w.agree hf hfx (by rw [a2]; exact hrf) e1.symm e2.symm).symm
          · exact (hE.w.agree hf hfx a2 e1.symm e2.symm).symm
        rw [← this]
        exact hrt
      · exact (hE.h m hm).1
  · rcases h2 r hr with hk | ⟨m, hm, rfl⟩
    · exact hE.k _ _ _ hk
    · exact (hE.h m hm).2
/-- The rounds of RegisterEqual: from k % 4 to k / 4 % 4. -/
def roundW (W : WD) (k : Nat) : WD := if k % 4 = k / 4 % 4 then W else offeredW W (k % 4) ((k / 4 % 4 : Nat) : Int)
structure Rnd (G0 : Gh) (n k : Nat) (W : WD) (G : Gh) : Prop where
  w : WI n W G
  a : ∀ p, p < 4 → ∀ x ∈ G0.l p, x ∈ G.l p
  b : ∀ p, p < 4 → ∀ x ∈ G.l p, ∃ q, q < 4 ∧ x ∈ G0.l q
  c : ∀ f, f < 4 → f + 1 ≤ k → ∀ x ∈ G0.l f, x ∈ G.l 0
  d : ∀ t, 1 ≤ t → t < 4 → 4 * t + 1 ≤ k → ∀ q, q < 4 → ∀ x ∈ G0.l q, x ∈ G.l t
  e : ∀ f t, f < 4 → t < 4 → f ≠ t → 16 + 4 * t + f < k → ∀ q, q < 4 → ∀ x ∈ G0.l q, ⟨x.ao, x.sq⟩ ∈ (W.off f).kn t
theorem Rnd.begin (h : WI n W G) : Rnd G n 0 W G := ⟨h, fun _ _ _ hx => hx, fun p hp x hx => ⟨p, hp, hx⟩, fun _ _ hk => by omega, fun _ _ _ hk => by omega, fun _ _ _ _ _ hk => by omega⟩
theorem Rnd.full {G0 : Gh} {k : Nat} (h : Rnd G0 n k W G) (hk : 16 ≤ k) : ∀ p, p < 4 → ∀ q, q < 4 → ∀ x ∈ G0.l q, x ∈ G.l p := by
  intro p hp q hq x hx
  rcases Nat.eq_zero_or_pos p with rfl | h0
  · exact h.c q hq (by omega) x hx
  · exact h.d p h0 hp (by omega) q hq x hx
theorem Rnd.next {G0 : Gh} {k : Nat} (h : Rnd G0 n k W G) (hn : n < 80) (hk : k < 32) : ∃ G', Rnd G0 n (k + 1) (roundW W k) G' := by
  obtain ⟨f, hf⟩ : ∃ f, k % 4 = f := ⟨_, rfl⟩
  obtain ⟨t, ht⟩ : ∃ t, k / 4 % 4 = t := ⟨_, rfl⟩
  have hf4 : f < 4 := by omega
  have ht4 : t < 4 := by omega
  rw [roundW, hf, ht]
  by_cases hft : f = t
  · rw [if_pos hft]
    refine ⟨G, h.w, h.a, h.b, fun f' h1 h2 x hx => ?_, fun t' h1 h2 h3 => h.d t' h1 h2 ?_, fun f' t' h1 h2 h3 h4 => h.e f' t' h1 h2 h3 ?_⟩
    by_cases hk0 : k = f'
    · have e0 : k / 4 = 0 := by omega
      have e1 : t = 0 := by rw [← ht, e0]
      obtain rfl : f' = 0 := by omega
      exact h.a 0 (by omega) x hx
    · exact h.c f' h1 (by omega) x hx
    · by_cases hk0 : k = 4 * t'
      · have e1 : f = 0 := by omega
        have e2 : t = t' := by omega
        omega
      · omega
    · by_cases hk0 : k = 16 + 4 * t' + f'
      · have e1 : f = f' := by omega
        have e2 : t = t' := by omega
        omega
      · omega
  · rw [if_neg hft]
    obtain ⟨G', h1, h2, h3, h4, h5⟩ := h.w.offered hn hf4 ht4 hft
    have up : ∀ p, ∀ x ∈ G.l p, x ∈ G'.l p := by
      intro p x hx
      by_cases hp : p = t
      · subst hp; exact (h3 x).2 (.inl hx)
      · exact (h2 p hp x).2 hx
    refine ⟨G', h1, fun p hp x hx => up p x (h.a p hp x hx), fun p hp x hx => ?_, fun f' g1 g2 x hx => ?_, fun t' g1 g2 g3 q hq x hx => ?_, fun f' t' g1 g2 g3 g4 q hq x hx => ?_⟩
    · by_cases hp' : p = t
      · subst hp'
        rcases (h3 x).1 hx with hx | hx
        · exact h.b _ hp x hx
        · exact h.b _ hf4 x hx
      · exact h.b p hp x ((h2 p hp' x).1 hx)
    · by_cases hk0 : k = f'
      · obtain rfl : t = 0 := by omega
        obtain rfl : f = f' := by omega
        exact (h3 x).2 (.inr (h.a f g1 x hx))
      · exact up 0 x (h.c f' g1 (by omega) x hx)
    · by_cases hk0 : k = 4 * t'
      · obtain rfl : t = t' := by omega
        obtain rfl : f = 0 := by omega
        exact (h3 x).2 (.inr (h.c q hq (by omega) x hx))
      · exact up t' x (h.d t' g1 g2 (by omega) q hq x hx)
    · by_cases hk0 : k = 16 + 4 * t' + f'
      · obtain rfl : t = t' := by omega
        obtain rfl : f = f' := by omega
        exact h5 x (h.full (by omega) f hf4 q hq x hx)
      · exact h4 _ _ _ (h.e f' t' g1 g2 g3 (by omega) q hq x hx)
theorem Rnd.equal {G0 : Gh} {k : Nat} (h : Rnd G0 n k W G) (hk : 16 ≤ k) {p : Nat} (hp : p < 4) : (W.off p).m.recs = (W.off 0).m.recs := by
  have I := h.w.o p hp
  have J := h.w.o 0 (by omega)
  have nd : ∀ {l : List Rec}, Sorted l → l.Nodup := fun hs => (sorted_apart hs).imp fun hab he => hab ⟨by rw [he], by rw [he]⟩
  refine sorted_perm I.sorted J.sorted ((List.perm_ext_iff_of_nodup (nd I.sorted) (nd J.sorted)).2 fun x => ?_)
  rw [mem_recs I, mem_recs J]
  constructor
  · intro hx
    obtain ⟨q, hq, hx⟩ := h.b p hp x hx
    exact h.full hk 0 (by omega) q hq x hx
  · intro hx
    obtain ⟨q, hq, hx⟩ := h.b 0 (by omega) x hx
    exact h.full hk p hp q hq x hx
theorem Rnd.nothing {G0 : Gh} (h : Rnd G0 n 32 W G) {p t : Nat} (hp : p < 4) (ht : t < 4) (hpt : p ≠ t) : offerE (W.off p) t = 0 ∧ offerL (W.off p) t = [] := by
  have I := h.w.o p hp
  have h0 : offerE (W.off p) t = 0 := by rw [offerE, if_pos (I.ok hp), if_pos ⟨inB_spec.2 ⟨by omega, by omega⟩, by rw [I.me]; omega⟩]
  refine ⟨h0, ?_⟩
  rw [offerL, if_pos h0, List.map_eq_nil_iff, List.filter_eq_nil_iff]
  intro r hr
  obtain ⟨q, hq, hx⟩ := h.b p hp r ((mem_recs I r).1 hr)
  have := h.e p t hp ht hpt (by omega) q hq r hx
  rw [Int.toNat_natCast, knowsB_iff.2 this]
  simp
end
end Go.Proofs.YtekjdeibnfaehaaGreat
