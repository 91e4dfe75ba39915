/- PostPlays: the walk. -/
import Derived.Test.YtcjmapljcnmfaaaPostDt
import Derived.Deep.DeepCutAuto
import Derived.Deep.CutBlock
namespace Go.Proofs.Ytcjmapljcnmfaaa
open Go.RowKit
set_option linter.unusedVariables false
/-- What the law has made so far: the two Posts, nothing of old memory turned. -/
structure Made2 (W w : World) (g gx : Nat) (F Fx : Nat → Prop) (s : Mails) (rs : List (List Int × Int)) (now : Int) : Prop where
  b : Both w g gx F Fx s rs now
  n : New W w
  f : ∀ q, (F q ∨ Fx q) → W.heap.size ≤ q
theorem Made2.keepN {W w w' : World} {g gx : Nat} {F Fx : Nat → Prop} {s : Mails} {rs : List (List Int × Int)} {now : Int} (h : Made2 W w g gx F Fx s rs now) (hn : New w w') : Made2 W w' g gx F Fx s rs now :=
  ⟨h.b.keepN hn, h.n.transNew hn, h.f⟩
theorem Made2.does {W w w' : World} {g gx n B K : Nat} {F Fx : Nat → Prop} {s : Mails} {rs : List (List Int × Int)} {now : Int} {e : Ending} (h : Made2 W w g gx F Fx s rs now) (hd : IsDone n B K g gx F Fx w e w') :
    e = .returned (.bool true) ∧ ∃ F' Fx' s' rs' now', Made2 W w' g gx F' Fx' s' rs' now' ∧ Bd n B K s' rs' now' := by
  obtain ⟨s', rs', now', ⟨he, F', Fx', hb, hu, hf⟩, hbd⟩ := hd
  refine ⟨he, F', Fx', s', rs', now', ⟨hb, h.n.trans hu fun i hi hq => ?_, fun q hq => ?_⟩, hbd⟩
  · have := h.f i hq; omega
  · rcases hf q hq with h1 | h1
    · exact h.f q h1
    · have := h.n.size; omega
theorem Made2.old {W w : World} {g gx : Nat} {F Fx : Nat → Prop} {s : Mails} {rs : List (List Int × Int)} {now : Int} (h : Made2 W w g gx F Fx s rs now) {size n : Nat} {v : Value} {xs : List Value} (hr : RowAt W size v n xs) :
    0 < n → ∀ q off c, v = .slice (some ⟨q, off, none⟩) n c → ¬ (F q ∨ Fx q) := by
  intro hn q off c hv hq
  rcases hr.2 with ⟨h0, _⟩ | ⟨b, off', c', hv', _, _, hb, _⟩
  · omega
  · rw [hv'] at hv
    injection hv with hv _ _
    injection hv with hv
    injection hv with hv _ _
    subst hv
    have := h.f b hq
    omega
/-- A copy goes on in the Post's place; the old one is played with. -/
theorem Made2.copy {W w w1 w2 w3 w4 : World} {g gx g2 : Nat} {F Fx F2 F1 : Nat → Prop} {s : Mails} {rs : List (List Int × Int)} {now : Int} (h : Made2 W w g gx F Fx s rs now)
    (hp : PostAt w1 g2 F2 s rs now) (hf2 : ∀ q, F2 q → w.heap.size ≤ q) (hn : New w w1) (u2 : Upd F w1 w2) (f1 : ∀ q, F1 q → F q ∨ w1.heap.size ≤ q) (u3 : Upd F1 w2 w3) (u4 : Upd F1 w3 w4) :
    Made2 W w4 g2 gx F2 Fx s rs now := by
  have hF : ∀ q, F q → q < w.heap.size := h.b.p.2
  have hFx : ∀ q, Fx q → q < w.heap.size := h.b.x.2
  have hw1 := hn.size
  have d1 : ∀ q, F2 q → ¬ F q := fun q a b => by have := hf2 q a; have := hF q b; omega
  have d2 : ∀ q, F2 q → ¬ F1 q := fun q a b => by
    rcases f1 q b with h1 | h1
    · exact d1 q a h1
    · have := hp.2 q a; omega
  have d3 : ∀ q, Fx q → ¬ F1 q := fun q a b => by
    rcases f1 q b with h1 | h1
    · exact h.b.d q h1 a
    · have := hFx q a; omega
  have hFW : ∀ i, i < W.heap.size → F i → False := fun i hi hq => by have := h.f i (.inl hq); omega
  have hF1W : ∀ i, i < W.heap.size → F1 i → False := fun i hi hq => by
    rcases f1 i hq with h1 | h1
    · exact hFW i hi h1
    · have := h.n.size; omega
  exact ⟨⟨((hp.keep u2 d1).keep u3 d2).keep u4 d2, (((h.b.x.keepN hn).keep u2 (fun q a b => h.b.d q b a)).keep u3 d3).keep u4 d3, fun q a b => by have := hf2 q a; have := hFx q b; omega⟩,
    (((h.n.transNew hn).trans u2 hFW).trans u3 hF1W).trans u4 hF1W,
    fun q hq => by
      rcases hq with hq | hq
      · have := hf2 q hq; have := h.n.size; omega
      · exact h.f q (.inr hq)⟩
set_option maxHeartbeats 6400000 in
set_option maxRecDepth 100000 in
theorem plays_walk (ag : Int) (lv : Value) (l : List OpV) (W : World) (hl : OpsAt W lv l) (hok : ∀ o ∈ l, OpOk o) :
    Calls Try.prog 6 #[.int .i64 ag, lv] W fun e w' => e = .returned (.bool true) ∧ New W w' := by
  obtain ⟨A, c, rfl⟩ := hl.form
  have hmax : (l.length : Int) ≤ 9223372036854775807 := by
    rcases hl with ⟨rfl, _⟩ | ⟨_, _, c', _, hc, hm, _⟩
    · simp
    · unfold maxLen at hm; omega
  go_enter Try.func6, Try.ntmps6
  go_wp2_with (go_at_call 7; refine (first_any _).mono ?_; rintro e w1 ⟨rfl, hn1⟩)
  by_cases hag : 1 ≤ ag ∧ ag ≤ 64
  · obtain ⟨n, rfl⟩ := Int.eq_ofNat_of_zero_le (show 0 ≤ ag by omega)
    have hn64 : n ≤ 64 := by omega
    refine (new_yes n w1 (by omega) (by omega)).mono ?_
    rintro e w2 ⟨g, F, rfl, hp2, hF2, hn2⟩
    go_wp2_with fail
    refine (R.new_yes n w2 (by omega) (by omega)).mono ?_
    rintro e w3 ⟨gx, Fx, rfl, hx3, hFx3, hn3⟩
    have hM : Made2 W w3 g gx F Fx (List.replicate n []) [] 0 := ⟨⟨hp2.keepN hn3, hx3, fun q a b => by have := hp2.2 q a; have := hFx3 q b; omega⟩, (hn1.transNew hn2).transNew hn3, fun q hq => by
      rcases hq with hq | hq
      · exact Nat.le_trans hn1.size (hF2 q hq)
      · exact Nat.le_trans (hn1.transNew hn2).size (hFx3 q hq)⟩
    clear hp2 hF2 hn2 hx3 hFx3 hn3
    by_cases hf : fewB l = true
    · have HM := hide hM
      clear hM
      go_wp2_with (go_at_call 9; refine (few_any _ l _ (hl.new_ HM.out.n)).mono ?_; rintro e w4 ⟨rfl, hn4⟩; rw [hf]; have H4 := hide hn4; clear hn4)
      obtain ⟨hl200, hl20k⟩ := few_to hf
      have hM4 := HM.out.keepN H4.out
      have Hl20k := hide hl20k
      have Hok := hide hok
      have Hl := hide hl
      have Hf := hide hf
      clear hl20k hf hok hl hn1 HM H4
      go_loopw [5, 9] (fun p i wr => ∃ (k g : Nat) (F Fx : Nat → Prop) (s : Mails) (rs : List (List Int × Int)) (now : Int), k ≤ l.length ∧ i = .int .i64 k ∧ p = .pointer (some ⟨g, 0, none⟩) ∧ Made2 W wr g gx F Fx s rs now ∧ Bd n (fewN (l.take k)) k s rs now) (fun _ i _ => l.length - (intOf i).toNat)
      case atStart => exact ⟨0, g, F, Fx, _, _, _, by omega, rfl, rfl, hM4, ⟨by simp, fun x hx => by rw [(List.mem_replicate.1 hx).2]; simp, by simp, fun r hr => by simp at hr, by omega, by omega⟩⟩
      case round =>
        clear hM4
        obtain ⟨k, g, F, Fx, s, rs, now, hk, rfl, rfl, hMr, hbd⟩ := hrel
        by_cases hlt1 : k < l.length
        · obtain ⟨b, off, rfl, hc, hm, hb, hopW⟩ := Hl.out.at_ hlt1
          have hmem := List.getElem_mem hlt1
          have hsucc := fewN_succ l k hlt1
          have hmono := fewN_mono l k
          have hmono1 := fewN_mono l (k + 1)
          obtain ⟨o, ho⟩ : ∃ o, o = l[k] := ⟨_, rfl⟩
          rw [← ho] at hopW hmem hsucc
          have hwt := wt_le Hl20k.out hmem
          have hto := to_le hwt
          have hf20 := Hl20k.out
          have hto1 : o.to.length ≤ 20000 := by omega
          have htx1 : o.text.length ≤ 20000 := by omega
          have hB1 : fewN (l.take k) + o.to.length ≤ fewN (l.take (k + 1)) := by omega
          have hB2 : fewN (l.take k) ≤ 20000 := by omega
          have hB3 : fewN (l.take (k + 1)) ≤ 20000 := by omega
          have hokO := Hok.out o hmem
          have hklt : k < 200 := by omega
          have Hopn := hide (And.intro hopW (And.intro hokO (And.intro hto1 (And.intro htx1 (And.intro hB1 (And.intro hB2 hB3))))))
          have hnext : ∀ (s' : Mails) (rs' : List (List Int × Int)) (now' : Int), Bd n (fewN (l.take k) + o.to.length) (k + 1) s' rs' now' → Bd n (fewN (l.take (k + 1))) (k + 1) s' rs' now' :=
            fun _ _ _ h => ⟨h.n, fun x hx => by have := h.l x hx; omega, h.k, h.t, h.lo, h.hi⟩
          have Hnext := hide hnext
          have hbl : b < W.heap.size := hb
          have hki : (k : Int) < (l.length : Int) := by omega
          have hk0 : (0 : Int) ≤ (k : Int) := by omega
          have hcl : (l.length : Int) ≤ (c : Int) ∧ (c : Int) ≤ 9223372036854775807 := by unfold maxLen at hm; omega
          obtain ⟨hcl1, hcl2⟩ := hcl
          have hop := hopW.new_ hMr.n hb
          have c0 := hop.c0
          have HM := hide (And.intro hMr hbd)
          clear hmem hsucc hmono hmono1 ho hwt hto hf20 hto1 htx1 hB1 hB2 hB3 hokO hnext hopW hMr hbd hc hm
          have body : ∀ (g : Nat) (F : Nat → Prop) (wc : World), Made2 W wc g gx F Fx s rs now → Bd n (fewN (l.take k)) k s rs now →
              Calls Try.prog 22 #[.pointer (some ⟨g, 0, none⟩), .pointer (some ⟨gx, 0, none⟩), opAgg o] wc (fun e w' => e = .returned (.bool true) ∧ ∃ F' Fx' s' rs' now', Made2 W w' g gx F' Fx' s' rs' now' ∧ Bd n (fewN (l.take (k + 1))) (k + 1) s' rs' now') := by
            intro g F wc hMc hbdc
            obtain ⟨hopW, hokO, hto1, htx1, hB1, hB2, hB3⟩ := Hopn.out
            have hopc := hopW.new_ hMc.n hbl
            refine (does_any g gx F Fx s rs now o wc hMc.b n _ k hbdc hn64 (by omega) (by omega) hokO hto1 htx1 hopc.to hopc.text (hMc.old hopW.to) (hMc.old hopW.text)).mono fun e w' h => ?_
            obtain ⟨he, F', Fx', s', rs', now', hM', hbd'⟩ := hMc.does h
            exact ⟨he, F', Fx', s', rs', now', hM', Hnext.out _ _ _ hbd'⟩
          have Body := hide body
          clear body
          by_cases hkd : o.kind < 0 ∨ 5 < o.kind
          · have hn1' : 1 ≤ n := by omega
            by_cases hkn : o.kind < 0
            · clear hkd
              obtain ⟨c0, c1, c2, c3, c4, c5, c6, c7, _, _⟩ := hop
              go_wp2_with (first
                | (go_at_call 21
                   refine (copy_any g F s rs now wr HM.out.1.b.p (by rw [HM.out.2.n]; omega) (by rw [HM.out.2.n]; exact hn64) (fun x hx => by have h1 := HM.out.2.l x hx; have h2 := Hopn.out.2.2.2.2.2.1; omega) (by have := HM.out.2.k; omega) (fun r hr => by have := HM.out.2.t r hr; omega)).mono ?_
                   rintro e w1 ⟨g2, F2, rfl, hp2, hf2, hn2⟩
                   have HC := hide (And.intro hp2 (And.intro hf2 hn2))
                   clear hp2 hf2 hn2)
                | (go_at_call 16
                   refine (say_any g F s rs now (.slice none 0 0) [] 99 w1 (HM.out.1.b.p.keepN HC.out.2.2) (RowAt.nil0 w1 1 none 0) (by simp) (by have := HM.out.2.k; omega)).mono ?_
                   rintro e w2 ⟨rfl, F1, hp1, hu1, hf1⟩
                   have HS := hide (And.intro hp1 (And.intro hu1 hf1))
                   clear hp1 hu1 hf1)
                | (go_at_call 15
                   refine (tick_any g F1 s _ now 7 w2 HS.out.1 HM.out.2.lo HM.out.2.hi (by omega)).mono ?_
                   rintro e w3 ⟨rfl, hp3, hu3⟩
                   have HT := hide (And.intro hp3 hu3)
                   clear hp3 hu3)
                | (go_at_call 19
                   refine (drop_any g F1 s _ _ 0 w3 HT.out.1).mono ?_
                   rintro e w4 ⟨rfl, hp4, hu4⟩
                   have hMc := HM.out.1.copy HC.out.1 HC.out.2.1 HC.out.2.2 HS.out.2.1 HS.out.2.2 HT.out.2 hu4
                   obtain ⟨d0, d1, d2, d3, d4, d5, d6, d7, _, _⟩ := Hopn.out.1.new_ hMc.n hbl
                   have Hc := hide hMc
                   clear hMc hp4 hu4)
                | (go_at_call 22
                   refine (Body.out g2 F2 w4 Hc.out HM.out.2).mono ?_
                   rintro e w5 ⟨rfl, F5, Fx5, s5, rs5, now5, hM5, hbd5⟩
                   have H5 := hide (And.intro hM5 hbd5)
                   clear hM5 hbd5)
                | (go_at_call 23
                   refine (same_any g2 gx F5 Fx5 s5 rs5 now5 w5 H5.out.1.b.p H5.out.1.b.x (fun x hx => by have h1 := H5.out.2.l x hx; have h2 := Hopn.out.2.2.2.2.2.2; omega) (by rw [H5.out.2.n]; exact hn64) (by have := H5.out.2.k; omega) (fun r hr => by have := H5.out.2.t r hr; omega)).mono ?_
                   rintro e w6 ⟨rfl, hn6⟩
                   have H6 := hide hn6
                   clear hn6))
              go_roundw
              case rel => exact ⟨k + 1, g2, F5, Fx5, s5, rs5, now5, by omega, by go_num, rfl, H5.out.1.keepN H6.out, H5.out.2⟩
              case measure => simp [intOf]; omega
            · have hkp : 5 < o.kind := by omega
              clear hkd
              obtain ⟨c0, c1, c2, c3, c4, c5, c6, c7, _, _⟩ := hop
              go_wp2_with (first
                | (go_at_call 21
                   refine (copy_any g F s rs now wr HM.out.1.b.p (by rw [HM.out.2.n]; omega) (by rw [HM.out.2.n]; exact hn64) (fun x hx => by have h1 := HM.out.2.l x hx; have h2 := Hopn.out.2.2.2.2.2.1; omega) (by have := HM.out.2.k; omega) (fun r hr => by have := HM.out.2.t r hr; omega)).mono ?_
                   rintro e w1 ⟨g2, F2, rfl, hp2, hf2, hn2⟩
                   have HC := hide (And.intro hp2 (And.intro hf2 hn2))
                   clear hp2 hf2 hn2)
                | (go_at_call 16
                   refine (say_any g F s rs now (.slice none 0 0) [] 99 w1 (HM.out.1.b.p.keepN HC.out.2.2) (RowAt.nil0 w1 1 none 0) (by simp) (by have := HM.out.2.k; omega)).mono ?_
                   rintro e w2 ⟨rfl, F1, hp1, hu1, hf1⟩
                   have HS := hide (And.intro hp1 (And.intro hu1 hf1))
                   clear hp1 hu1 hf1)
                | (go_at_call 15
                   refine (tick_any g F1 s _ now 7 w2 HS.out.1 HM.out.2.lo HM.out.2.hi (by omega)).mono ?_
                   rintro e w3 ⟨rfl, hp3, hu3⟩
                   have HT := hide (And.intro hp3 hu3)
                   clear hp3 hu3)
                | (go_at_call 19
                   refine (drop_any g F1 s _ _ 0 w3 HT.out.1).mono ?_
                   rintro e w4 ⟨rfl, hp4, hu4⟩
                   have hMc := HM.out.1.copy HC.out.1 HC.out.2.1 HC.out.2.2 HS.out.2.1 HS.out.2.2 HT.out.2 hu4
                   obtain ⟨d0, d1, d2, d3, d4, d5, d6, d7, _, _⟩ := Hopn.out.1.new_ hMc.n hbl
                   have Hc := hide hMc
                   clear hMc hp4 hu4)
                | (go_at_call 22
                   refine (Body.out g2 F2 w4 Hc.out HM.out.2).mono ?_
                   rintro e w5 ⟨rfl, F5, Fx5, s5, rs5, now5, hM5, hbd5⟩
                   have H5 := hide (And.intro hM5 hbd5)
                   clear hM5 hbd5)
                | (go_at_call 23
                   refine (same_any g2 gx F5 Fx5 s5 rs5 now5 w5 H5.out.1.b.p H5.out.1.b.x (fun x hx => by have h1 := H5.out.2.l x hx; have h2 := Hopn.out.2.2.2.2.2.2; omega) (by rw [H5.out.2.n]; exact hn64) (by have := H5.out.2.k; omega) (fun r hr => by have := H5.out.2.t r hr; omega)).mono ?_
                   rintro e w6 ⟨rfl, hn6⟩
                   have H6 := hide hn6
                   clear hn6))
              go_roundw
              case rel => exact ⟨k + 1, g2, F5, Fx5, s5, rs5, now5, by omega, by go_num, rfl, H5.out.1.keepN H6.out, H5.out.2⟩
              case measure => simp [intOf]; omega
          · have hkd1 : ¬ o.kind < 0 := by omega
            have hkd2 : ¬ 5 < o.kind := by omega
            have hcc := hop
            obtain ⟨c0, c1, c2, c3, c4, c5, c6, c7, _, _⟩ := hop
            clear hkd
            go_wp2_with (first
              | (go_at_call 22
                 refine (Body.out g F wr HM.out.1 HM.out.2).mono ?_
                 rintro e w5 ⟨rfl, F5, Fx5, s5, rs5, now5, hM5, hbd5⟩
                 have H5 := hide (And.intro hM5 hbd5)
                 clear hM5 hbd5)
              | (go_at_call 23
                 refine (same_any g gx F5 Fx5 s5 rs5 now5 w5 H5.out.1.b.p H5.out.1.b.x (fun x hx => by have h1 := H5.out.2.l x hx; have h2 := Hopn.out.2.2.2.2.2.2; omega) (by rw [H5.out.2.n]; exact hn64) (by have := H5.out.2.k; omega) (fun r hr => by have := H5.out.2.t r hr; omega)).mono ?_
                 rintro e w6 ⟨rfl, hn6⟩
                 have H6 := hide hn6
                 clear hn6))
            go_roundw
            case rel => exact ⟨k + 1, g, F5, Fx5, s5, rs5, now5, by omega, by go_num, rfl, H5.out.1.keepN H6.out, H5.out.2⟩
            case measure => simp [intOf]; omega
        · have hk' : k = l.length := by omega
          subst hk'
          have HM := hide hMr
          clear hlt1 hMr hbd
          go_wp2_with (go_at_call 7; refine (first_any _).mono ?_; rintro e w5 ⟨rfl, hn5⟩)
          go_ret
          exact ⟨rfl, HM.out.n.transNew hn5⟩
    · have hf' : fewB l = false := by simpa using hf
      have HM := hide hM
      clear hM hf
      go_wp2_with (first
        | (go_at_call 9; refine (few_any _ l _ (hl.new_ HM.out.n)).mono ?_; rintro e w4 ⟨rfl, hn4⟩; rw [hf'])
        | (go_at_call 7; refine (first_any _).mono ?_; rintro e w5 ⟨rfl, hn5⟩))
      go_ret
      exact ⟨rfl, (HM.out.n.transNew hn4).transNew hn5⟩
  · refine (new_no ag w1 (by omega)).mono ?_
    rintro e w2 ⟨rfl, rfl⟩
    go_wp2_with (first
      | (go_at_call 20; refine (R.new_no ag w1 (by omega)).mono ?_; rintro e w3 ⟨rfl, rfl⟩)
      | (go_at_call 7; refine (first_any _).mono ?_; rintro e w3 ⟨rfl, hn3⟩))
    go_ret
    exact ⟨rfl, hn1.transNew hn3⟩
end Go.Proofs.Ytcjmapljcnmfaaa
