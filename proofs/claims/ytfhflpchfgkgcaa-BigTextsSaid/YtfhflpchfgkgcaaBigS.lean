/- Text. -/
import Derived.Test.YtfhflpchfgkgcaaBigR
namespace Go.Proofs.Ytfhflpchfgkgcaa
open Go.RowKit
theorem or_word {r x : Nat} (hx : x < 4294967296) : (r * 4294967296) ||| x = r * 4294967296 + x := by
  have e : 4294967296 = 2 ^ 32 := by decide
  have hx' : x < 2 ^ 32 := by omega
  have h := Nat.two_pow_add_eq_or_of_lt hx' r
  rw [Nat.mul_comm, e, ← h]
def IsText (xs : List Int) (w : World) (e : Ending) (w' : World) : Prop := e = .returned (.string (strOfNums xs)) ∧ New w w'
theorem textI_pos {z : Int} (h : z ≠ 0) : textI z = ((digs z.natAbs).map letter ++ (if z < 0 then [45] else [])).reverse := by
  rw [textI, if_neg h]
  split <;> simp
set_option maxHeartbeats 6400000 in
theorem text_any (x : Value) (z : Int) (w : World) (hx : BigAt w x z) : Calls Try.prog 18 #[x] w (IsText (textI z) w) := by
  obtain ⟨bx, Ax, nx, cx, rfl⟩ := hx.form
  obtain ⟨w1, hw1⟩ : ∃ w1, w1 = w.alloc (.cells #[.bool bx, .slice Ax nx cx] 24) := ⟨_, rfl⟩
  have hn1 : New w w1 := by rw [hw1]; exact (Upd.refl _ _).alloc _
  have hb1 : Blk w1 w.heap.size 24 [.bool bx, .slice Ax nx cx] := by rw [hw1]; exact Blk.new w _ _
  have hz := hx.new_ hn1
  have hzl := hx.lt
  have Hw := hide hw1
  clear hw1
  go_enter Try.func18, Try.ntmps18
  go_wp2_with fail
  rw [← Hw.out]
  refine (mag_any _ z _ hz).mono ?_
  rintro e w2 ⟨A, n, c, rfl, hl, ho, hm2⟩
  have hn2 := hn1.transNew hm2
  have hb2 := hb1.new_ hm2
  have hz2 := hz.new_ hm2
  have hsz : w.heap.size ≤ w1.heap.size := hn1.size
  have ho2 := ho.more hsz
  clear hn1 hb1 hz hm2 ho
  obtain ⟨V0, hV0⟩ : ∃ V0, V0 = z.natAbs := ⟨_, rfl⟩
  rw [← hV0] at hl ho2
  have hn8 : n ≤ 8 := by rw [hl, canon_len8, hV0]; exact hzl
  have hdl : (digs V0).length ≤ 78 := digs_big (by rw [hV0]; exact hzl)
  have Hl := hide (And.intro hl (And.intro hV0 hdl))
  have hzw := hx
  have H2 := hide (And.intro hb2 (And.intro hzw hn2))
  clear hl hV0 hdl hsz hzl hb2 hz2 hn2 hx hzw
  by_cases h0 : n = 0
  · subst h0
    have hz0 : z = 0 := by
      have h1 := canon_nil.1 (List.eq_nil_of_length_eq_zero Hl.out.1.symm)
      have := Hl.out.2.1
      omega
    have Hz := hide hz0
    clear hz0 ho2
    go_wp2
    go_ret
    refine ⟨?_, H2.out.2.2⟩
    rw [Hz.out]
    rfl
  · have hn0 : ((n : Int) == 0) = false := by simp; omega
    have hz0 : z ≠ 0 := by
      intro h
      refine h0 ?_
      rw [Hl.out.1, Hl.out.2.1, h, show (0 : Int).natAbs = 0 from rfl, canon_zero]; rfl
    have Hz := hide hz0
    clear h0 hz0
    go_wp2
    go_loopg [3, 4] V0 (fun gk m l wr => ∃ (A : Option Addr) (n c : Nat) (ds : List Int), m = .slice A n c ∧ n ≤ 8 ∧ ds.length ≤ 78 ∧ Hid (n = (canon gk).length ∧ (digs V0).map letter = ds ++ (digs gk).map letter) ∧ Own wr w.heap.size 50 1 (.slice A n c) n (encW (canon gk)) ∧ Own wr w.heap.size 5 1 l ds.length (encB ds) ∧ New w wr ∧ Hid (Blk wr w.heap.size 24 [.bool bx, .slice Ax nx cx]))
    case atStart => exact ⟨A, n, c, [], rfl, hn8, by simp, ⟨Hl.out.1, by simp⟩, ho2, Own.nil_ _ _ _ _, H2.out.2.2, H2.out.1⟩
    case round =>
      clear ho2 hn0
      obtain ⟨Am, nm, cm, ds, rfl, hnm8, hds, hd, hom, hol, hnew, hbox⟩ := hrel
      have Hd := hide (show nm = (canon gk).length ∧ (digs V0).map letter = ds ++ (digs gk).map letter from hd)
      clear hd
      by_cases hpos : 0 < nm
      · have hlc : (canon gk).length = nm := Hd.out.1.symm
        have hT := ten_start (limbs_canon gk)
        rw [hlc] at hT
        have Ho := hide (And.intro hom (And.intro hol (And.intro hnew (And.intro hT hbox))))
        clear hom hol hnew hT hlc hbox
        go_wp2
        go_loopw [5, 6] (fun r i wr => ∃ (k rr : Nat) (m2 : List Nat), k ≤ nm ∧ i = .int .i64 ((k : Int) - 1) ∧ r = .int .u64 (rr : Int) ∧ rr < 10 ∧ Hid (TenAt (canon gk) m2 k rr) ∧ Own wr w.heap.size 50 1 (.slice Am nm cm) nm (encW m2) ∧ Own wr w.heap.size 5 1 u4 ds.length (encB ds) ∧ New w wr ∧ Hid (Blk wr w.heap.size 24 [.bool bx, .slice Ax nx cx])) (fun _ i _ => (intOf i + 1).toNat)
        case atStart => exact ⟨nm, 0, canon gk, Nat.le_refl _, rfl, rfl, by omega, Ho.out.2.2.2.1, Ho.out.1, Ho.out.2.1, Ho.out.2.2.1, Ho.out.2.2.2.2⟩
        case round =>
          clear Ho
          obtain ⟨k, rr, m2, hk, rfl, rfl, hrr, hT, hom, hol, hnew, hbox⟩ := hrel
          rcases Nat.eq_zero_or_pos k with rfl | hk0
          · obtain ⟨he1, he2⟩ := ten_end (show TenAt (canon gk) m2 0 rr from hT)
            rw [val_canon] at he1 he2
            have hT' : TenAt (canon gk) m2 0 rr := hT
            have e1 : Value.int .u8 (48 + (rr : Int)) = .int .u8 (letter rr) := by simp [letter]
            have hgk : 0 < gk := by
              rcases Nat.eq_zero_or_pos gk with h | h
              · have := Hd.out.1
                rw [h, canon_zero] at this
                simp at this
                omega
              · exact h
            have hdg : (digs V0).map letter = (ds ++ [letter rr]) ++ (digs (gk / 10)).map letter := by
              rw [Hd.out.2, digs_pos hgk, List.map_cons, List.append_assoc, he2]
              rfl
            have hdsl : ds.length + 1 ≤ 78 := by
              have h1 := congrArg List.length hdg
              simp at h1
              have := Hl.out.2.2
              omega
            have hA : New wr (wr.alloc (.cells #[.int .u8 (letter rr)] 5)) := (Upd.refl _ _).alloc _
            have hrowl : RowAt (wr.alloc (.cells #[.int .u8 (letter rr)] 5)) 1 (.slice (some ⟨wr.heap.size, 0, none⟩) 1 1) 1 (encB [letter rr]) := RowAt.fresh wr _ (encB [letter rr]) 1 1 rfl (by omega) (by unfold maxLen; omega)
            have hbase : w.heap.size ≤ (wr.alloc (.cells #[.int .u8 (letter rr)] 5)).heap.size := (hnew.alloc _).size
            have P := hide (And.intro e1 (And.intro (hol.new_ hA) (And.intro hrowl (And.intro hbase (And.intro (hom.new_ hA) (And.intro (hnew.transNew hA) ((show Blk wr _ _ _ from hbox).new_ hA)))))))
            have Q := hide (And.intro he1 (And.intro hT' (And.intro hdg hgk)))
            clear e1 hA hrowl hbase hol hom hnew hbox he1 he2 hT hT' hdg hgk
            go_wp2_with (at_builtin; rw [P.out.1]; refine wpList_append_row _ rfl (.tmp 38) (.tmp 42) elB rfl w.heap.size u4 ds.length (encB ds) rfl P.out.2.1 (.slice (some ⟨wr.heap.size, 0, none⟩) 1 1) 1 (encB [letter rr]) rfl P.out.2.2.1 (encB_one _) (by omega) (by unfold maxLen; omega) P.out.2.2.2.1 ?_; intro v3 w3 hown3 hg3 _)
            have hu3 : Upd (fun q => ownB u4 = some q) (wr.alloc (.cells #[.int .u8 (letter rr)] 5)) w3 := (Upd.refl _ _).grown hg3 fun q hq => .inl hq
            have hom3 := P.out.2.2.2.2.1.upd hu3 fun q hq hq' => P.out.2.2.2.2.1.ne_own P.out.2.1 (by decide) q hq hq'
            have hbox3 := P.out.2.2.2.2.2.2.upd hu3 fun hq => P.out.2.1.ne_blk P.out.2.2.2.2.2.2 (by decide) _ hq rfl
            have hnew3 : New w w3 := P.out.2.2.2.2.2.1.grown hg3 fun q hq => .inr (P.out.2.1.lt q hq).1
            rw [← encB_app] at hown3
            have Q3 := hide (And.intro hom3 (And.intro hbox3 (And.intro hnew3 hown3)))
            clear hu3 hom3 hbox3 hnew3 hown3 hg3
            go_wp2_with fail
            refine (trim_any Am nm cm m2 _ Q3.out.1.row Q.out.2.1.limbs).mono ?_
            rintro e w4 ⟨rfl, rfl⟩
            have hot := Q3.out.1.trim Q.out.2.1.limbs
            rw [Q.out.1] at hot ⊢
            obtain ⟨nz, hnz⟩ : ∃ nz, nz = (canon (gk / 10)).length := ⟨_, rfl⟩
            rw [← hnz] at hot ⊢
            have hnz8 : nz ≤ 8 := by
              rw [hnz]
              refine Nat.le_trans (canon_len_le (k := (canon gk).length) ?_) (by rw [← Hd.out.1]; exact hnm8)
              have h := val_lt (limbs_canon gk)
              rw [val_canon] at h
              exact Nat.lt_of_le_of_lt (Nat.div_le_self _ _) h
            have Hot := hide (And.intro hot hnz)
            clear hot hnz
            go_wp2
            go_roundg (gk / 10)
            case measure => have := Q.out.2.2.2; omega
            case rel => exact ⟨Am, nz, cm, ds ++ [letter rr], rfl, hnz8, by simpa using hdsl, ⟨Hot.out.2, Q.out.2.2.1⟩, Hot.out.1, by simpa using Q3.out.2.2.2, Q3.out.2.2.1, Q3.out.2.1⟩
          · obtain ⟨p, rfl⟩ : ∃ p, k = p + 1 := ⟨k - 1, by omega⟩
            rw [show (((p + 1 : Nat) : Int) - 1) = (p : Int) by omega]
            obtain ⟨g, rfl, hnc, hcm, hbg, hgl, hcell, hfz, hset⟩ := hom.place (j := p) (by omega)
            have hT' : TenAt (canon gk) m2 (p + 1) rr := hT
            obtain ⟨hs1, hs2, hs3⟩ := ten_step (limbs_canon gk) hT' (by rw [← Hd.out.1]; omega)
            rw [encW_get _ _ (by rw [hT'.len, ← Hd.out.1]; omega), hT'.same p (by omega)] at hcell
            obtain ⟨y, hy⟩ : ∃ y, y = (canon gk).getD p 0 := ⟨_, rfl⟩
            rw [← hy] at hcell hs1 hs2
            have hyb : y < 4294967296 := by rw [hy]; exact (limbs_canon gk).at _
            have hor : bits .or .u64 ((rr : Int) * 4294967296) (y : Int) = ((rr * 4294967296 + y : Nat) : Int) := by
              have h1 : (rr : Int) * 4294967296 = ((rr * 4294967296 : Nat) : Int) := by simp
              rw [h1, bits_or_u64_nat _ _ (by omega) (by omega), or_word hyb]
            obtain ⟨s, hs⟩ : ∃ s, s = rr * 4294967296 + y := ⟨_, rfl⟩
            rw [← hs] at hor hs1 hs2
            have hsb : s < 42949672960 := by omega
            have hgq : g ≠ w.heap.size := fun h => hom.ne_blk (show Blk wr _ _ _ from hbox) (by decide) g (by
              obtain ⟨c', rfl⟩ : ∃ c', cm = c' + 1 := ⟨cm - 1, by omega⟩
              rfl) h
            have Hs := hide (And.intro hset (And.intro hs1 (And.intro hol (And.intro hnew (And.intro hom (And.intro hgq hbox))))))
            have Hor := hide hor
            clear hset hs1 hol hnew hom hT hT' hy hor hs hk0 hcm hgq hbox
            go_upto_region 11 with (fail)
            rw [Hor.out]
            go_wp2
            go_roundw
            case rel =>
              obtain ⟨hset, hs1, hol, hnew, hom, hgq, hbox⟩ := Hs.out
              have e2 : Value.int .u64 ((s : Int) % 10) = .int .u64 ((s % 10 : Nat) : Int) := by simp
              have e3 : Value.int .u32 ((s : Int) / 10) = .int .u32 ((s / 10 : Nat) : Int) := by simp
              refine ⟨p, s % 10, m2.set p (s / 10), by omega, rfl, e2, by omega, hs1, ?_, ?_, ?_, ?_⟩
              · rw [encW_set, ← e3]; exact hset _
              · exact hol.upd (Upd.cellAt wr ⟨g, p, none⟩ _) fun q hq hqg => hol.ne_own hom (by decide) q hq (by
                  have h1 : q = g := hqg
                  subst h1
                  obtain ⟨c', rfl⟩ : ∃ c', cm = c' + 1 := ⟨cm - 1, by omega⟩
                  rfl)
              · exact New.setAt hnew hbg _ _
              · exact (show Blk wr _ _ _ from hbox).far (p := ⟨g, p, none⟩) (Ne.symm hgq) _
            case measure => simp [intOf] <;> omega
      · obtain rfl : nm = 0 := by omega
        have hg0 : gk = 0 := canon_nil.1 (List.eq_nil_of_length_eq_zero Hd.out.1.symm)
        have hds0 : (digs V0).map letter = ds := by rw [Hd.out.2, hg0, digs_zero]; simp
        obtain ⟨Al, cl, rfl⟩ := hol.row.form
        have hb0 : wr.cell? ⟨w.heap.size, 0, none⟩ = some (.bool bx) := (show Blk wr _ _ _ from hbox).cell 0
        have hb1 : wr.cell? ⟨w.heap.size, 1, none⟩ = some (.slice Ax nx cx) := (show Blk wr _ _ _ from hbox).cell 1
        have hzr := H2.out.2.1.new_ hnew
        have hdn : 0 < ds.length := by
          rw [← hds0, List.length_map]
          rcases Nat.eq_zero_or_pos V0 with h | h
          · have := Hl.out.2.1
            exact absurd (show z = 0 by omega) Hz.out
          · rw [digs_pos h]; simp
        have hm0 : (0 : Int) < (ds.length : Int) := by omega
        have Q0 := hide (And.intro hol (And.intro hnew (And.intro hzr (And.intro hds0 (And.intro hdn hom)))))
        clear hol hnew hzr hds0 hdn hom hg0 hbox hpos
        go_wp2_with fail
        refine (neg_any _ z _ Q0.out.2.2.1).mono ?_
        rintro e w4 ⟨d, rfl, hd4, hn4⟩
        have hol := Q0.out.1.new_ hn4
        have hnew := Q0.out.2.1.transNew hn4
        have hds0 := Q0.out.2.2.2.1
        have hdn := Q0.out.2.2.2.2.1
        clear hb0 hb1
        cases hdd : d
        · subst hdd
          have hdsz : textI z = ds.reverse := by
            rw [textI_pos Hz.out, if_neg (by simpa using hd4.symm), List.append_nil, ← Hl.out.2.1, hds0]
          have hdsn : 0 < ds.length := hdn
          clear hds0 hdn hd4 hn4
          have Q3 := hide (And.intro hol (And.intro hnew (And.intro hdsz hdsn)))
          clear hol hnew hdsz hdsn
          go_wp2_with fail
          refine (reverse_any w.heap.size Al ds.length cl ds _ Q3.out.1 (by omega)).mono ?_
          rintro e w5 ⟨rfl, hrev, hu5⟩
          have hn5 : New w w5 := Q3.out.2.1.trans hu5 fun q hq hqo => by have := (Q3.out.1.lt q hqo).1; omega
          obtain ⟨g, rfl, -, -, -, -, -, -, -⟩ := Q3.out.1.place (j := 0) Q3.out.2.2.2
          have hlen5 : ds.reverse.length = ds.length := by simp
          have hconv := run_convert_bytes_arg (P := Try.prog) w5 57 5 Try.underlying57 Try.underlying5 g 0 ds.length cl ds.reverse hlen5 (fun i hi => by
            obtain ⟨g', hg', -, -, -, -, hcell, -, -⟩ := hrev.place (j := i) hi
            injection hg' with hg'
            injection hg' with hg' _ _
            subst hg'
            rw [Nat.zero_add, hcell, encB_get _ _ (by omega)]) 9 Try.underlying9
          rw [← Q3.out.2.2.1] at hconv
          have Hn5 := hide hn5
          clear hrev hu5 hn5 hlen5
          go_wp2
          go_ret
          exact ⟨rfl, Hn5.out⟩
        · subst hdd
          have hdsz : textI z = (ds ++ [45]).reverse := by
            rw [textI_pos Hz.out, if_pos (by simpa using hd4.symm), ← Hl.out.2.1, hds0]
          have hdsn : 0 < ds.length + 1 := by omega
          have hA : New w4 (w4.alloc (.cells #[.int .u8 45] 5)) := (Upd.refl _ _).alloc _
          have hrowl : RowAt (w4.alloc (.cells #[.int .u8 45] 5)) 1 (.slice (some ⟨w4.heap.size, 0, none⟩) 1 1) 1 (encB [45]) := RowAt.fresh w4 _ (encB [45]) 1 1 rfl (by omega) (by unfold maxLen; omega)
          have hbase : w.heap.size ≤ (w4.alloc (.cells #[.int .u8 45] 5)).heap.size := (hnew.alloc _).size
          have P := hide (And.intro (hol.new_ hA) (And.intro hrowl (And.intro hbase (And.intro (hnew.transNew hA) (And.intro hdsz hdsn)))))
          clear hds0 hdn hd4 hn4 hA hrowl hbase hol hnew hdsz hdsn
          go_wp2_with (at_builtin; refine wpList_append_row _ rfl (.tmp 48) (.tmp 49) elB rfl w.heap.size (.slice Al ds.length cl) ds.length (encB ds) rfl P.out.1 (.slice (some ⟨w4.heap.size, 0, none⟩) 1 1) 1 (encB [45]) rfl P.out.2.1 (encB_one _) (by omega) (by unfold maxLen; omega) P.out.2.2.1 ?_; intro v3 w3 hown3 hg3 _)
          have hnew : New w w3 := P.out.2.2.2.1.grown hg3 fun q hq => .inr (P.out.1.lt q hq).1
          rw [← encB_app] at hown3
          obtain ⟨Al2, cl2, rfl⟩ := hown3.row.form
          have hol := hown3
          have hdsz := P.out.2.2.2.2.1
          have hdsn := P.out.2.2.2.2.2
          clear hg3 hown3
          have Q3 := hide (And.intro hol (And.intro hnew (And.intro hdsz hdsn)))
          clear hol hnew hdsz hdsn
          go_wp2_with fail
          refine (reverse_any w.heap.size Al2 (ds.length + 1) cl2 (ds ++ [45]) _ Q3.out.1 (by omega)).mono ?_
          rintro e w5 ⟨rfl, hrev, hu5⟩
          have hn5 : New w w5 := Q3.out.2.1.trans hu5 fun q hq hqo => by have := (Q3.out.1.lt q hqo).1; omega
          obtain ⟨g, rfl, -, -, -, -, -, -, -⟩ := Q3.out.1.place (j := 0) Q3.out.2.2.2
          have hlen5 : (ds ++ [45]).reverse.length = (ds.length + 1) := by simp
          have hconv := run_convert_bytes_arg (P := Try.prog) w5 57 5 Try.underlying57 Try.underlying5 g 0 (ds.length + 1) cl2 (ds ++ [45]).reverse hlen5 (fun i hi => by
            obtain ⟨g', hg', -, -, -, -, hcell, -, -⟩ := hrev.place (j := i) hi
            injection hg' with hg'
            injection hg' with hg' _ _
            subst hg'
            rw [Nat.zero_add, hcell, encB_get _ _ (by omega)]) 9 Try.underlying9
          rw [← Q3.out.2.2.1] at hconv
          have Hn5 := hide hn5
          clear hrev hu5 hn5 hlen5
          go_wp2
          go_ret
          exact ⟨rfl, Hn5.out⟩
end Go.Proofs.Ytfhflpchfgkgcaa
