/- Parse. -/
import Derived.Test.YtfhflpchfgkgcaaBigT
import Derived.Test.YtfhflpchfgkgcaaBigTen
import Derived.Lib.IndexBytes
namespace Go.Proofs.Ytfhflpchfgkgcaa
open Go.RowKit
def parseD (neg : Bool) (d : List UInt8) : Int × Int := if digB d = true then (if 2 ^ 256 ≤ decV d then (0, 3) else (sgn neg (decV d), 0)) else (0, 2)
/-- What a text is read as, and the error. -/
def parseZ (l : List UInt8) : Int × Int := if l.head? = some 45 then (if l = [45, 48] then (0, 2) else parseD true l.tail) else parseD false l
theorem ext_tail (s : ByteArray) : (s.extract 1 s.size).data.toList = s.data.toList.tail := by
  rw [Go.Lib.extract_to_end]
  simp
theorem parse_start (w : World) : ∃ w1, w1 = (w.alloc (.cells #[.bool false, .slice none 0 0] 24)).drew ∧ New w w1 ∧ Blk w1 w.heap.size 24 [.bool false, .slice none 0 0] :=
  ⟨_, rfl, ((Upd.refl _ _).alloc _).drew, Blk.new w _ _⟩
def IsParse (p : Int × Int) (w : World) (e : Ending) (w' : World) : Prop := IsZE p.1 p.2 w e w'
set_option maxHeartbeats 6400000 in
theorem parse_any (s : ByteArray) (w : World) (hs : s.size ≤ 100000) : Calls Try.prog 16 #[.string s] w (IsParse (parseZ s.data.toList) w) := by
  obtain ⟨p, hp⟩ : ∃ p, p = parseZ s.data.toList := ⟨_, rfl⟩
  rw [← hp]
  by_cases hsz : 0 < s.size
  · have hhd : s.data.toList.head? = some s[0] := by
      have h : 0 < s.data.toList.length := by rw [len_data]; exact hsz
      rw [List.head?_eq_getElem?, List.getElem?_eq_getElem h]
      rfl
    by_cases h45 : s[0].toNat = 45
    · have h1 : s[0] = 45 := UInt8.toNat_inj.1 h45
      rw [h1] at hhd
      have hb : (((s[0].toNat : Nat) : Int) == 45) = true := by simp [h45]
      have hlz : s.data.toList = 45 :: s.data.toList.tail := by
        cases h : s.data.toList with
        | nil => rw [h] at hhd; cases hhd
        | cons c r =>
          rw [h] at hhd
          simp at hhd
          subst hhd
          rfl
      have hsp : (s.toList == [45, 48]) = decide (s.data.toList = [45, 48]) := by
        rw [ByteArray.toList_eq]
        by_cases h : s.data.toList = [45, 48]
        · rw [h]; rfl
        · rw [decide_eq_false h]
          simpa using h
      have hpz : p = if s.data.toList = [45, 48] then (0, 2) else parseD true s.data.toList.tail := by rw [hp, parseZ, if_pos hhd]
      have Hh := hide (And.intro hhd (And.intro h45 hpz))
      clear hp hhd h1 h45 hpz
      by_cases hm : s.data.toList = [45, 48]
      · have hm0 : (s.toList == [45, 48]) = true := by rw [hsp, decide_eq_true hm]
        have hdt : digB (s.extract 1 s.size).data.toList = true := by rw [ext_tail, hm]; rfl
        have Hm := hide (And.intro hm hdt)
        clear hsp hm hlz hdt
        go_enter Try.func16, Try.ntmps16
        go_wp2
        go_quiet (fail)
        go_wp2_with fail
        obtain ⟨d, hd⟩ : ∃ d, d = s.extract 1 s.size := ⟨_, rfl⟩
        rw [← hd]
        have hDs : d.size ≤ 100000 := by rw [hd]; simp [ByteArray.size_extract]; omega
        have hdt : digB d.data.toList = true := by rw [hd]; exact Hm.out.2
        have Hdt := hide hdt
        obtain ⟨w1, hw1⟩ : ∃ w1, w1 = (w.alloc (.cells #[.bool false, .slice none 0 0] 24)).drewN nq := ⟨_, rfl⟩
        have hn1 : New w w1 := by rw [hw1]; exact ((Upd.refl _ _).alloc _).drewN _
        have hb1 : Blk w1 w.heap.size 24 [.bool false, .slice none 0 0] := by rw [hw1]; exact Blk.new w _ _
        rw [← hw1]
        obtain ⟨w4, hw4, hcan4, hn4, g0, g1, -⟩ := (CanAt.zero w1).store hb1 hn1 (Nat.le_refl _)
        have r0 : w1.cell? ⟨w.heap.size, 0, none⟩ = some (.bool false) := hb1.cell 0
        have r1 : w1.cell? ⟨w.heap.size, 1, none⟩ = some (.slice none 0 0) := hb1.cell 1
        have f0 := hb1.frozen 0
        have f1 := hb1.frozen 1
        have H4 := hide (And.intro hcan4 (And.intro hn4 hw4))
        clear hcan4 hn4 hw4 hw1 hn1 hb1 hd hdt
        refine (digits_any d _ hDs).mono ?_
        rintro e w1' ⟨rfl, rfl⟩
        rw [Hdt.out]
        go_wp2
        rw [← H4.out.2.2]
        have hz : p = (0, 2) := by rw [Hh.out.2.2, if_pos Hm.out.1]
        refine bodyPost_ret (v := .tuple #[.agg #[.bool false, .slice none 0 0], .int .i64 2]) (by simp [results, Try.results16, go_sem, g0, g1]) rfl ⟨false, none, 0, 0, ?_, ?_, H4.out.2.1⟩
        · rw [hz]
        · rw [hz]; exact H4.out.1
      · have hm0 : (s.toList == [45, 48]) = false := by rw [hsp, decide_eq_false hm]
        have hpe : p = parseD true s.data.toList.tail := by rw [Hh.out.2.2, if_neg hm]
        have Hpe := hide hpe
        clear hsp hm hlz hpe
        go_enter Try.func16, Try.ntmps16
        go_wp2
        go_quiet (fail)
        go_wp2_with fail
        obtain ⟨d, hd⟩ : ∃ d, d = s.extract 1 s.size := ⟨_, rfl⟩
        rw [← hd]
        have hDs : d.size ≤ 100000 := by rw [hd]; simp [ByteArray.size_extract]; omega
        have hP : p = parseD true d.data.toList := by rw [Hpe.out, hd, ext_tail]
        have HP := hide hP
        obtain ⟨w1, hw1⟩ : ∃ w1, w1 = (w.alloc (.cells #[.bool false, .slice none 0 0] 24)).drewN nq := ⟨_, rfl⟩
        have hn1 : New w w1 := by rw [hw1]; exact ((Upd.refl _ _).alloc _).drewN _
        have hb1 : Blk w1 w.heap.size 24 [.bool false, .slice none 0 0] := by rw [hw1]; exact Blk.new w _ _
        rw [← hw1]
        have H1 := hide (And.intro hn1 (hide hb1))
        clear hw1 hn1 hb1 hd hP
        -- the sign is known: d, true
        by_cases hdg : digB d.data.toList = true
        · have Hdg := hide hdg
          have hDall : ∀ c ∈ d.data.toList, 48 ≤ c.toNat ∧ c.toNat ≤ 57 := fun c hc => by
            have h := hdg
            simp only [digB, Bool.and_eq_true] at h
            have := List.all_eq_true.1 h.1 c hc
            simpa [isDig] using this
          have HD := hide hDall
          clear hdg hDall
          refine (digits_any d _ hDs).mono ?_
          rintro e w1' ⟨rfl, rfl⟩
          rw [Hdg.out]
          go_wp2
          go_loopw [6, 33] (fun m i wr => ∃ (k V : Nat) (A : Option Addr) (n c : Nat), k ≤ d.size ∧ i = .int .i64 k ∧ m = .slice A n c ∧ n ≤ 8 ∧ Hid (n = (canon V).length ∧ V = decV (d.data.toList.take k)) ∧ Own wr w.heap.size 50 1 m n (encW (canon V)) ∧ New w wr ∧ Hid (Blk wr w.heap.size 24 [.bool false, .slice none 0 0])) (fun _ i _ => d.size - (intOf i).toNat)
          case atStart => exact ⟨0, 0, none, 0, 0, by omega, rfl, rfl, by omega, ⟨by rw [canon_zero]; rfl, rfl⟩, by rw [canon_zero]; exact Own.nil_ _ _ _ _, H1.out.1, H1.out.2⟩
          case round =>
            obtain ⟨k, V, A, n, c, hk, rfl, rfl, hn8, hV, hown, hnew, hbox⟩ := hrel
            have HV := hide (show n = (canon V).length ∧ V = decV (d.data.toList.take k) from hV)
            clear hV
            by_cases hlt : k < d.size
            · obtain ⟨x, hx⟩ : ∃ x, x = d[k].toNat := ⟨_, rfl⟩
              have hgk : d.data.toList[k]? = some d[k] := by
                have h : k < d.data.toList.length := by rw [len_data]; exact hlt
                rw [List.getElem?_eq_getElem h]
                rfl
              have hxr := HD.out d[k] (List.mem_of_getElem? hgk)
              rw [← hx] at hxr
              obtain ⟨hx1, hx2⟩ := hxr
              have hsucc : decV (d.data.toList.take (k + 1)) = 10 * V + (x - 48) := by
                rw [List.take_add_one, hgk]
                show decV (d.data.toList.take k ++ [d[k]]) = _
                rw [decV_snoc, ← HV.out.2, ← hx]
              have hM := mulTen_start (limbs_canon V) (x - 48)
              have hcast : (x : Int) - 48 = ((x - 48 : Nat) : Int) := by omega
              have H0 := hide (And.intro hown (And.intro hnew (And.intro hbox (And.intro hsucc (And.intro hM hcast)))))
              have hxk : d[k].toNat = x := hx.symm
              have hxlo : 48 ≤ d[k].toNat := by omega
              have hxhi : d[k].toNat ≤ 57 := by omega
              have Hxk := hide hxk
              clear hown hnew hbox hgk hsucc hM hcast hx hxk
              go_upto_region 11 with (fail)
              rw [Hxk.out, H0.out.2.2.2.2.2]
              clear hxlo hxhi
              obtain ⟨dg, hdgx⟩ : ∃ dg, dg = x - 48 := ⟨_, rfl⟩
              rw [← hdgx]
              have hd9 : dg ≤ 9 := by omega
              have H2 := hide (And.intro H0.out.1 (And.intro H0.out.2.1 (And.intro H0.out.2.2.1 (And.intro (by rw [hdgx]; exact H0.out.2.2.2.1 : decV (d.data.toList.take (k + 1)) = 10 * V + dg) (by rw [hdgx]; exact H0.out.2.2.2.2.1 : MulTen (canon V) (canon V) 0 dg dg)))))
              clear H0 hdgx
              go_wp2
              go_loopw [8, 43] (fun cv i wr => ∃ (t cc : Nat) (m2 : List Nat), t ≤ n ∧ i = .int .i64 t ∧ cv = .int .u64 (cc : Int) ∧ cc ≤ 9 ∧ Hid (MulTen (canon V) m2 t cc dg) ∧ Own wr w.heap.size 50 1 (.slice A n c) n (encW m2) ∧ New w wr ∧ Hid (Blk wr w.heap.size 24 [.bool false, .slice none 0 0])) (fun _ i _ => n - (intOf i).toNat)
              case atStart => exact ⟨0, dg, canon V, by omega, rfl, rfl, hd9, H2.out.2.2.2.2, H2.out.1, H2.out.2.1, H2.out.2.2.1⟩
              case round =>
                obtain ⟨t, cc, m2, ht, rfl, rfl, hcc, hM, hown, hnew, hbox⟩ := hrel
                have hM' : MulTen (canon V) m2 t cc dg := hM
                by_cases hlt2 : t < n
                · obtain ⟨g, rfl, hnc, hcm, hbg, hgl, hcell, hfz, hset⟩ := hown.place (j := t) hlt2
                  rw [encW_get _ _ (by rw [hM'.len, ← HV.out.1]; exact hlt2), hM'.same t (Nat.le_refl _)] at hcell
                  obtain ⟨hs1, hs2⟩ := mulTen_step (limbs_canon V) hM' (by rw [← HV.out.1]; exact hlt2) hcc
                  obtain ⟨y, hy⟩ : ∃ y, y = (canon V).getD t 0 := ⟨_, rfl⟩
                  rw [← hy] at hcell hs1 hs2
                  have hyb : y < 4294967296 := by rw [hy]; exact (limbs_canon V).at _
                  obtain ⟨s, hs⟩ : ∃ s, s = cc + 10 * y := ⟨_, rfl⟩
                  rw [← hs] at hs1 hs2
                  have e1 : Value.int .u32 (((cc : Int) + 10 * (y : Int)) % 4294967296) = .int .u32 ((s % 4294967296 : Nat) : Int) := by congr 1; rw [hs]; simp
                  have e2 : Value.int .u64 (((cc : Int) + 10 * (y : Int)) / 4294967296) = .int .u64 ((s / 4294967296 : Nat) : Int) := by congr 1; rw [hs]; simp
                  have hgq : g ≠ w.heap.size := fun h => hown.ne_blk (show Blk wr _ _ _ from hbox) (by decide) g (by
                    obtain ⟨c', rfl⟩ : ∃ c', c = c' + 1 := ⟨c - 1, by omega⟩
                    rfl) h
                  have Hs := hide (And.intro hset (And.intro hs1 (And.intro e1 (And.intro e2 (And.intro hnew (And.intro hgq hbox))))))
                  clear hset hs1 e1 e2 hnew hgq hbox hM hM' hy hs hown hcm
                  go_wp2
                  go_roundw
                  case rel =>
                    obtain ⟨hset, hs1, e1, e2, hnew, hgq, hbox⟩ := Hs.out
                    refine ⟨t + 1, s / 4294967296, m2.set t (s % 4294967296), by omega, by go_num, e2, hs2, hs1, ?_, New.setAt hnew hbg _ _, (show Blk wr _ _ _ from hbox).far (p := ⟨g, t, none⟩) (Ne.symm hgq) _⟩
                    rw [e1, encW_set]
                    exact hset _
                  case measure => simp [intOf] <;> omega
                · obtain rfl : t = n := by omega
                  have hend : val (m2 ++ [cc]) = 10 * V + dg := by
                    have h := hM'
                    rw [HV.out.1] at h
                    have := mulTen_end h
                    rwa [val_canon] at this
                  have hlm : Limbs (m2 ++ [cc]) := hM'.limbs.app (Limbs.cons (by omega) Limbs.nil)
                  have hA : New wr (wr.alloc (.cells #[.int .u32 (cc : Int)] 50)) := (Upd.refl _ _).alloc _
                  have P0 := push_limb hown hnew cc
                  have P := hide (And.intro P0.1 (And.intro P0.2.1 (And.intro P0.2.2.1 (And.intro P0.2.2.2 (And.intro ((show Blk wr _ _ _ from hbox).new_ hA) (And.intro hend hlm))))))
                  clear hown hnew hbox hM hM' hend hlm hA P0
                  go_wp2_with (at_builtin; refine wpList_append_row _ rfl (.tmp 61) (.tmp 64) elW rfl w.heap.size (.slice A t c) t (encW m2) rfl P.out.1 (.slice (some ⟨wr.heap.size, 0, none⟩) 1 1) 1 (encW [cc]) rfl P.out.2.1 (encW_one _) (by omega) (by unfold maxLen; omega) P.out.2.2.1 ?_; intro v2 w2 hown2 hg2 _)
                  have hn2 := push_new P.out.2.2.2.1 P.out.1 hg2
                  have hu2 : Upd (fun q => ownB (.slice A t c) = some q) (wr.alloc (.cells #[.int .u32 (cc : Int)] 50)) w2 := (Upd.refl _ _).grown hg2 fun q hq => .inl hq
                  have hbox2 := P.out.2.2.2.2.1.upd hu2 fun hq => P.out.1.ne_blk P.out.2.2.2.2.1 (by decide) _ hq rfl
                  rw [← encW_app] at hown2
                  obtain ⟨A2, c2, rfl⟩ := hown2.row.form
                  have Q := hide (And.intro hown2 (And.intro hn2 hbox2))
                  clear hu2 hbox2 hn2 hown2 hg2
                  go_wp2_with fail
                  refine (trim_any A2 (t + 1) c2 (m2 ++ [cc]) _ Q.out.1.row P.out.2.2.2.2.2.2).mono ?_
                  rintro e w3 ⟨rfl, rfl⟩
                  have hot := Q.out.1.trim P.out.2.2.2.2.2.2
                  rw [P.out.2.2.2.2.2.1] at hot ⊢
                  obtain ⟨nz, hnz⟩ : ∃ nz, nz = (canon (10 * V + dg)).length := ⟨_, rfl⟩
                  rw [← hnz] at hot ⊢
                  have hnzb : nz ≤ 9 := by
                    have h1 : (canon (10 * V + dg)).length ≤ t + 1 := by
                      have h := val_lt P.out.2.2.2.2.2.2
                      have hl : (m2 ++ [cc]).length = t + 1 := by have := Q.out.1.len; simpa [encW] using this
                      rw [P.out.2.2.2.2.2.1, hl] at h
                      exact canon_len_le h
                    omega
                  have Hot := hide (And.intro hot hnz)
                  clear hot hnz
                  by_cases hfit : nz ≤ 8
                  · go_wp2
                    go_roundw
                    case rel => exact ⟨k + 1, 10 * V + dg, A2, nz, c2, by omega, by go_num, rfl, hfit, ⟨Hot.out.2, H2.out.2.2.2.1.symm⟩, Hot.out.1, Q.out.2.1, Q.out.2.2⟩
                    case measure => simp [intOf] <;> omega
                  · have hbig : 2 ^ 256 ≤ decV d.data.toList := by
                      have h1 := decV_mono d.data.toList (k + 1)
                      rw [H2.out.2.2.2.1] at h1
                      have h2 : ¬ (10 * V + dg) < 2 ^ 256 := by
                        rw [← canon_len8, ← Hot.out.2]
                        exact hfit
                      omega
                    have hz : parseD true d.data.toList = (0, 3) := by rw [parseD, if_pos Hdg.out, if_pos hbig]
                    obtain ⟨w4, hw4, hcan4, hn4, g0, g1, -⟩ := (CanAt.zero w2).store Q.out.2.2 Q.out.2.1 (Nat.le_refl _)
                    have hb2 : Blk w2 w.heap.size 24 [.bool false, .slice none 0 0] := Q.out.2.2
                    have r0 : w2.cell? ⟨w.heap.size, 0, none⟩ = some (.bool false) := hb2.cell 0
                    have r1 : w2.cell? ⟨w.heap.size, 1, none⟩ = some (.slice none 0 0) := hb2.cell 1
                    have f0 := hb2.frozen 0
                    have f1 := hb2.frozen 1
                    have H4 := hide (And.intro hcan4 (And.intro hn4 (And.intro hw4 hz)))
                    clear hbig hz hcan4 hn4 hw4 hb2
                    go_wp2
                    rw [← H4.out.2.2.1]
                    refine bodyPost_ret (v := .tuple #[.agg #[.bool false, .slice none 0 0], .int .i64 3]) (by simp [results, Try.results16, go_sem, g0, g1]) rfl ⟨false, none, 0, 0, ?_, ?_, H4.out.2.1⟩
                    · rw [HP.out, H4.out.2.2.2]
                    · rw [HP.out, H4.out.2.2.2]; exact H4.out.1
            · obtain rfl : k = d.size := by omega
              have hVd : V = decV d.data.toList := by
                have h := HV.out.2
                rwa [List.take_of_length_le (by rw [len_data]; exact Nat.le_refl _)] at h
              have hVb : ¬ 2 ^ 256 ≤ decV d.data.toList := by
                rw [← hVd]
                have h := (canon_len8 V).1 (by rw [← HV.out.1]; exact hn8)
                omega
              have hz : parseD true d.data.toList = (sgn true V, 0) := by rw [parseD, if_pos Hdg.out, if_neg hVb, hVd]
              have Q := hide (And.intro hown (And.intro hnew (And.intro hbox hz)))
              clear hown hnew hbox hz hVb hVd
              go_wp2_with fail
              refine (made_any A n c _ true _ Q.out.1.row (limbs_canon _)).mono ?_
              rw [val_canon]
              rintro e w5 ⟨f, A5, n5, c5, rfl, hcan, hm5⟩
              have hb5 := (show Blk wr _ _ _ from Q.out.2.2.1).new_ hm5
              have f0 := hb5.frozen 0
              have f1 := hb5.frozen 1
              have r0 : w5.cell? ⟨w.heap.size, 0, none⟩ = some (.bool false) := hb5.cell 0
              have r1 : w5.cell? ⟨w.heap.size, 1, none⟩ = some (.slice none 0 0) := hb5.cell 1
              obtain ⟨w6, hw6, hcan6, hn6, g0, g1, -⟩ := hcan.store hb5 (Q.out.2.1.transNew hm5) (Nat.le_refl _)
              have H6 := hide (And.intro hcan6 (And.intro hn6 hw6))
              clear hb5 hcan hm5 hcan6 hn6 hw6
              go_wp2
              rw [← H6.out.2.2]
              refine bodyPost_ret (v := .tuple #[.agg #[.bool f, .slice A5 n5 c5], .int .i64 0]) (by simp [results, Try.results16, go_sem, g0, g1]) rfl ⟨f, A5, n5, c5, ?_, ?_, H6.out.2.1⟩
              · rw [HP.out, Q.out.2.2.2]
              · rw [HP.out, Q.out.2.2.2]; exact H6.out.1
        · have hdg' : digB d.data.toList = false := by simpa using hdg
          have hz : parseD true d.data.toList = (0, 2) := by rw [parseD, if_neg hdg]
          have Hdg := hide (And.intro hdg' hz)
          clear hdg hdg' hz
          obtain ⟨w4, hw4, hcan4, hn4, g0, g1, -⟩ := (CanAt.zero w1).store H1.out.2 H1.out.1 (Nat.le_refl _)
          have r0 : w1.cell? ⟨w.heap.size, 0, none⟩ = some (.bool false) := (show Blk w1 _ _ _ from H1.out.2).cell 0
          have r1 : w1.cell? ⟨w.heap.size, 1, none⟩ = some (.slice none 0 0) := (show Blk w1 _ _ _ from H1.out.2).cell 1
          have f0 := (show Blk w1 _ _ _ from H1.out.2).frozen 0
          have f1 := (show Blk w1 _ _ _ from H1.out.2).frozen 1
          have H4 := hide (And.intro hcan4 (And.intro hn4 hw4))
          clear hcan4 hn4 hw4
          refine (digits_any d _ hDs).mono ?_
          rintro e w1' ⟨rfl, rfl⟩
          rw [Hdg.out.1]
          go_wp2
          rw [← H4.out.2.2]
          refine bodyPost_ret (v := .tuple #[.agg #[.bool false, .slice none 0 0], .int .i64 2]) (by simp [results, Try.results16, go_sem, g0, g1]) rfl ⟨false, none, 0, 0, ?_, ?_, H4.out.2.1⟩
          · rw [HP.out, Hdg.out.2]
          · rw [HP.out, Hdg.out.2]; exact H4.out.1
    · have hb : (((s[0].toNat : Nat) : Int) == 45) = false := by simp; omega
      have hh2 : ¬ s.data.toList.head? = some 45 := by
        rw [hhd]
        intro h
        injection h with h
        exact h45 (by rw [h]; rfl)
      have hm0 : (s.toList == [45, 48]) = false := by
        rw [ByteArray.toList_eq]
        rw [beq_eq_false_iff_ne]
        intro h
        rw [h] at hh2
        exact hh2 rfl
      have hP : p = parseD false s.data.toList := by rw [hp, parseZ, if_neg hh2]
      have HP := hide hP
      have hDs := hs
      clear hp hhd h45 hh2 hP
      go_enter Try.func16, Try.ntmps16
      go_wp2
      go_quiet (fail)
      go_wp2_with fail
      obtain ⟨w1, hw1⟩ : ∃ w1, w1 = (w.alloc (.cells #[.bool false, .slice none 0 0] 24)).drewN nq := ⟨_, rfl⟩
      have hn1 : New w w1 := by rw [hw1]; exact ((Upd.refl _ _).alloc _).drewN _
      have hb1 : Blk w1 w.heap.size 24 [.bool false, .slice none 0 0] := by rw [hw1]; exact Blk.new w _ _
      rw [← hw1]
      have H1 := hide (And.intro hn1 (hide hb1))
      clear hw1 hn1 hb1
      -- the sign is known: s, false
      by_cases hdg : digB s.data.toList = true
      · have Hdg := hide hdg
        have hDall : ∀ c ∈ s.data.toList, 48 ≤ c.toNat ∧ c.toNat ≤ 57 := fun c hc => by
          have h := hdg
          simp only [digB, Bool.and_eq_true] at h
          have := List.all_eq_true.1 h.1 c hc
          simpa [isDig] using this
        have HD := hide hDall
        clear hdg hDall
        refine (digits_any s _ hDs).mono ?_
        rintro e w1' ⟨rfl, rfl⟩
        rw [Hdg.out]
        go_wp2
        go_loopw [6, 33] (fun m i wr => ∃ (k V : Nat) (A : Option Addr) (n c : Nat), k ≤ s.size ∧ i = .int .i64 k ∧ m = .slice A n c ∧ n ≤ 8 ∧ Hid (n = (canon V).length ∧ V = decV (s.data.toList.take k)) ∧ Own wr w.heap.size 50 1 m n (encW (canon V)) ∧ New w wr ∧ Hid (Blk wr w.heap.size 24 [.bool false, .slice none 0 0])) (fun _ i _ => s.size - (intOf i).toNat)
        case atStart => exact ⟨0, 0, none, 0, 0, by omega, rfl, rfl, by omega, ⟨by rw [canon_zero]; rfl, rfl⟩, by rw [canon_zero]; exact Own.nil_ _ _ _ _, H1.out.1, H1.out.2⟩
        case round =>
          obtain ⟨k, V, A, n, c, hk, rfl, rfl, hn8, hV, hown, hnew, hbox⟩ := hrel
          have HV := hide (show n = (canon V).length ∧ V = decV (s.data.toList.take k) from hV)
          clear hV
          by_cases hlt : k < s.size
          · obtain ⟨x, hx⟩ : ∃ x, x = s[k].toNat := ⟨_, rfl⟩
            have hgk : s.data.toList[k]? = some s[k] := by
              have h : k < s.data.toList.length := by rw [len_data]; exact hlt
              rw [List.getElem?_eq_getElem h]
              rfl
            have hxr := HD.out s[k] (List.mem_of_getElem? hgk)
            rw [← hx] at hxr
            obtain ⟨hx1, hx2⟩ := hxr
            have hsucc : decV (s.data.toList.take (k + 1)) = 10 * V + (x - 48) := by
              rw [List.take_add_one, hgk]
              show decV (s.data.toList.take k ++ [s[k]]) = _
              rw [decV_snoc, ← HV.out.2, ← hx]
            have hM := mulTen_start (limbs_canon V) (x - 48)
            have hcast : (x : Int) - 48 = ((x - 48 : Nat) : Int) := by omega
            have H0 := hide (And.intro hown (And.intro hnew (And.intro hbox (And.intro hsucc (And.intro hM hcast)))))
            have hxk : s[k].toNat = x := hx.symm
            have hxlo : 48 ≤ s[k].toNat := by omega
            have hxhi : s[k].toNat ≤ 57 := by omega
            have Hxk := hide hxk
            clear hown hnew hbox hgk hsucc hM hcast hx hxk
            go_upto_region 11 with (fail)
            rw [Hxk.out, H0.out.2.2.2.2.2]
            clear hxlo hxhi
            obtain ⟨dg, hdgx⟩ : ∃ dg, dg = x - 48 := ⟨_, rfl⟩
            rw [← hdgx]
            have hd9 : dg ≤ 9 := by omega
            have H2 := hide (And.intro H0.out.1 (And.intro H0.out.2.1 (And.intro H0.out.2.2.1 (And.intro (by rw [hdgx]; exact H0.out.2.2.2.1 : decV (s.data.toList.take (k + 1)) = 10 * V + dg) (by rw [hdgx]; exact H0.out.2.2.2.2.1 : MulTen (canon V) (canon V) 0 dg dg)))))
            clear H0 hdgx
            go_wp2
            go_loopw [8, 43] (fun cv i wr => ∃ (t cc : Nat) (m2 : List Nat), t ≤ n ∧ i = .int .i64 t ∧ cv = .int .u64 (cc : Int) ∧ cc ≤ 9 ∧ Hid (MulTen (canon V) m2 t cc dg) ∧ Own wr w.heap.size 50 1 (.slice A n c) n (encW m2) ∧ New w wr ∧ Hid (Blk wr w.heap.size 24 [.bool false, .slice none 0 0])) (fun _ i _ => n - (intOf i).toNat)
            case atStart => exact ⟨0, dg, canon V, by omega, rfl, rfl, hd9, H2.out.2.2.2.2, H2.out.1, H2.out.2.1, H2.out.2.2.1⟩
            case round =>
              obtain ⟨t, cc, m2, ht, rfl, rfl, hcc, hM, hown, hnew, hbox⟩ := hrel
              have hM' : MulTen (canon V) m2 t cc dg := hM
              by_cases hlt2 : t < n
              · obtain ⟨g, rfl, hnc, hcm, hbg, hgl, hcell, hfz, hset⟩ := hown.place (j := t) hlt2
                rw [encW_get _ _ (by rw [hM'.len, ← HV.out.1]; exact hlt2), hM'.same t (Nat.le_refl _)] at hcell
                obtain ⟨hs1, hs2⟩ := mulTen_step (limbs_canon V) hM' (by rw [← HV.out.1]; exact hlt2) hcc
                obtain ⟨y, hy⟩ : ∃ y, y = (canon V).getD t 0 := ⟨_, rfl⟩
                rw [← hy] at hcell hs1 hs2
                have hyb : y < 4294967296 := by rw [hy]; exact (limbs_canon V).at _
                obtain ⟨s, hs⟩ : ∃ s, s = cc + 10 * y := ⟨_, rfl⟩
                rw [← hs] at hs1 hs2
                have e1 : Value.int .u32 (((cc : Int) + 10 * (y : Int)) % 4294967296) = .int .u32 ((s % 4294967296 : Nat) : Int) := by congr 1; rw [hs]; simp
                have e2 : Value.int .u64 (((cc : Int) + 10 * (y : Int)) / 4294967296) = .int .u64 ((s / 4294967296 : Nat) : Int) := by congr 1; rw [hs]; simp
                have hgq : g ≠ w.heap.size := fun h => hown.ne_blk (show Blk wr _ _ _ from hbox) (by decide) g (by
                  obtain ⟨c', rfl⟩ : ∃ c', c = c' + 1 := ⟨c - 1, by omega⟩
                  rfl) h
                have Hs := hide (And.intro hset (And.intro hs1 (And.intro e1 (And.intro e2 (And.intro hnew (And.intro hgq hbox))))))
                clear hset hs1 e1 e2 hnew hgq hbox hM hM' hy hs hown hcm
                go_wp2
                go_roundw
                case rel =>
                  obtain ⟨hset, hs1, e1, e2, hnew, hgq, hbox⟩ := Hs.out
                  refine ⟨t + 1, s / 4294967296, m2.set t (s % 4294967296), by omega, by go_num, e2, hs2, hs1, ?_, New.setAt hnew hbg _ _, (show Blk wr _ _ _ from hbox).far (p := ⟨g, t, none⟩) (Ne.symm hgq) _⟩
                  rw [e1, encW_set]
                  exact hset _
                case measure => simp [intOf] <;> omega
              · obtain rfl : t = n := by omega
                have hend : val (m2 ++ [cc]) = 10 * V + dg := by
                  have h := hM'
                  rw [HV.out.1] at h
                  have := mulTen_end h
                  rwa [val_canon] at this
                have hlm : Limbs (m2 ++ [cc]) := hM'.limbs.app (Limbs.cons (by omega) Limbs.nil)
                have hA : New wr (wr.alloc (.cells #[.int .u32 (cc : Int)] 50)) := (Upd.refl _ _).alloc _
                have P0 := push_limb hown hnew cc
                have P := hide (And.intro P0.1 (And.intro P0.2.1 (And.intro P0.2.2.1 (And.intro P0.2.2.2 (And.intro ((show Blk wr _ _ _ from hbox).new_ hA) (And.intro hend hlm))))))
                clear hown hnew hbox hM hM' hend hlm hA P0
                go_wp2_with (at_builtin; refine wpList_append_row _ rfl (.tmp 61) (.tmp 64) elW rfl w.heap.size (.slice A t c) t (encW m2) rfl P.out.1 (.slice (some ⟨wr.heap.size, 0, none⟩) 1 1) 1 (encW [cc]) rfl P.out.2.1 (encW_one _) (by omega) (by unfold maxLen; omega) P.out.2.2.1 ?_; intro v2 w2 hown2 hg2 _)
                have hn2 := push_new P.out.2.2.2.1 P.out.1 hg2
                have hu2 : Upd (fun q => ownB (.slice A t c) = some q) (wr.alloc (.cells #[.int .u32 (cc : Int)] 50)) w2 := (Upd.refl _ _).grown hg2 fun q hq => .inl hq
                have hbox2 := P.out.2.2.2.2.1.upd hu2 fun hq => P.out.1.ne_blk P.out.2.2.2.2.1 (by decide) _ hq rfl
                rw [← encW_app] at hown2
                obtain ⟨A2, c2, rfl⟩ := hown2.row.form
                have Q := hide (And.intro hown2 (And.intro hn2 hbox2))
                clear hu2 hbox2 hn2 hown2 hg2
                go_wp2_with fail
                refine (trim_any A2 (t + 1) c2 (m2 ++ [cc]) _ Q.out.1.row P.out.2.2.2.2.2.2).mono ?_
                rintro e w3 ⟨rfl, rfl⟩
                have hot := Q.out.1.trim P.out.2.2.2.2.2.2
                rw [P.out.2.2.2.2.2.1] at hot ⊢
                obtain ⟨nz, hnz⟩ : ∃ nz, nz = (canon (10 * V + dg)).length := ⟨_, rfl⟩
                rw [← hnz] at hot ⊢
                have hnzb : nz ≤ 9 := by
                  have h1 : (canon (10 * V + dg)).length ≤ t + 1 := by
                    have h := val_lt P.out.2.2.2.2.2.2
                    have hl : (m2 ++ [cc]).length = t + 1 := by have := Q.out.1.len; simpa [encW] using this
                    rw [P.out.2.2.2.2.2.1, hl] at h
                    exact canon_len_le h
                  omega
                have Hot := hide (And.intro hot hnz)
                clear hot hnz
                by_cases hfit : nz ≤ 8
                · go_wp2
                  go_roundw
                  case rel => exact ⟨k + 1, 10 * V + dg, A2, nz, c2, by omega, by go_num, rfl, hfit, ⟨Hot.out.2, H2.out.2.2.2.1.symm⟩, Hot.out.1, Q.out.2.1, Q.out.2.2⟩
                  case measure => simp [intOf] <;> omega
                · have hbig : 2 ^ 256 ≤ decV s.data.toList := by
                    have h1 := decV_mono s.data.toList (k + 1)
                    rw [H2.out.2.2.2.1] at h1
                    have h2 : ¬ (10 * V + dg) < 2 ^ 256 := by
                      rw [← canon_len8, ← Hot.out.2]
                      exact hfit
                    omega
                  have hz : parseD false s.data.toList = (0, 3) := by rw [parseD, if_pos Hdg.out, if_pos hbig]
                  obtain ⟨w4, hw4, hcan4, hn4, g0, g1, -⟩ := (CanAt.zero w2).store Q.out.2.2 Q.out.2.1 (Nat.le_refl _)
                  have hb2 : Blk w2 w.heap.size 24 [.bool false, .slice none 0 0] := Q.out.2.2
                  have r0 : w2.cell? ⟨w.heap.size, 0, none⟩ = some (.bool false) := hb2.cell 0
                  have r1 : w2.cell? ⟨w.heap.size, 1, none⟩ = some (.slice none 0 0) := hb2.cell 1
                  have f0 := hb2.frozen 0
                  have f1 := hb2.frozen 1
                  have H4 := hide (And.intro hcan4 (And.intro hn4 (And.intro hw4 hz)))
                  clear hbig hz hcan4 hn4 hw4 hb2
                  go_wp2
                  rw [← H4.out.2.2.1]
                  refine bodyPost_ret (v := .tuple #[.agg #[.bool false, .slice none 0 0], .int .i64 3]) (by simp [results, Try.results16, go_sem, g0, g1]) rfl ⟨false, none, 0, 0, ?_, ?_, H4.out.2.1⟩
                  · rw [HP.out, H4.out.2.2.2]
                  · rw [HP.out, H4.out.2.2.2]; exact H4.out.1
          · obtain rfl : k = s.size := by omega
            have hVd : V = decV s.data.toList := by
              have h := HV.out.2
              rwa [List.take_of_length_le (by rw [len_data]; exact Nat.le_refl _)] at h
            have hVb : ¬ 2 ^ 256 ≤ decV s.data.toList := by
              rw [← hVd]
              have h := (canon_len8 V).1 (by rw [← HV.out.1]; exact hn8)
              omega
            have hz : parseD false s.data.toList = (sgn false V, 0) := by rw [parseD, if_pos Hdg.out, if_neg hVb, hVd]
            have Q := hide (And.intro hown (And.intro hnew (And.intro hbox hz)))
            clear hown hnew hbox hz hVb hVd
            go_wp2_with fail
            refine (made_any A n c _ false _ Q.out.1.row (limbs_canon _)).mono ?_
            rw [val_canon]
            rintro e w5 ⟨f, A5, n5, c5, rfl, hcan, hm5⟩
            have hb5 := (show Blk wr _ _ _ from Q.out.2.2.1).new_ hm5
            have f0 := hb5.frozen 0
            have f1 := hb5.frozen 1
            have r0 : w5.cell? ⟨w.heap.size, 0, none⟩ = some (.bool false) := hb5.cell 0
            have r1 : w5.cell? ⟨w.heap.size, 1, none⟩ = some (.slice none 0 0) := hb5.cell 1
            obtain ⟨w6, hw6, hcan6, hn6, g0, g1, -⟩ := hcan.store hb5 (Q.out.2.1.transNew hm5) (Nat.le_refl _)
            have H6 := hide (And.intro hcan6 (And.intro hn6 hw6))
            clear hb5 hcan hm5 hcan6 hn6 hw6
            go_wp2
            rw [← H6.out.2.2]
            refine bodyPost_ret (v := .tuple #[.agg #[.bool f, .slice A5 n5 c5], .int .i64 0]) (by simp [results, Try.results16, go_sem, g0, g1]) rfl ⟨f, A5, n5, c5, ?_, ?_, H6.out.2.1⟩
            · rw [HP.out, Q.out.2.2.2]
            · rw [HP.out, Q.out.2.2.2]; exact H6.out.1
      · have hdg' : digB s.data.toList = false := by simpa using hdg
        have hz : parseD false s.data.toList = (0, 2) := by rw [parseD, if_neg hdg]
        have Hdg := hide (And.intro hdg' hz)
        clear hdg hdg' hz
        obtain ⟨w4, hw4, hcan4, hn4, g0, g1, -⟩ := (CanAt.zero w1).store H1.out.2 H1.out.1 (Nat.le_refl _)
        have r0 : w1.cell? ⟨w.heap.size, 0, none⟩ = some (.bool false) := (show Blk w1 _ _ _ from H1.out.2).cell 0
        have r1 : w1.cell? ⟨w.heap.size, 1, none⟩ = some (.slice none 0 0) := (show Blk w1 _ _ _ from H1.out.2).cell 1
        have f0 := (show Blk w1 _ _ _ from H1.out.2).frozen 0
        have f1 := (show Blk w1 _ _ _ from H1.out.2).frozen 1
        have H4 := hide (And.intro hcan4 (And.intro hn4 hw4))
        clear hcan4 hn4 hw4
        refine (digits_any s _ hDs).mono ?_
        rintro e w1' ⟨rfl, rfl⟩
        rw [Hdg.out.1]
        go_wp2
        rw [← H4.out.2.2]
        refine bodyPost_ret (v := .tuple #[.agg #[.bool false, .slice none 0 0], .int .i64 2]) (by simp [results, Try.results16, go_sem, g0, g1]) rfl ⟨false, none, 0, 0, ?_, ?_, H4.out.2.1⟩
        · rw [HP.out, Hdg.out.2]
        · rw [HP.out, Hdg.out.2]; exact H4.out.1
  · have hnil : s.data.toList = [] := List.eq_nil_of_length_eq_zero (by rw [len_data]; omega)
    obtain rfl : s = ⟨#[]⟩ := by
      cases s with
      | mk d =>
        have : d = #[] := Array.ext' hnil
        subst this
        rfl
    have hP : p = (0, 2) := by rw [hp]; rfl
    have HP := hide hP
    have hdg : digB (⟨#[]⟩ : ByteArray).data.toList = false := rfl
    have Hdg := hide hdg
    clear hp hP hnil hsz hdg
    go_enter Try.func16, Try.ntmps16
    go_wp2
    go_quiet (fail)
    go_wp2_with fail
    obtain ⟨w1, hw1⟩ : ∃ w1, w1 = (w.alloc (.cells #[.bool false, .slice none 0 0] 24)).drewN nq := ⟨_, rfl⟩
    have hn1 : New w w1 := by rw [hw1]; exact ((Upd.refl _ _).alloc _).drewN _
    have hb1 : Blk w1 w.heap.size 24 [.bool false, .slice none 0 0] := by rw [hw1]; exact Blk.new w _ _
    rw [← hw1]
    obtain ⟨w4, hw4, hcan4, hn4, g0, g1, -⟩ := (CanAt.zero w1).store hb1 hn1 (Nat.le_refl _)
    have r0 : w1.cell? ⟨w.heap.size, 0, none⟩ = some (.bool false) := hb1.cell 0
    have r1 : w1.cell? ⟨w.heap.size, 1, none⟩ = some (.slice none 0 0) := hb1.cell 1
    have f0 := hb1.frozen 0
    have f1 := hb1.frozen 1
    have H4 := hide (And.intro hcan4 (And.intro hn4 hw4))
    clear hcan4 hn4 hw4 hw1 hn1 hb1
    refine (digits_any _ _ hs).mono ?_
    rintro e w1' ⟨rfl, rfl⟩
    rw [Hdg.out]
    go_wp2
    rw [← H4.out.2.2]
    refine bodyPost_ret (v := .tuple #[.agg #[.bool false, .slice none 0 0], .int .i64 2]) (by simp [results, Try.results16, go_sem, g0, g1]) rfl ⟨false, none, 0, 0, ?_, ?_, H4.out.2.1⟩
    · rw [HP.out]
    · rw [HP.out]; exact H4.out.1
end Go.Proofs.Ytfhflpchfgkgcaa
