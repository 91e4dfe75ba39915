/- 'renlaw10.ConvTells': for every input the law answers true and leaves its arguments as they were; the card ties the listed variables of the library to the program's text. -/
import Derived.Test.YtecgdgjlmlpcnaaGreatDoorRows
import Derived.Test.YtecgdgjlmlpcnaaGreatDoorTie
import Derived.Test.YtecgdgjlmlpcnaaGreatDoorCards
import Derived.Test.YtecgdgjlmlpcnaaGreatDoorTlR
import Derived.Test.YtecgdgjlmlpcnaaGreatDoorTlf
import Derived.SevenTiedAt
import Derived.ChangeMaps5
namespace Go.Proofs.YtecgdgjlmlpcnaaGreatDoor.ConvTellsDone
open Go.ChangeShapes Go.WideShapes Go.ChangeAt Go.RowKit
set_option linter.unusedVariables false
theorem laidW (os : Os) (args : Array Value) : laidMetH Tryz.prog Rows.convTellsRow.laid (((laidOn (World.holding Tryz.prog os ⟨#[], #[], []⟩))).forCall (fun _ _ => 0) ⟨#[], args, []⟩).memory := laid_met os args
set_option maxRecDepth 100000 in
theorem lifted (os : Os) (started : os.Started) (H : Type) (enc : TypeId × Value → H) :
    ReturnsInHanded {} Tryz.checked os 3 .any (fun w args => (Rows.convTellsSpec.pre enc Tryz.prog Tryz.f3 [] false w args ∧ laidMetH Tryz.prog Rows.convTellsRow.laid w) ∧ sizedMet enc Tryz.prog Tryz.f3 (OpenSpec.ofChange Rows.convTellsSpec) false w args)
      (Rows.convTellsSpec.post enc Tryz.prog Tryz.f3 false true false false) := by
  refine returnsInHanded_of_change_and (C := Tryz.checked) (X := fun w _ => laidMetH Tryz.prog Rows.convTellsRow.laid w) (fun _ _ _ hh h => h.of_heap hh) own started (by kernel_rfl) Tryz.func3
    (ChangeSpec.witness_at (enc := enc) (C := Tryz.checked) (os := os) (X := fun w _ => laidMetH Tryz.prog Rows.convTellsRow.laid w) false _ #[.agg #[.int .i64 0, .int .i64 0, .int .i64 0, .bool false, .slice none 0 0, .slice none 0 0, .int .i64 0]] 8 rfl (by kernel_rfl) (by kernel_rfl) (by kernel_rfl) (by kernel_rfl) (by kernel_rfl) (laidW os _)) ?_
  intro W base args ds gs before hval0 hW _ hsz hL _
  have hval : ∀ (j : Nat) t v, Tryz.f3.params[j]? = some t → args[j]? = some v → Value.okWide Tryz.prog W .any base t v := hval0
  have hW' := hW
  obtain ⟨p, q, hA0, hV0, rfl, hfz, hnd⟩ := hW
  have hA : DataW.TrodAll enc Tryz.prog W 0 (fun _ => true) true Tryz.f3.params.toList args.toList ds p := hA0
  have hV : DataW.TrodVars enc Tryz.prog W (fun _ => true) [] gs q := hV0
  rw [Tryz.params3] at hA hval
  obtain ⟨v0, vs0, d0, ds0, p0, q0, hargs, rfl, rfl, h0, r0⟩ := trodAll_cons hA
  obtain ⟨rfl, rfl, rfl⟩ := trodAll_nil r0
  obtain rfl : args = #[v0] := by cases args; simp_all
  obtain ⟨rfl, rfl⟩ : gs = [] ∧ q = [] := by
    cases gs with
    | nil => exact ⟨rfl, hV⟩
    | cons g r => exact absurd hV (by intro h; cases h)
  have k0 := h0
  have lt0 : ∀ x ∈ p0, x.block < W.heap.size := by obtain ⟨m, hm⟩ := k0; exact DataW.trod_lt m _ _ _ hm
  obtain ⟨x0, A0, c0, B0, e0, rfl, hr0, hs0, hl0, hu0, hb0⟩ := vl_of (hval 0 29 v0 rfl rfl) h0
  clear hA0 hval0
  refine (tells_w x0 A0 c0 B0 e0 W hr0 hs0 hl0 hu0 hb0 (itoaOk (tab_of_laid hL (by kernel_rfl)))).mono fun e W' hIs => ?_
  obtain ⟨he, hnew⟩ : e = .returned (.bool true) ∧ New W W' := hIs
  subst he
  have bel := hnew.below
  exact ⟨_, rfl, _, _, _, [], _, [], hW', trodAll_mk1 (shut_bool Tryz.underlying4 _),
    (trodAll_cons_mk (Below.trod laidOut (by kernel_rfl) (of_decide_eq_true (by kernel_rfl)) k0 bel lt0) trodAll_mk0), rfl, bel.frame _, fun h => by cases h⟩
theorem row : Rows.ConvTellsSaid :=
  OpenClaim.holds_of_wide 3 Tryz.f3 rfl rfl rfl rfl rfl rfl rfl ⟨rfl, rfl, rfl, rfl, rfl⟩ rfl rfl rfl rfl rfl (by kernel_rfl) Tryz.func3 (by kernel_rfl)
    (of_decide_eq_true (by kernel_rfl)) (by unfold Func.isWrapper; first | (rw [if_pos (by decide +kernel)]; kernel_rfl) | (rw [if_neg (by decide +kernel)]; exact ⟨rfl, rfl⟩))
    (fun os started H enc _ => lifted os started H enc)
set_option maxRecDepth 100000 in
/-- ████ THE STATEMENT ████ -/
theorem proved : Rows.ConvTellsCardSaid :=
  Claim7.holds_tied_plain_at .later [] [.data, .data, .data] true (true, "6a2036fbdf8f64131bc68d04ae7118d760627f77fb853041d62570ba46cabfed") false
    row (fun _ h => by cases h) (by kernel_rfl) (fun _ h => by cases h) convTells_row_tie rfl ⟨rfl, rfl⟩ (by kernel_rfl) rfl
    (fun f fn hf hfn => by
      obtain rfl : f = 3 := Option.some.inj ((show Tryz.prog.funcNamed "rendezvous/renlaw10.ConvTells" = some 3 by kernel_rfl).symm.trans hf) |>.symm
      obtain rfl : fn = Tryz.f3 := (Option.some.inj (Tryz.func3.symm.trans hfn)).symm
      exact ⟨by kernel_rfl, fun j t ht => by
        rw [Tryz.params3] at ht
        have h3 : t = 29 := by
          rcases j with _ | j
          · simp at ht; simp [← ht]
          · skip
            simp at ht
        rcases h3 with rfl
        all_goals first | exact (show Tryz.prog.wantsStandIn 29 = false by kernel_rfl)⟩)
    (by kernel_rfl)
end Go.Proofs.YtecgdgjlmlpcnaaGreatDoor.ConvTellsDone
