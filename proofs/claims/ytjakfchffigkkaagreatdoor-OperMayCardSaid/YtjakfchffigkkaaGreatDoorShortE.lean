import Derived.Test.YtjakfchffigkkaaGreatDoorShortD
import Derived.Test.YtjakfchffigkkaaGreatDoorReg2
namespace Go.Proofs.YtjakfchffigkkaaGreatDoor
open Go.RowKit
set_option linter.unusedVariables false
abbrev tr1 : List Bool := [true]
abbrev tr2 : List Bool := [true, true]
abbrev tr3 : List Bool := [true, true, true]
abbrev tr4 : List Bool := [true, true, true, true]
abbrev tr5 : List Bool := [true, true, true, true, true]
abbrev tr6 : List Bool := [true, true, true, true, true, true]
abbrev tr7 : List Bool := [true, true, true, true, true, true, true]
abbrev tr8 : List Bool := [true, true, true, true, true, true, true, true]
abbrev tr9 : List Bool := [true, true, true, true, true, true, true, true, true]
abbrev tr10 : List Bool := [true, true, true, true, true, true, true, true, true, true]
abbrev tr11 : List Bool := [true, true, true, true, true, true, true, true, true, true, true]
abbrev tr12 : List Bool := [true, true, true, true, true, true, true, true, true, true, true, true]
abbrev tr13 : List Bool := [true, true, true, true, true, true, true, true, true, true, true, true, true]
abbrev tr14 : List Bool := [true, true, true, true, true, true, true, true, true, true, true, true, true, true]
abbrev tr15 : List Bool := [true, true, true, true, true, true, true, true, true, true, true, true, true, true, true]
abbrev tr16 : List Bool := [true, true, true, true, true, true, true, true, true, true, true, true, true, true, true, true]
abbrev tr17 : List Bool := [true, true, true, true, true, true, true, true, true, true, true, true, true, true, true, true, true]
abbrev tr18 : List Bool := [true, true, true, true, true, true, true, true, true, true, true, true, true, true, true, true, true, true]
abbrev tr19 : List Bool := [true, true, true, true, true, true, true, true, true, true, true, true, true, true, true, true, true, true, true]
abbrev tr20 : List Bool := [true, true, true, true, true, true, true, true, true, true, true, true, true, true, true, true, true, true, true, true]
abbrev tr21 : List Bool := [true, true, true, true, true, true, true, true, true, true, true, true, true, true, true, true, true, true, true, true, true]
abbrev tr22 : List Bool := [true, true, true, true, true, true, true, true, true, true, true, true, true, true, true, true, true, true, true, true, true, true]
abbrev tr23 : List Bool := [true, true, true, true, true, true, true, true, true, true, true, true, true, true, true, true, true, true, true, true, true, true, true]
abbrev tr24 : List Bool := [true, true, true, true, true, true, true, true, true, true, true, true, true, true, true, true, true, true, true, true, true, true, true, true]
abbrev tr25 : List Bool := [true, true, true, true, true, true, true, true, true, true, true, true, true, true, true, true, true, true, true, true, true, true, true, true, true]
abbrev tr26 : List Bool := [true, true, true, true, true, true, true, true, true, true, true, true, true, true, true, true, true, true, true, true, true, true, true, true, true, true]
abbrev tr27 : List Bool := [true, true, true, true, true, true, true, true, true, true, true, true, true, true, true, true, true, true, true, true, true, true, true, true, true, true, true]
abbrev tr28 : List Bool := [true, true, true, true, true, true, true, true, true, true, true, true, true, true, true, true, true, true, true, true, true, true, true, true, true, true, true, true]
abbrev tr29 : List Bool := [true, true, true, true, true, true, true, true, true, true, true, true, true, true, true, true, true, true, true, true, true, true, true, true, true, true, true, true, true]
abbrev tr30 : List Bool := [true, true, true, true, true, true, true, true, true, true, true, true, true, true, true, true, true, true, true, true, true, true, true, true, true, true, true, true, true, true]
abbrev tr31 : List Bool := [true, true, true, true, true, true, true, true, true, true, true, true, true, true, true, true, true, true, true, true, true, true, true, true, true, true, true, true, true, true, true]
abbrev tr32 : List Bool := [true, true, true, true, true, true, true, true, true, true, true, true, true, true, true, true, true, true, true, true, true, true, true, true, true, true, true, true, true, true, true, true]
abbrev tr33 : List Bool := [true, true, true, true, true, true, true, true, true, true, true, true, true, true, true, true, true, true, true, true, true, true, true, true, true, true, true, true, true, true, true, true, true]
abbrev tr34 : List Bool := [true, true, true, true, true, true, true, true, true, true, true, true, true, true, true, true, true, true, true, true, true, true, true, true, true, true, true, true, true, true, true, true, true, true]
abbrev tr35 : List Bool := [true, true, true, true, true, true, true, true, true, true, true, true, true, true, true, true, true, true, true, true, true, true, true, true, true, true, true, true, true, true, true, true, true, true, true]
abbrev tr36 : List Bool := [true, true, true, true, true, true, true, true, true, true, true, true, true, true, true, true, true, true, true, true, true, true, true, true, true, true, true, true, true, true, true, true, true, true, true, true]
abbrev tr37 : List Bool := [true, true, true, true, true, true, true, true, true, true, true, true, true, true, true, true, true, true, true, true, true, true, true, true, true, true, true, true, true, true, true, true, true, true, true, true, true]
abbrev tr38 : List Bool := [true, true, true, true, true, true, true, true, true, true, true, true, true, true, true, true, true, true, true, true, true, true, true, true, true, true, true, true, true, true, true, true, true, true, true, true, true, true]
abbrev tr39 : List Bool := [true, true, true, true, true, true, true, true, true, true, true, true, true, true, true, true, true, true, true, true, true, true, true, true, true, true, true, true, true, true, true, true, true, true, true, true, true, true, true]
abbrev tr40 : List Bool := [true, true, true, true, true, true, true, true, true, true, true, true, true, true, true, true, true, true, true, true, true, true, true, true, true, true, true, true, true, true, true, true, true, true, true, true, true, true, true, true]
abbrev tr41 : List Bool := [true, true, true, true, true, true, true, true, true, true, true, true, true, true, true, true, true, true, true, true, true, true, true, true, true, true, true, true, true, true, true, true, true, true, true, true, true, true, true, true, true]
abbrev tr42 : List Bool := [true, true, true, true, true, true, true, true, true, true, true, true, true, true, true, true, true, true, true, true, true, true, true, true, true, true, true, true, true, true, true, true, true, true, true, true, true, true, true, true, true, true]
abbrev tr43 : List Bool := [true, true, true, true, true, true, true, true, true, true, true, true, true, true, true, true, true, true, true, true, true, true, true, true, true, true, true, true, true, true, true, true, true, true, true, true, true, true, true, true, true, true, true]
abbrev tr44 : List Bool := [true, true, true, true, true, true, true, true, true, true, true, true, true, true, true, true, true, true, true, true, true, true, true, true, true, true, true, true, true, true, true, true, true, true, true, true, true, true, true, true, true, true, true, true]
abbrev tr45 : List Bool := [true, true, true, true, true, true, true, true, true, true, true, true, true, true, true, true, true, true, true, true, true, true, true, true, true, true, true, true, true, true, true, true, true, true, true, true, true, true, true, true, true, true, true, true, true]
abbrev tr46 : List Bool := [true, true, true, true, true, true, true, true, true, true, true, true, true, true, true, true, true, true, true, true, true, true, true, true, true, true, true, true, true, true, true, true, true, true, true, true, true, true, true, true, true, true, true, true, true, true]
abbrev tr47 : List Bool := [true, true, true, true, true, true, true, true, true, true, true, true, true, true, true, true, true, true, true, true, true, true, true, true, true, true, true, true, true, true, true, true, true, true, true, true, true, true, true, true, true, true, true, true, true, true, true]
abbrev tr48 : List Bool := [true, true, true, true, true, true, true, true, true, true, true, true, true, true, true, true, true, true, true, true, true, true, true, true, true, true, true, true, true, true, true, true, true, true, true, true, true, true, true, true, true, true, true, true, true, true, true, true]
abbrev tr49 : List Bool := [true, true, true, true, true, true, true, true, true, true, true, true, true, true, true, true, true, true, true, true, true, true, true, true, true, true, true, true, true, true, true, true, true, true, true, true, true, true, true, true, true, true, true, true, true, true, true, true, true]
abbrev tr50 : List Bool := [true, true, true, true, true, true, true, true, true, true, true, true, true, true, true, true, true, true, true, true, true, true, true, true, true, true, true, true, true, true, true, true, true, true, true, true, true, true, true, true, true, true, true, true, true, true, true, true, true, true]
abbrev tr51 : List Bool := [true, true, true, true, true, true, true, true, true, true, true, true, true, true, true, true, true, true, true, true, true, true, true, true, true, true, true, true, true, true, true, true, true, true, true, true, true, true, true, true, true, true, true, true, true, true, true, true, true, true, true]
abbrev tr52 : List Bool := [true, true, true, true, true, true, true, true, true, true, true, true, true, true, true, true, true, true, true, true, true, true, true, true, true, true, true, true, true, true, true, true, true, true, true, true, true, true, true, true, true, true, true, true, true, true, true, true, true, true, true, true]
abbrev tr53 : List Bool := [true, true, true, true, true, true, true, true, true, true, true, true, true, true, true, true, true, true, true, true, true, true, true, true, true, true, true, true, true, true, true, true, true, true, true, true, true, true, true, true, true, true, true, true, true, true, true, true, true, true, true, true, true]
abbrev tr54 : List Bool := [true, true, true, true, true, true, true, true, true, true, true, true, true, true, true, true, true, true, true, true, true, true, true, true, true, true, true, true, true, true, true, true, true, true, true, true, true, true, true, true, true, true, true, true, true, true, true, true, true, true, true, true, true, true]
abbrev tr55 : List Bool := [true, true, true, true, true, true, true, true, true, true, true, true, true, true, true, true, true, true, true, true, true, true, true, true, true, true, true, true, true, true, true, true, true, true, true, true, true, true, true, true, true, true, true, true, true, true, true, true, true, true, true, true, true, true, true]
abbrev tr56 : List Bool := [true, true, true, true, true, true, true, true, true, true, true, true, true, true, true, true, true, true, true, true, true, true, true, true, true, true, true, true, true, true, true, true, true, true, true, true, true, true, true, true, true, true, true, true, true, true, true, true, true, true, true, true, true, true, true, true]
abbrev tr57 : List Bool := [true, true, true, true, true, true, true, true, true, true, true, true, true, true, true, true, true, true, true, true, true, true, true, true, true, true, true, true, true, true, true, true, true, true, true, true, true, true, true, true, true, true, true, true, true, true, true, true, true, true, true, true, true, true, true, true, true]
abbrev tr58 : List Bool := [true, true, true, true, true, true, true, true, true, true, true, true, true, true, true, true, true, true, true, true, true, true, true, true, true, true, true, true, true, true, true, true, true, true, true, true, true, true, true, true, true, true, true, true, true, true, true, true, true, true, true, true, true, true, true, true, true, true]
abbrev tr59 : List Bool := [true, true, true, true, true, true, true, true, true, true, true, true, true, true, true, true, true, true, true, true, true, true, true, true, true, true, true, true, true, true, true, true, true, true, true, true, true, true, true, true, true, true, true, true, true, true, true, true, true, true, true, true, true, true, true, true, true, true, true]
abbrev tr60 : List Bool := [true, true, true, true, true, true, true, true, true, true, true, true, true, true, true, true, true, true, true, true, true, true, true, true, true, true, true, true, true, true, true, true, true, true, true, true, true, true, true, true, true, true, true, true, true, true, true, true, true, true, true, true, true, true, true, true, true, true, true, true]
abbrev wk := @wp_seq_k
abbrev wt := @wp_cond_true
abbrev wf := @wp_cond_false
abbrev wb := @wp_block
abbrev ws := @wp_skip
theorem Known.G {ops : Array Oper} {FF : Array Bool} {Ts : List (Value → World → Prop)} {a0 a : Act} {i : Nat} {w : World} (hk : Known ops FF (TL Ts) a0 i a w) (k d : Nat) (h1 : (afterOf ops i).contains k = true := by kernel_rfl) (h2 : (ops[k]?).bind (·.dst) = some d := by kernel_rfl) : TL Ts k (a.eval (.tmp d)) w := hk.dep k d h1 h2
theorem res9 {fn : Func} {t : Tmp} {s : Tmp} {a : Act} {b : Nat} {tt : TypeId} {cs : List Value} {y : Value} {w : World} (h : a.eval (.tmp t) = .pointer (some ⟨b, 0, none⟩)) (h1 : a.eval (.tmp s) = y) (hb : Blk w b tt cs) (hf : fn.results = #[.cell t 29, .tmp s] := by rfl) (hl : cs.length = 7 := by rfl) : (results fn a.tmps).run Tryz.prog w = .ok (.tuple #[.agg cs.toArray, y]) w := res_ct hf h h1 (l_agg Tryz.isAgg29 Tryz.sizeOf29 hb hl)
theorem putAll0 : ∀ (vs cs : List Value), vs.length = cs.length → putAt cs 0 vs = vs := by
  have key : ∀ (vs ps cs : List Value), vs.length = cs.length → putAt (ps ++ cs) ps.length vs = ps ++ vs := by
    intro vs
    induction vs with
    | nil => intro ps cs h; cases cs with
      | nil => rfl
      | cons _ _ => cases h
    | cons v vs ih =>
      intro ps cs h
      cases cs with
      | nil => cases h
      | cons c cs =>
        have h' : vs.length = cs.length := by simpa using h
        show putAt ((ps ++ c :: cs).set ps.length v) (ps.length + 1) vs = _
        have e : (ps ++ c :: cs).set ps.length v = (ps ++ [v]) ++ cs := by simp
        rw [e, show ps.length + 1 = (ps ++ [v]).length by simp, ih (ps ++ [v]) cs h']
        simp
  intro vs cs h
  simpa using key vs [] cs h
theorem Upd.tR {F G : Nat → Prop} {a b c : World} (h : Upd F a b) (k : Upd G b c) (hG : ∀ i, i < a.heap.size → G i → F i := by exact fun _ h b => by subst b; omega) : Upd F a c := h.trans k hG
section
variable {P : Program} {ops : Array Oper} {QQ : Exit → Act → World → Prop} {Ts : List (Value → World → Prop)} {FF : Array Bool} {a0 : Act} {w0 : World} {news EE : List Nat} {r : List Bool} {i d : Nat}
theorem AllAt.L2 {b : Nat} {cs : List Value} {tt : TypeId} (h : a0.eval (.tmp d) = .pointer (some ⟨b, 0, none⟩)) (hb : Blk w0 b tt cs) (t : AA Tryz.prog ops QQ Ts FF a0 w0 news EE r (i + 1))
    (hl : cs.length = 2 := by rfl) (hi : ops.toList[i]? = some (opAt ops i) := by rfl) (hg : (opAt ops i).guard = none := by rfl) (ho : (opAt ops i).op = .load 23 (.tmp d) := by rfl) (hf : fixedB ops FF d = true := by kernel_rfl) (hT : ∀ w, TL Ts i (.agg cs.toArray) w := by exact fun _ => rfl) (hn : news.contains i = false := by rfl) : AllAt (fun i => EE.contains i = false → StepG Tryz.prog ops QQ FF (TL Ts) a0 w0 news i) (true :: r) i := .L h (fun n => l_agg Tryz.isAgg23 Tryz.sizeOf23 (hb.new_ n) hl) t hi hg ho hf hT hn
theorem AllAt.L9 {b : Nat} {cs : List Value} {tt : TypeId} (h : a0.eval (.tmp d) = .pointer (some ⟨b, 0, none⟩)) (hb : Blk w0 b tt cs) (t : AA Tryz.prog ops QQ Ts FF a0 w0 news EE r (i + 1))
    (hl : cs.length = 7 := by rfl) (hi : ops.toList[i]? = some (opAt ops i) := by rfl) (hg : (opAt ops i).guard = none := by rfl) (ho : (opAt ops i).op = .load 29 (.tmp d) := by rfl) (hf : fixedB ops FF d = true := by kernel_rfl) (hT : ∀ w, TL Ts i (.agg cs.toArray) w := by exact fun _ => rfl) (hn : news.contains i = false := by rfl) : AllAt (fun i => EE.contains i = false → StepG Tryz.prog ops QQ FF (TL Ts) a0 w0 news i) (true :: r) i := .L h (fun n => l_agg Tryz.isAgg29 Tryz.sizeOf29 (hb.new_ n) hl) t hi hg ho hf hT hn
theorem AllAt.L6 {b : Nat} {cs : List Value} {tt : TypeId} (h : a0.eval (.tmp d) = .pointer (some ⟨b, 0, none⟩)) (hb : Blk w0 b tt cs) (t : AA Tryz.prog ops QQ Ts FF a0 w0 news EE r (i + 1))
    (hl : cs.length = 2 := by rfl) (hi : ops.toList[i]? = some (opAt ops i) := by rfl) (hg : (opAt ops i).guard = none := by rfl) (ho : (opAt ops i).op = .load 26 (.tmp d) := by rfl) (hf : fixedB ops FF d = true := by kernel_rfl) (hT : ∀ w, TL Ts i (.agg cs.toArray) w := by exact fun _ => rfl) (hn : news.contains i = false := by rfl) : AllAt (fun i => EE.contains i = false → StepG Tryz.prog ops QQ FF (TL Ts) a0 w0 news i) (true :: r) i := .L h (fun n => l_agg Tryz.isAgg26 Tryz.sizeOf26 (hb.new_ n) hl) t hi hg ho hf hT hn
theorem AllAt.K2 (k : Nat) {b j : Nat} {cs : List Value} {tt : TypeId} (hb : Blk w0 b tt cs) (t : AA Tryz.prog ops QQ Ts FF a0 w0 news EE r (i + 1))
    (h3 : Ts[k]? = some fun x _ => x = .pointer (some ⟨b, j, none⟩) := by rfl) (hl : Nat.ble (j + 2) cs.length = true := by rfl) (hi : ops.toList[i]? = some (opAt ops i) := by rfl) (hg : (opAt ops i).guard = none := by rfl) (ho : (opAt ops i).op = .load 23 (.tmp d) := by rfl) (h1 : (afterOf ops i).contains k = true := by kernel_rfl) (h2 : (ops[k]?).bind (·.dst) = some d := by kernel_rfl) (hT : ∀ w, TL Ts i (.agg ((cs.drop j).take 2).toArray) w := by exact fun _ => rfl) (hn : news.contains i = false := by rfl) : AllAt (fun i => EE.contains i = false → StepG Tryz.prog ops QQ FF (TL Ts) a0 w0 news i) (true :: r) i := .K k h3 (fun n => l_part Tryz.isAgg23 Tryz.sizeOf23 (hb.new_ n) (Nat.le_of_ble_eq_true hl)) t hi hg ho h1 h2 hT hn
theorem AllAt.K6 (k : Nat) {b j : Nat} {cs : List Value} {tt : TypeId} (hb : Blk w0 b tt cs) (t : AA Tryz.prog ops QQ Ts FF a0 w0 news EE r (i + 1))
    (h3 : Ts[k]? = some fun x _ => x = .pointer (some ⟨b, j, none⟩) := by rfl) (hl : Nat.ble (j + 2) cs.length = true := by rfl) (hi : ops.toList[i]? = some (opAt ops i) := by rfl) (hg : (opAt ops i).guard = none := by rfl) (ho : (opAt ops i).op = .load 26 (.tmp d) := by rfl) (h1 : (afterOf ops i).contains k = true := by kernel_rfl) (h2 : (ops[k]?).bind (·.dst) = some d := by kernel_rfl) (hT : ∀ w, TL Ts i (.agg ((cs.drop j).take 2).toArray) w := by exact fun _ => rfl) (hn : news.contains i = false := by rfl) : AllAt (fun i => EE.contains i = false → StepG Tryz.prog ops QQ FF (TL Ts) a0 w0 news i) (true :: r) i := .K k h3 (fun n => l_part Tryz.isAgg26 Tryz.sizeOf26 (hb.new_ n) (Nat.le_of_ble_eq_true hl)) t hi hg ho h1 h2 hT hn
theorem AllAt.J (k : Nat) {ty tt : TypeId} {b j : Nat} {cs : List Value} {v : Value} (ht : ∀ w, (isAgg ty).run P w = .ok false w) (hb : Blk w0 b tt cs) (t : AA P ops QQ Ts FF a0 w0 news EE r (i + 1)) (hT : ∀ w, TL Ts i v w := by exact fun _ => rfl)
    (h3 : Ts[k]? = some fun x _ => x = .pointer (some ⟨b, j, none⟩) := by rfl) (hc : cs[j]? = some v := by rfl) (hi : ops.toList[i]? = some (opAt ops i) := by rfl) (hg : (opAt ops i).guard = none := by rfl) (ho : (opAt ops i).op = .load ty (.tmp d) := by rfl) (h1 : (afterOf ops i).contains k = true := by kernel_rfl) (h2 : (ops[k]?).bind (·.dst) = some d := by kernel_rfl) (hn : news.contains i = false := by rfl) : AllAt (fun i => EE.contains i = false → StepG P ops QQ FF (TL Ts) a0 w0 news i) (true :: r) i := .K k h3 (fun n => l_one ht (((hb.new_ n).cell j).trans hc)) t hi hg ho h1 h2 hT hn
theorem AllAt.H {op : BinOp} {ty t' : TypeId} {y : Operand} {u v x : Value} (hx : a0.eval (.tmp d) = u) (h : ∀ w, (binOp op ty u v).run P w = .ok x w) (t : AA P ops QQ Ts FF a0 w0 news EE r (i + 1))
    (hi : ops.toList[i]? = some (opAt ops i) := by rfl) (hg : (opAt ops i).guard = none := by rfl) (ho : (opAt ops i).op = .binOp op ty (.tmp d) y t' := by rfl) (hy : ∀ a : Act, a.eval y = v := by exact fun _ => rfl) (hT : ∀ w, TL Ts i x w := by exact fun _ => rfl) (he : ∀ w, (eqGuard op ty (.tmp d) y u v).run P w = .ok () w := by exact fun _ => rfl) (hf : fixedB ops FF d = true := by kernel_rfl) (hn : news.contains i = false := by rfl) : AllAt (fun i => EE.contains i = false → StepG P ops QQ FF (TL Ts) a0 w0 news i) (true :: r) i := .T (fun kn => v_bin ho (kn.fx d hx hf) (hy _) he h) t hi hg hT hn
theorem wA {id : Nat} {dr : Bool} (fs : List Bool) (R : List (Nat × Bool)) (N : Nat) (Ts : List (Value → World → Prop)) (hN : a0.tmps.size = N)
    (hstep : AllAt (fun i => ([] : List Nat).contains i = false → StepG P ops QQ fs.toArray (TL Ts) a0 w0 [] i) fs 0)
    (hend : ∀ a w, New w0 w → After ops fs.toArray [] (TL Ts) a0 a w → stepsTo P ops (fun _ => True) QQ R a w)
    (hT : Monos Ts := by repeat (first | exact Monos.nil | refine Monos.eq ?_ | refine Monos.tt ?_)) (hm : P.follows .mixedOrders = true := by kernel_rfl) (hc : invCheck ops fs.toArray [] R N = true := by kernel_rfl)
    (hQ : ∀ c a d v w, QQ (.panic c) (a.put d v) w → QQ (.panic c) a w := by (intro _ _ d _ _ h; cases d <;> exact h)) : (Code.region id ops dr).wp P QQ a0 w0 := wp_g0 fs R N Ts hN hT hstep hend hm hc hQ
theorem wB {id : Nat} {dr : Bool} (fs : List Bool) (E : List Nat) (R : List (Nat × Bool)) (N : Nat) (Ts : List (Value → World → Prop)) (news : List Nat) (hN : a0.tmps.size = N)
    (hstep : AllAt (fun i => E.contains i = false → StepG P ops QQ fs.toArray (TL Ts) a0 w0 news i) fs 0)
    (heager : ∀ i, E.contains i = true → EagerOk P ops fs.toArray (TL Ts) a0 w0 i)
    (hend : ∀ a w, New w0 w → After ops fs.toArray news (TL Ts) a0 a w → stepsTo P ops (fun _ => True) QQ R a w)
    (hT : Monos Ts := by repeat (first | exact Monos.nil | refine Monos.eq ?_ | refine Monos.tt ?_ | refine Monos.nw ?_)) (hold : ∀ j, j ∈ news → ∀ v w, TL Ts j v w → OldPtr v w := by repeat (first | exact newsNil | refine newsCons (fun v w h => IsNew.old h) ?_))
    (hEN : E.all (fun i => !news.contains i) = true := by rfl) (hm : P.follows .mixedOrders = true := by kernel_rfl) (hc : invCheck ops fs.toArray E R N = true := by kernel_rfl)
    (hQ : ∀ c a d v w, QQ (.panic c) (a.put d v) w → QQ (.panic c) a w := by (intro _ _ d _ _ h; cases d <;> exact h)) : (Code.region id ops dr).wp P QQ a0 w0 := wp_g fs E R N Ts news hold hN hT hstep heager hend hEN hm hc hQ
theorem eg1 {p : Nat → Prop} {a : Nat} (h : p a) : ∀ i, [a].contains i = true → p i := by
  intro i hi
  simp only [List.contains_eq_mem, List.mem_cons, List.not_mem_nil, or_false, decide_eq_true_eq] at hi
  subst hi; exact h
theorem eg2 {p : Nat → Prop} {a b : Nat} (h : p a) (h2 : p b) : ∀ i, [a, b].contains i = true → p i := by
  intro i hi
  simp only [List.contains_eq_mem, List.mem_cons, List.not_mem_nil, or_false, decide_eq_true_eq] at hi
  rcases hi with rfl | rfl
  exact h
  exact h2
theorem eg3 {p : Nat → Prop} {a b c : Nat} (h : p a) (h2 : p b) (h3 : p c) : ∀ i, [a, b, c].contains i = true → p i := by
  intro i hi
  simp only [List.contains_eq_mem, List.mem_cons, List.not_mem_nil, or_false, decide_eq_true_eq] at hi
  rcases hi with rfl | rfl | rfl
  exact h
  exact h2
  exact h3
theorem heN : ∀ {P : Program} {ops : Array Oper} {FF : Array Bool} {T : Nat → Value → World → Prop} {a0 : Act} {w0 : World} (i : Nat), ([] : List Nat).contains i = true → EagerOk P ops FF T a0 w0 i := fun i h => by cases h
end
section
variable {P : Program} {ops : Array Oper} {QQ : Exit → Act → World → Prop} {S : World → Prop} {r : List (Nat × Bool)} {i d : Nat}
def PutOf (d : Nat) (a a' : Act) : Prop := ∀ j, d ≠ j → a'.eval (.tmp j) = a.eval (.tmp j)
theorem sP {a : Act} {w : World} {x : Operand} {v : Value} {N : Nat} (hx : a.eval x = v) (hs : a.tmps.size = N) (hd : a.defers = []) (h : ∀ a', a'.tmps.size = N → a'.defers = [] → PutOf d a a' → a'.eval (.tmp d) = v → stepsTo P ops S QQ r a' w)
    (hi : ops.toList[i]? = some (opAt ops i) := by rfl) (ho : (opAt ops i).op = .assign x := by rfl) (hw : Region.wanted (opAt ops i) (yielded ops a.tmps) = true := by rfl) (hdst : (opAt ops i).dst = some d := by rfl) (hl : d < N := by decide) : stepsTo P ops S QQ ((i, true) :: r) a w := by
  refine st_take hi hw (fun w _ => v_assign ho hx) rfl ?_
  rw [hdst]
  exact h _ (pz rfl hs) (pd rfl hd) (fun j hj => put_ne _ _ _ _ hj) (put_same _ _ _ (by omega))
theorem PutOf.q {a a' : Act} {j : Nat} {x : Value} (h : PutOf d a a') (hx : a.eval (.tmp j) = x) (hd : d ≠ j := by decide) : a'.eval (.tmp j) = x := (h j hd).trans hx
theorem PutOf.q2 {a a' : Act} {j j2 : Nat} {x x2 : Value} (h : PutOf d a a') (hx : a.eval (.tmp j) = x) (hx2 : a.eval (.tmp j2) = x2) (hd : d ≠ j := by decide) (hd2 : d ≠ j2 := by decide) : a'.eval (.tmp j) = x ∧ a'.eval (.tmp j2) = x2 := ⟨h.q hx hd, h.q hx2 hd2⟩
theorem PutOf.q3 {a a' : Act} {j j2 j3 : Nat} {x x2 x3 : Value} (h : PutOf d a a') (hx : a.eval (.tmp j) = x) (hx2 : a.eval (.tmp j2) = x2) (hx3 : a.eval (.tmp j3) = x3) (hd : d ≠ j := by decide) (hd2 : d ≠ j2 := by decide) (hd3 : d ≠ j3 := by decide) : a'.eval (.tmp j) = x ∧ a'.eval (.tmp j2) = x2 ∧ a'.eval (.tmp j3) = x3 := ⟨h.q hx hd, h.q hx2 hd2, h.q hx3 hd3⟩
theorem sS2 {a : Act} {w : World} {x y : Operand} {q : Nat} {tt : TypeId} {vs cs : List Value} (hx : a.eval x = .pointer (some ⟨q, 0, none⟩)) (hy : a.eval y = .agg vs.toArray) (hb : Blk w q tt cs) (h : ∀ w', Blk w' q tt vs → Upd (fun k => k = q) w w' → (∀ {g s ds}, g ≠ q → Blk w g s ds → Blk w' g s ds) → stepsTo Tryz.prog ops S QQ r a w')
    (hi : ops.toList[i]? = some (opAt ops i) := by rfl) (ho : (opAt ops i).op = .store 23 x y := by rfl) (hw : Region.wanted (opAt ops i) (yielded ops a.tmps) = true := by rfl) (hd : (opAt ops i).dst = none := by rfl) (hl : cs.length = 2 := by rfl) (hm : vs.length = 2 := by rfl) (hS : ∀ w, S w := by exact fun _ => trivial) (hv : (Value.agg vs.toArray).cells = vs.toArray := by rfl) (h1 : (vs.all (·.oneCell')) = true := by rfl) : stepsTo Tryz.prog ops S QQ ((i, false) :: r) a w := by
  obtain ⟨w', e1, e2, e3, e4⟩ := s_many (P := Tryz.prog) (t := 23) (i := 0) vs Tryz.sizeOf23 hm hv h1 hb (by omega)
  rw [putAll0 vs cs (by omega)] at e2
  refine st_act hi hw fun K hK => a_store' ho hx hy e1 (hK _ _ (hS _) ?_)
  rw [hd, show a.put none undef = a from rfl]
  exact h w' e2 e3 fun hg hb => e4 _ _ _ hg hb
theorem sS9 {a : Act} {w : World} {x y : Operand} {q : Nat} {tt : TypeId} {vs cs : List Value} (hx : a.eval x = .pointer (some ⟨q, 0, none⟩)) (hy : a.eval y = .agg vs.toArray) (hb : Blk w q tt cs) (h : ∀ w', Blk w' q tt vs → Upd (fun k => k = q) w w' → (∀ {g s ds}, g ≠ q → Blk w g s ds → Blk w' g s ds) → stepsTo Tryz.prog ops S QQ r a w')
    (hi : ops.toList[i]? = some (opAt ops i) := by rfl) (ho : (opAt ops i).op = .store 29 x y := by rfl) (hw : Region.wanted (opAt ops i) (yielded ops a.tmps) = true := by rfl) (hd : (opAt ops i).dst = none := by rfl) (hl : cs.length = 7 := by rfl) (hm : vs.length = 7 := by rfl) (hS : ∀ w, S w := by exact fun _ => trivial) (hv : (Value.agg vs.toArray).cells = vs.toArray := by rfl) (h1 : (vs.all (·.oneCell')) = true := by rfl) : stepsTo Tryz.prog ops S QQ ((i, false) :: r) a w := by
  obtain ⟨w', e1, e2, e3, e4⟩ := s_many (P := Tryz.prog) (t := 29) (i := 0) vs Tryz.sizeOf29 hm hv h1 hb (by omega)
  rw [putAll0 vs cs (by omega)] at e2
  refine st_act hi hw fun K hK => a_store' ho hx hy e1 (hK _ _ (hS _) ?_)
  rw [hd, show a.put none undef = a from rfl]
  exact h w' e2 e3 fun hg hb => e4 _ _ _ hg hb
theorem sS6 {a : Act} {w : World} {x y : Operand} {q : Nat} {tt : TypeId} {vs cs : List Value} (hx : a.eval x = .pointer (some ⟨q, 0, none⟩)) (hy : a.eval y = .agg vs.toArray) (hb : Blk w q tt cs) (h : ∀ w', Blk w' q tt vs → Upd (fun k => k = q) w w' → (∀ {g s ds}, g ≠ q → Blk w g s ds → Blk w' g s ds) → stepsTo Tryz.prog ops S QQ r a w')
    (hi : ops.toList[i]? = some (opAt ops i) := by rfl) (ho : (opAt ops i).op = .store 26 x y := by rfl) (hw : Region.wanted (opAt ops i) (yielded ops a.tmps) = true := by rfl) (hd : (opAt ops i).dst = none := by rfl) (hl : cs.length = 2 := by rfl) (hm : vs.length = 2 := by rfl) (hS : ∀ w, S w := by exact fun _ => trivial) (hv : (Value.agg vs.toArray).cells = vs.toArray := by rfl) (h1 : (vs.all (·.oneCell')) = true := by rfl) : stepsTo Tryz.prog ops S QQ ((i, false) :: r) a w := by
  obtain ⟨w', e1, e2, e3, e4⟩ := s_many (P := Tryz.prog) (t := 26) (i := 0) vs Tryz.sizeOf26 hm hv h1 hb (by omega)
  rw [putAll0 vs cs (by omega)] at e2
  refine st_act hi hw fun K hK => a_store' ho hx hy e1 (hK _ _ (hS _) ?_)
  rw [hd, show a.put none undef = a from rfl]
  exact h w' e2 e3 fun hg hb => e4 _ _ _ hg hb
end
class Mv (w w' : World) (P : Prop) (R : outParam Prop) : Prop where
  mv : New w w' → P → R
section
variable {w w' : World} {P P2 P3 P4 R R2 R3 R4 : Prop}
instance {q : Nat} {t : TypeId} {cs : List Value} : Mv w w' (Blk w q t cs) (Blk w' q t cs) := ⟨fun n h => h.new_ n⟩
instance {k : IntKind} {A : Option Addr} {xs : List Nat} {c : Nat} : Mv w w' (SRow w k A xs c) (SRow w' k A xs c) := ⟨fun n h => h.new_ n⟩
instance {b : Nat} {e : TypeId} {k : IntKind} {A : Option Addr} {xs : List Nat} {c : Nat} : Mv w w' (SOwn w b e k A xs c) (SOwn w' b e k A xs c) := ⟨fun n h => h.new_ n⟩
instance {b o : Nat} {x : Value} : Mv w w' (SElem w b o x) (SElem w' b o x) := ⟨fun n h => h.new_ n⟩
theorem nw2 (n : New w w') (h : P) (h2 : P2) [i : Mv w w' P R] [i2 : Mv w w' P2 R2] : R ∧ R2 := ⟨i.mv n h, i2.mv n h2⟩
theorem nw3 (n : New w w') (h : P) (h2 : P2) (h3 : P3) [i : Mv w w' P R] [i2 : Mv w w' P2 R2] [i3 : Mv w w' P3 R3] : R ∧ R2 ∧ R3 := ⟨i.mv n h, i2.mv n h2, i3.mv n h3⟩
theorem nw4 (n : New w w') (h : P) (h2 : P2) (h3 : P3) (h4 : P4) [i : Mv w w' P R] [i2 : Mv w w' P2 R2] [i3 : Mv w w' P3 R3] [i4 : Mv w w' P4 R4] : R ∧ R2 ∧ R3 ∧ R4 := ⟨i.mv n h, i2.mv n h2, i3.mv n h3, i4.mv n h4⟩
end
end Go.Proofs.YtjakfchffigkkaaGreatDoor
