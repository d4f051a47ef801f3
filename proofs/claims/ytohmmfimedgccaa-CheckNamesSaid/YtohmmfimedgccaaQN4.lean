import Derived.Test.YtohmmfimedgccaaQN3
/- CheckNames returns true at every input. PART 5 OF 8: G89 G11 PC PD G1049 -/
section
namespace Go.Proofs.Ytohmmfimedgccaa.E
set_option maxRecDepth 100000
set_option maxHeartbeats 4000000
set_option linter.unusedVariables false
set_option linter.unusedSimpArgs false
noncomputable def body_Names_L0 (a0 : Expr) (f_body_Names : Expr → Option (List Expr)) : ((List Expr) × Int) → Option (((List Expr) × Int) ⊕ (List Expr))
 | (vout_5, v14_6) =>
  if (decide (v14_6 < ((List.length a0.args : Nat) : Int))) then
   ((getI a0.args v14_6).bind fun y13 =>
   (f_body_Names y13).bind fun y16 =>
   (appO 72 vout_5 y16).bind fun y18 =>
   some y18 : Option (List Expr)).bind fun vout_12 =>
   some (.inl (vout_12, (IntKind.i64.wrap (v14_6 + (1 : Int)))))
  else
   some (.inr vout_5)
noncomputable def B_body_Names (f_body_Names : Expr → Option (List Expr)) (a0 : Expr) : Option (List Expr) :=
 if (decide (a0.kind = (11 : Int))) then
  some ([a0])
 else
  (iterO (body_Names_L0 a0 f_body_Names) ([], (0 : Int)) : Option (List Expr)).bind fun vout_4 =>
  some vout_4
abbrev body_Names_A0 (a0 : Expr) : List PV := [(.v (.int .i64 a0.kind)), (.v (.string a0.name)), (.v (.int .i64 a0.n)), (.v (.int .i64 a0.d)), (.sl (Expr.rows a0.args)), (.v (.int .i64 a0.at_))]
theorem W_body_Names (f_body_Names : Expr → Option (List Expr)) (S_body_Names : Sat_body_Names f_body_Names) : Sat_body_Names (B_body_Names f_body_Names) := by
 intro a0 r h σ K hK
 refine w_fp Try.func89 rfl rfl (by kernel_rfl) ?_
 unfold B_body_Names at h
 have hP := Pre.refl σ
 have E0 : argE [(.ag (body_Names_A0 a0))] 0 = (.ag (body_Names_A0 a0)) := rfl
 have TT := cj6 Expr.rlen T_2 T_3 T_37 T_39 T_9
 refine w_sa (fun e s => ∃ i1 : Nat, Bx σ s i1 39 (body_Names_A0 a0) ∧ e 1 = (.pt i1 0) ∧ Pre σ s) ?_ fun e s hI => ?_
 ·refine w_x (cj2 E0 TT) (k := ?_)
  exact cw_n ⟨_, WkE.refl _, σ.length, (Bx.new hP 39 (body_Names_A0 a0)), (xv (cj2 E0 TT)), (hP.app _)⟩
 obtain ⟨i1, X1, E1, hP⟩ := hI
 refine w_assoc ?_
 refine w_sa (fun e s => Bx σ s i1 39 (body_Names_A0 a0) ∧ e 1 = (.pt i1 0) ∧ e 8 = (.v (.bool (decide (a0.kind = (11 : Int))))) ∧ Pre σ s) ?_ fun e s hI => ?_
 ·refine w_x (cj3 E1 X1.get TT) (k := ?_)
  exact cw_n ⟨_, WkE.refl _, X1, (xv (cj3 E1 X1.get TT)), (xv (cj3 E1 X1.get TT)), hP⟩
 obtain ⟨X1, E1, E8, hP⟩ := hI
 refine w_seq ?_
 rcases ite_some h with ⟨hb1, h⟩ | ⟨hb1, h⟩
 ·refine xt (cj3 E1 E8 hb1) ?_
  refine w_sa (fun e s => e 2 = (.sl (Expr.rows ([a0]))) ∧ Pre σ s) ?_ fun e s hI => ?_
  ·refine w_x (cj4 E1 E8 X1.get TT) (k := ?_)
   exact cw_n ⟨_, WkE.upd (WkE.refl _) (t := 2) (p := (.sl [(body_Names_A0 a0)])) (q := (.sl (Expr.rows ([a0])))) (xv (cj4 E1 E8 X1.get TT)) (Wk.of_eq (by rw [Expr.rows_eq ([a0])]; rfl)), (xv (cj4 E1 E8 X1.get TT)), hP⟩
  obtain ⟨E2, hP⟩ := hI
  refine w_ret ?_
  refine w_sqr ?_
  obtain rfl := some_inj h
  exact w_fin (fun _ => rfl) (xr (rs := #[.tmp 2]) E2) hP (r' := (.sl (Expr.rows ([a0])))) (.refl _) (Expr.cnr _) hK
 ·refine xf (cj3 E1 E8 hb1) ?_
  refine w_skip ?_
  refine w_sq ?_
  refine w_sa (fun e s => ∃ p3 : PV, Bx σ s i1 39 (body_Names_A0 a0) ∧ e 1 = (.pt i1 0) ∧ e 3 = p3 ∧ Acc σ s p3 39 6 (Expr.rows ([])) ∧ Pre σ s) ?_ fun e s hI => ?_
  ·refine w_x (cj4 E1 E8 X1.get TT) (k := ?_)
   exact cw_n ⟨_, WkE.refl _, (.v (.slice none 0 0)), X1, (xv (cj4 E1 E8 X1.get TT)), (xv (cj4 E1 E8 X1.get TT)), (Acc.nil _ _ _ _), hP⟩
  obtain ⟨p3, X1, E1, E3, A3, hP⟩ := hI
  refine w_assoc ?_
  refine w_sa (fun e s => ∃ p3 : PV, e 3 = p3 ∧ Acc σ s p3 39 6 (Expr.rows ([])) ∧ e 12 = (.sl (Expr.rows a0.args)) ∧ e 13 = (.v (.int .i64 ((List.length a0.args : Nat) : Int))) ∧ e 14 = (.v (.int .i64 (0 : Int))) ∧ Pre σ s) ?_ fun e s hI => ?_
  ·refine w_x (cj5 E1 E3 X1.get A3.rowsOf TT) (k := ?_)
   have q1 := cj5 E1 E3 X1.get A3.rowsOf TT
   exact cw_n ⟨_, WkE.refl _, p3, (xv q1), A3, (xv q1), (xv q1), (xv q1), hP⟩
  obtain ⟨p3, E3, A3, E12, E13, E14, hP⟩ := hI
  obtain ⟨x2, h3, h⟩ := bnd_some h
  refine w_sa (fun e s => ∃ vout_4 : (List Expr), ∃ p3 : PV, vout_4 = x2 ∧ e 3 = p3 ∧ Acc σ s p3 39 6 (Expr.rows vout_4) ∧ Pre σ s) ?_ fun e s hI => ?_
  ·refine w_block ?_
   have q2 := cj4 E3 E12 E13 E14
   refine w_iter h3 (fun v e s => ∃ vout_5 : (List Expr), ∃ v14_6 : Int, ∃ p3 : PV, (vout_5, v14_6) = v ∧ e 3 = p3 ∧ Acc σ s p3 39 6 (Expr.rows vout_5) ∧ e 12 = (.sl (Expr.rows a0.args)) ∧ e 13 = (.v (.int .i64 ((List.length a0.args : Nat) : Int))) ∧ e 14 = (.v (.int .i64 v14_6)) ∧ Pre σ s) ⟨_, WkE.refl _, _, _, p3, rfl, (xv q2), A3, (xv q2), (xv q2), (xv q2), hP⟩ fun v x7 e s hf8 hI => ?_
   obtain ⟨vout_5, v14_6, p3, rfl, E3, A3, E12, E13, E14, hP⟩ := hI
   unfold body_Names_L0 at hf8
   try dsimp only at hf8
   refine w_sa (fun e s => ∃ p3 : PV, e 3 = p3 ∧ Acc σ s p3 39 6 (Expr.rows vout_5) ∧ e 12 = (.sl (Expr.rows a0.args)) ∧ e 13 = (.v (.int .i64 ((List.length a0.args : Nat) : Int))) ∧ e 14 = (.v (.int .i64 v14_6)) ∧ e 15 = (.v (.bool (decide (v14_6 < ((List.length a0.args : Nat) : Int))))) ∧ Pre σ s) ?_ fun e s hI => ?_
   ·refine w_x (cj6 E3 E12 E13 E14 A3.rowsOf TT) (k := ?_)
    have q3 := cj6 E3 E12 E13 E14 A3.rowsOf TT
    exact cw_n ⟨_, WkE.refl _, p3, (xv q3), A3, (xv q3), (xv q3), (xv q3), (xv q3), hP⟩
   obtain ⟨p3, E3, A3, E12, E13, E14, E15, hP⟩ := hI
   refine w_seq ?_
   rcases ite_some hf8 with ⟨hb9, hf8⟩ | ⟨hb9, hf8⟩
   ·refine xt (cj6 E3 E12 E13 E14 E15 hb9) ?_
    refine w_skip ?_
    refine w_sq ?_
    obtain ⟨x10, h11, hf8⟩ := bnd_some hf8
    refine w_sa (fun e s => ∃ vout_12 : (List Expr), ∃ p3 : PV, vout_12 = x10 ∧ e 3 = p3 ∧ Acc σ s p3 39 6 (Expr.rows vout_12) ∧ e 12 = (.sl (Expr.rows a0.args)) ∧ e 13 = (.v (.int .i64 ((List.length a0.args : Nat) : Int))) ∧ e 14 = (.v (.int .i64 v14_6)) ∧ Pre σ s) ?_ fun e s hI => ?_
    ·refine w_block ?_
     obtain ⟨y13, h14, h11⟩ := bnd_some h11
     refine w_sa (fun e s => ∃ i5 : Nat, ∃ p3 : PV, Bx σ s i5 39 [(.v (.int .i64 y13.kind)), (.v (.string y13.name)), (.v (.int .i64 y13.n)), (.v (.int .i64 y13.d)), (.sl (Expr.rows y13.args)), (.v (.int .i64 y13.at_))] ∧ e 3 = p3 ∧ Acc σ s p3 39 6 (Expr.rows vout_5) ∧ e 5 = (.pt i5 0) ∧ e 12 = (.sl (Expr.rows a0.args)) ∧ e 13 = (.v (.int .i64 ((List.length a0.args : Nat) : Int))) ∧ e 14 = (.v (.int .i64 v14_6)) ∧ Pre σ s) ?_ fun e s hI => ?_
     ·have R15 : (Expr.rows a0.args)[(v14_6).toNat]? = some [(.v (.int .i64 y13.kind)), (.v (.string y13.name)), (.v (.int .i64 y13.n)), (.v (.int .i64 y13.d)), (.sl (Expr.rows y13.args)), (.v (.int .i64 y13.at_))] := Expr.rget (getI_some h14).2
      refine w_x (cj9 E3 E12 E13 E14 E15 A3.rowsOf R15 (getI_some h14).1 TT) (k := ?_)
      have q4 := cj9 E3 E12 E13 E14 E15 A3.rowsOf R15 (getI_some h14).1 TT
      exact cw_n ⟨_, WkE.refl _, s.length, p3, (Bx.new hP 39 [(.v (.int .i64 y13.kind)), (.v (.string y13.name)), (.v (.int .i64 y13.n)), (.v (.int .i64 y13.d)), (.sl (Expr.rows y13.args)), (.v (.int .i64 y13.at_))]), (xv q4), (A3.app [some (AObj.box 39 [(.v (.int .i64 y13.kind)), (.v (.string y13.name)), (.v (.int .i64 y13.n)), (.v (.int .i64 y13.d)), (.sl (Expr.rows y13.args)), (.v (.int .i64 y13.at_))])]), (xv q4), (xv q4), (xv q4), (xv q4), (hP.app _)⟩
     obtain ⟨i5, p3, X5, E3, A3, E5, E12, E13, E14, hP⟩ := hI
     obtain ⟨y16, h17, h11⟩ := bnd_some h11
     obtain ⟨y18, h19, h11⟩ := bnd_some h11
     by_cases hy23 : y16 = []
     ·have ha29 := Acc.push0 (ty := 39) T_37 T_39 A3 (.sl (Expr.rows y16)) (by rw [hy23, Expr.rows_eq]; rfl)
      have A26 : Acc σ s p3 39 6 (Expr.rows y18) := Acc.cast (by first | (rw [← (appO_some h19).2, hy23, List.append_nil]; done) | (rw [← (appO_some h19).2, hy23, List.append_nil]; rfl)) A3
      refine w_x (cj9 E3 E5 E12 E13 E14 X5.get A3.rowsOf ha29 TT) (k := ?_)
      refine EC.wka (.cons (.refl _) .nil) (S_body_Names _ _ h17 _ _  ?_)
      refine w_y (cj9 E3 E5 E12 E13 E14 X5.get A3.rowsOf ha29 TT) (k := ?_)
      refine w_bk ?_
      obtain rfl := some_inj h11
      have q5 := cj9 E3 E5 E12 E13 E14 X5.get A3.rowsOf ha29 TT
      exact cw_n ⟨_, WkE.refl _, _, p3, rfl, (xv q5), A26, (xv q5), (xv q5), (xv q5), hP⟩
     ·obtain ⟨p31, s32, ha36, A330, hP37, K34, Q35, U38, V39⟩ := Acc.push (ns := (Expr.rows y16)) (rows := (Expr.rows vout_5)) T_37 T_39 A3 hP (Expr.rall _) (Expr.rall _) (by rw [Ne, ← List.length_eq_zero_iff]; simpa [Expr.rlen] using hy23) (by decide) (by simpa [Expr.rlen] using (appO_some h19).1)
      have ha36 := ha36 (.sl (Expr.rows y16)) rfl
      have A33 : Acc σ s32 p31 39 6 (Expr.rows y18) := by rw [← (appO_some h19).2]; exact by rw [Expr.rows_app]; exact A330
      refine w_x (cj10 E3 E5 E12 E13 E14 X5.get A3.rowsOf ha36 (X5.keep A3 K34).get TT) (k := ?_)
      refine EC.wka (.cons (.refl _) .nil) (S_body_Names _ _ h17 _ _  ?_)
      refine w_y (cj10 E3 E5 E12 E13 E14 X5.get A3.rowsOf ha36 (X5.keep A3 K34).get TT) (k := ?_)
      refine w_bk ?_
      obtain rfl := some_inj h11
      have q6 := X5.keep A3 K34
      have q7 := cj10 E3 E5 E12 E13 E14 X5.get A3.rowsOf ha36 q6.get TT
      exact cw_n ⟨_, WkE.refl _, _, p31, rfl, (xv q7), A33, (xv q7), (xv q7), (xv q7), hP37⟩
    obtain ⟨vout_12, p3, rfl, E3, A3, E12, E13, E14, hP⟩ := hI
    try dsimp only at hf8
    refine w_x (cj6 E3 E12 E13 E14 A3.rowsOf TT) (k := ?_)
    obtain rfl := some_inj hf8
    have q8 := cj6 E3 E12 E13 E14 A3.rowsOf TT
    exact iq_n rfl ⟨_, WkE.refl _, _, _, p3, rfl, (xv q8), A3, (xv q8), (xv q8), (xv q8), hP⟩
   ·refine xf (cj6 E3 E12 E13 E14 E15 hb9) ?_
    refine w_exit ?_
    refine w_sqx ?_
    obtain rfl := some_inj hf8
    refine iq_x rfl fun hr40 => ?_
    obtain rfl := hr40
    refine w_bkx ?_
    exact cw_n ⟨_, WkE.refl _, _, p3, rfl, (xv (cj5 E3 E12 E13 E14 E15)), A3, hP⟩
  obtain ⟨vout_4, p3, rfl, E3, A3, hP⟩ := hI
  try dsimp only at h
  refine w_sa (fun e s => e 2 = (.sl (Expr.rows vout_4)) ∧ Pre σ s) ?_ fun e s hI => ?_
  ·refine w_x (cj3 E3 A3.rowsOf TT) (k := ?_)
   exact cw_n ⟨_, WkE.upd (WkE.refl _) (t := 2) (p := p3) (q := (.sl (Expr.rows vout_4))) (xv (cj3 E3 A3.rowsOf TT)) A3.wk, (xv (cj3 E3 A3.rowsOf TT)), hP⟩
  obtain ⟨E2, hP⟩ := hI
  refine w_ret ?_
  obtain rfl := some_inj h
  exact w_fin (fun _ => rfl) (xr (rs := #[.tmp 2]) E2) hP (r' := (.sl (Expr.rows vout_4))) (.refl _) (Expr.cnr _) hK
end Go.Proofs.Ytohmmfimedgccaa.E
end
section
namespace Go.Proofs.Ytohmmfimedgccaa.E
set_option maxRecDepth 100000
set_option maxHeartbeats 4000000
set_option linter.unusedVariables false
set_option linter.unusedSimpArgs false
noncomputable def check_Names_L4 (a0 : Program) (f_check_Names_c1 : Flow → Output → Option Bool) (f_check_finder_fail : check_finder → Int → Int → Option (Unit × check_finder)) (f_check_finder_fresh : check_finder → (Mp Int) → ByteArray → Int → Option (Unit × check_finder × (Mp Int))) (f_slices_ContainsFunc_Flow : (List Flow) → (Flow → Option Bool) → Option Bool) : (Int × check_finder × (Mp Int)) → Option ((Int × check_finder × (Mp Int)) ⊕ check_finder)
 | (v96_87, v20_88, v24_89) =>
  if (decide (v96_87 < ((List.length a0.outputs : Nat) : Int))) then
   ((getI a0.outputs v96_87).bind fun y97 =>
   (f_check_finder_fresh v20_88 v24_89 y97.name y97.at_).bind fun y100 =>
   (f_slices_ContainsFunc_Flow a0.flows (fun z0 => f_check_Names_c1 z0 y97)).bind fun y102 =>
   (if (!y102) then
    (f_check_finder_fail y100.2.1 y97.at_ (3 : Int)).bind fun y108 =>
    some y108.2
   else
    some y100.2.1 : Option check_finder).bind fun v20_106 =>
   some (v20_106, y100.2.2) : Option (check_finder × (Mp Int))).bind fun (v20_95, v24_96) =>
   some (.inl ((IntKind.i64.wrap (v96_87 + (1 : Int))), v20_95, v24_96))
  else
   some (.inr v20_88)
noncomputable def check_Names_L3 (v22_4 : (Mp Int)) (v23_50 : (Mp Int)) (a0 : Program) (f_check_finder_expr : check_finder → Expr → (Mp Int) → (Mp Int) → Option (Unit × check_finder)) : (Int × check_finder) → Option ((Int × check_finder) ⊕ check_finder)
 | (v82_70, v20_71) =>
  if (decide (v82_70 < ((List.length a0.flows : Nat) : Int))) then
   ((getI a0.flows v82_70).bind fun y78 =>
   (f_check_finder_expr v20_71 y78.e v23_50 v22_4).bind fun y81 =>
   some y81.2 : Option check_finder).bind fun v20_77 =>
   some (.inl ((IntKind.i64.wrap (v82_70 + (1 : Int))), v20_77))
  else
   some (.inr v20_71)
noncomputable def check_Names_L2 (a0 : Program) (f_check_finder_fresh : check_finder → (Mp Int) → ByteArray → Int → Option (Unit × check_finder × (Mp Int))) : (Int × check_finder × (Mp Int)) → Option ((Int × check_finder × (Mp Int)) ⊕ (check_finder × (Mp Int)))
 | (v67_51, v20_52, v23_53) =>
  if (decide (v67_51 < ((List.length a0.flows : Nat) : Int))) then
   ((getI a0.flows v67_51).bind fun y61 =>
   (f_check_finder_fresh v20_52 v23_53 y61.name y61.at_).bind fun y64 =>
   some (y64.2.1, y64.2.2) : Option (check_finder × (Mp Int))).bind fun (v20_59, v23_60) =>
   some (.inl ((IntKind.i64.wrap (v67_51 + (1 : Int))), v20_59, v23_60))
  else
   some (.inr (v20_52, v23_53))
noncomputable def check_Names_L1 (a0 : Program) (f_check_finder_fresh : check_finder → (Mp Int) → ByteArray → Int → Option (Unit × check_finder × (Mp Int))) : (Int × check_finder × (Mp Int)) → Option ((Int × check_finder × (Mp Int)) ⊕ (check_finder × (Mp Int)))
 | (v52_31, v20_32, v23_33) =>
  if (decide (v52_31 < ((List.length a0.inputs : Nat) : Int))) then
   ((getI a0.inputs v52_31).bind fun y41 =>
   (f_check_finder_fresh v20_32 v23_33 y41.name y41.at_).bind fun y44 =>
   some (y44.2.1, y44.2.2) : Option (check_finder × (Mp Int))).bind fun (v20_39, v23_40) =>
   some (.inl ((IntKind.i64.wrap (v52_31 + (1 : Int))), v20_39, v23_40))
  else
   some (.inr (v20_32, v23_33))
noncomputable def check_Names_L0 (a0 : Program) (f_check_finder_fresh : check_finder → (Mp Int) → ByteArray → Int → Option (Unit × check_finder × (Mp Int))) (f_check_finder_node : check_finder → Node → Option (Unit × check_finder)) : (Int × check_finder × (Mp Int) × (Mp Int)) → Option ((Int × check_finder × (Mp Int) × (Mp Int)) ⊕ (check_finder × (Mp Int)))
 | (v28_5, v20_6, v21_7, v22_8) =>
  if (decide (v28_5 < ((List.length a0.nodes : Nat) : Int))) then
   ((getI a0.nodes v28_5).bind fun y17 =>
   (f_check_finder_fresh v20_6 v21_7 y17.name y17.at_).bind fun y20 =>
   (f_check_finder_node y20.2.1 y17).bind fun y22 =>
   (putO v22_8 y17.name ((List.length y17.params : Nat) : Int)).bind fun y24 =>
   some (y22.2, y20.2.2, y24) : Option (check_finder × (Mp Int) × (Mp Int))).bind fun (v20_14, v21_15, v22_16) =>
   some (.inl ((IntKind.i64.wrap (v28_5 + (1 : Int))), v20_14, v21_15, v22_16))
  else
   some (.inr (v20_6, v22_8))
noncomputable def B_check_Names (f_check_finder_fresh : check_finder → (Mp Int) → ByteArray → Int → Option (Unit × check_finder × (Mp Int))) (f_check_finder_node : check_finder → Node → Option (Unit × check_finder)) (f_check_finder_expr : check_finder → Expr → (Mp Int) → (Mp Int) → Option (Unit × check_finder)) (f_slices_ContainsFunc_Flow : (List Flow) → (Flow → Option Bool) → Option Bool) (f_check_Names_c1 : Flow → Output → Option Bool) (f_check_finder_fail : check_finder → Int → Int → Option (Unit × check_finder)) (a0 : Program) : Option (Int × Int) :=
 (iterO (check_Names_L0 a0 f_check_finder_fresh f_check_finder_node) ((0 : Int), (check_finder.mk (0 : Int) (0 : Int)), (Mp.emp : Mp Int), (Mp.emp : Mp Int)) : Option (check_finder × (Mp Int))).bind fun (v20_3, v22_4) =>
 (iterO (check_Names_L1 a0 f_check_finder_fresh) ((0 : Int), v20_3, (Mp.emp : Mp Int)) : Option (check_finder × (Mp Int))).bind fun (v20_29, v23_30) =>
 (iterO (check_Names_L2 a0 f_check_finder_fresh) ((0 : Int), v20_29, v23_30) : Option (check_finder × (Mp Int))).bind fun (v20_49, v23_50) =>
 (iterO (check_Names_L3 v22_4 v23_50 a0 f_check_finder_expr) ((0 : Int), v20_49) : Option check_finder).bind fun v20_69 =>
 (iterO (check_Names_L4 a0 f_check_Names_c1 f_check_finder_fail f_check_finder_fresh f_slices_ContainsFunc_Flow) ((0 : Int), v20_69, (Mp.emp : Mp Int)) : Option check_finder).bind fun v20_86 =>
 some (v20_86.at_, v20_86.e)
abbrev check_Names_V0 : Int → PV := fun v : Int => (PV.v (.int .i64 v))
abbrev check_Names_A0 (a0 : Program) : List PV := [(.sl (List.map Node.cl a0.nodes)), (.sl (List.map Input.cl a0.inputs)), (.sl (List.map Flow.cl a0.flows)), (.sl (List.map Output.cl a0.outputs))]
theorem W_check_Names (f_check_finder_fresh : check_finder → (Mp Int) → ByteArray → Int → Option (Unit × check_finder × (Mp Int))) (f_check_finder_node : check_finder → Node → Option (Unit × check_finder)) (f_check_finder_expr : check_finder → Expr → (Mp Int) → (Mp Int) → Option (Unit × check_finder)) (f_slices_ContainsFunc_Flow : (List Flow) → (Flow → Option Bool) → Option Bool) (f_check_Names_c1 : Flow → Output → Option Bool) (f_check_finder_fail : check_finder → Int → Int → Option (Unit × check_finder)) (S_check_finder_fresh : Sat_check_finder_fresh f_check_finder_fresh) (S_check_finder_node : Sat_check_finder_node f_check_finder_node) (S_check_finder_expr : Sat_check_finder_expr f_check_finder_expr) (S_slices_ContainsFunc_Flow : Sat_slices_ContainsFunc_Flow f_slices_ContainsFunc_Flow) (S_check_Names_c1 : Sat_check_Names_c1 f_check_Names_c1) (S_check_finder_fail : Sat_check_finder_fail f_check_finder_fail) : Sat_check_Names (B_check_Names f_check_finder_fresh f_check_finder_node f_check_finder_expr f_slices_ContainsFunc_Flow f_check_Names_c1 f_check_finder_fail) := by
 intro a0 r h σ K hK
 refine w_fp Try.func11 rfl rfl (by kernel_rfl) ?_
 unfold B_check_Names at h
 have hP := Pre.refl σ
 have E0 : argE [(.ag (check_Names_A0 a0))] 0 = (.ag (check_Names_A0 a0)) := rfl
 have TT := cj2 Expr.rlen (cj20 T_104 T_106 T_107 T_112 T_2 T_22 T_23 T_24 T_25 T_27 T_3 T_30 T_37 T_39 T_41 T_65 T_9 T_96 T_97 T_99)
 refine w_sa (fun e s => ∃ i1 : Nat, Bx σ s i1 27 (check_Names_A0 a0) ∧ e 1 = (.pt i1 0) ∧ Pre σ s) ?_ fun e s hI => ?_
 ·refine w_x (cj2 E0 TT) (k := ?_)
  exact cw_n ⟨_, WkE.refl _, σ.length, (Bx.new hP 27 (check_Names_A0 a0)), (xv (cj2 E0 TT)), (hP.app _)⟩
 obtain ⟨i1, X1, E1, hP⟩ := hI
 refine w_sa (fun e s => ∃ i20 : Nat, Bx σ s i1 27 (check_Names_A0 a0) ∧ Bx σ s i20 106 [(.v (.int .i64 (0 : Int))), (.v (.int .i64 (0 : Int)))] ∧ e 1 = (.pt i1 0) ∧ e 4 = (.pt i20 0) ∧ i1 ≠ i20 ∧ Pre σ s) ?_ fun e s hI => ?_
 ·refine w_x (cj5 E1 X1.get X1.any X1.any2 TT) (k := ?_)
  have q1 := cj5 E1 X1.get X1.any X1.any2 TT
  exact cw_n ⟨_, WkE.refl _, s.length, (X1.app [some (AObj.box 106 [(.v (.int .i64 (0 : Int))), (.v (.int .i64 (0 : Int)))])]), (Bx.new hP 106 [(.v (.int .i64 (0 : Int))), (.v (.int .i64 (0 : Int)))]), (xv q1), (xv q1), (Nat.ne_of_lt X1.lt), (hP.app _)⟩
 obtain ⟨i20, X1, X20, E1, E4, N1__20, hP⟩ := hI
 refine w_sa (fun e s => ∃ i21 i22 i23 i24 : Nat, Bx σ s i1 27 (check_Names_A0 a0) ∧ Bx σ s i20 106 [(.v (.int .i64 (0 : Int))), (.v (.int .i64 (0 : Int)))] ∧ Gx s i21 (AObj.map .s (mpF check_Names_V0 (Mp.get (Mp.emp : Mp Int))) (Mp.n (Mp.emp : Mp Int))) ∧ σ.length ≤ i21 ∧ Gx s i22 (AObj.map .s (mpF check_Names_V0 (Mp.get (Mp.emp : Mp Int))) (Mp.n (Mp.emp : Mp Int))) ∧ σ.length ≤ i22 ∧ Gx s i23 (AObj.map .s (mpF check_Names_V0 (Mp.get (Mp.emp : Mp Int))) (Mp.n (Mp.emp : Mp Int))) ∧ σ.length ≤ i23 ∧ Gx s i24 (AObj.map .s (mpF check_Names_V0 (Mp.get (Mp.emp : Mp Int))) (Mp.n (Mp.emp : Mp Int))) ∧ σ.length ≤ i24 ∧ e 1 = (.pt i1 0) ∧ e 4 = (.pt i20 0) ∧ e 5 = (.mp i21) ∧ e 6 = (.mp i22) ∧ e 7 = (.mp i23) ∧ e 8 = (.mp i24) ∧ i1 ≠ i20 ∧ i21 ≠ i22 ∧ i21 ≠ i23 ∧ i21 ≠ i24 ∧ i22 ≠ i23 ∧ i22 ≠ i24 ∧ i23 ≠ i24 ∧ Pre σ s) ?_ fun e s hI => ?_
 ·refine w_x (cj9 E1 E4 X1.get X1.any X1.any2 X20.get X20.any X20.any2 TT) (k := ?_)
  have q2 := cj9 E1 E4 X1.get X1.any X1.any2 X20.get X20.any X20.any2 TT
  exact cw_n ⟨_, WkE.refl _, s.length, (s ++ [some (AObj.map .s (fun _ => none) 0)]).length, ((s ++ [some (AObj.map .s (fun _ => none) 0)]) ++ [some (AObj.map .s (fun _ => none) 0)]).length, (((s ++ [some (AObj.map .s (fun _ => none) 0)]) ++ [some (AObj.map .s (fun _ => none) 0)]) ++ [some (AObj.map .s (fun _ => none) 0)]).length, ((((X1.app [some (AObj.map .s (fun _ => none) 0)]).app [some (AObj.map .s (fun _ => none) 0)]).app [some (AObj.map .s (fun _ => none) 0)]).app [some (AObj.map .s (fun _ => none) 0)]), ((((X20.app [some (AObj.map .s (fun _ => none) 0)]).app [some (AObj.map .s (fun _ => none) 0)]).app [some (AObj.map .s (fun _ => none) 0)]).app [some (AObj.map .s (fun _ => none) 0)]), ((((Gx.cast (Gx.new s (AObj.map .s (fun _ => none) 0)) (mpF_emp check_Names_V0)).app [some (AObj.map .s (fun _ => none) 0)]).app [some (AObj.map .s (fun _ => none) 0)]).app [some (AObj.map .s (fun _ => none) 0)]), (Pre.le hP), (((Gx.cast (Gx.new (s ++ [some (AObj.map .s (fun _ => none) 0)]) (AObj.map .s (fun _ => none) 0)) (mpF_emp check_Names_V0)).app [some (AObj.map .s (fun _ => none) 0)]).app [some (AObj.map .s (fun _ => none) 0)]), (Pre.le (hP.app [some (AObj.map .s (fun _ => none) 0)])), ((Gx.cast (Gx.new ((s ++ [some (AObj.map .s (fun _ => none) 0)]) ++ [some (AObj.map .s (fun _ => none) 0)]) (AObj.map .s (fun _ => none) 0)) (mpF_emp check_Names_V0)).app [some (AObj.map .s (fun _ => none) 0)]), (Pre.le ((hP.app [some (AObj.map .s (fun _ => none) 0)]).app [some (AObj.map .s (fun _ => none) 0)])), (Gx.cast (Gx.new (((s ++ [some (AObj.map .s (fun _ => none) 0)]) ++ [some (AObj.map .s (fun _ => none) 0)]) ++ [some (AObj.map .s (fun _ => none) 0)]) (AObj.map .s (fun _ => none) 0)) (mpF_emp check_Names_V0)), (Pre.le (((hP.app [some (AObj.map .s (fun _ => none) 0)]).app [some (AObj.map .s (fun _ => none) 0)]).app [some (AObj.map .s (fun _ => none) 0)])), (xv q2), (xv q2), (xv q2), (xv q2), (xv q2), (xv q2), N1__20, (Nat.ne_of_lt (Gx.cast (Gx.new s (AObj.map .s (fun _ => none) 0)) (mpF_emp check_Names_V0)).lt), (Nat.ne_of_lt ((Gx.cast (Gx.new s (AObj.map .s (fun _ => none) 0)) (mpF_emp check_Names_V0)).app [some (AObj.map .s (fun _ => none) 0)]).lt), (Nat.ne_of_lt (((Gx.cast (Gx.new s (AObj.map .s (fun _ => none) 0)) (mpF_emp check_Names_V0)).app [some (AObj.map .s (fun _ => none) 0)]).app [some (AObj.map .s (fun _ => none) 0)]).lt), (Nat.ne_of_lt (Gx.cast (Gx.new (s ++ [some (AObj.map .s (fun _ => none) 0)]) (AObj.map .s (fun _ => none) 0)) (mpF_emp check_Names_V0)).lt), (Nat.ne_of_lt ((Gx.cast (Gx.new (s ++ [some (AObj.map .s (fun _ => none) 0)]) (AObj.map .s (fun _ => none) 0)) (mpF_emp check_Names_V0)).app [some (AObj.map .s (fun _ => none) 0)]).lt), (Nat.ne_of_lt (Gx.cast (Gx.new ((s ++ [some (AObj.map .s (fun _ => none) 0)]) ++ [some (AObj.map .s (fun _ => none) 0)]) (AObj.map .s (fun _ => none) 0)) (mpF_emp check_Names_V0)).lt), ((((hP.app [some (AObj.map .s (fun _ => none) 0)]).app [some (AObj.map .s (fun _ => none) 0)]).app [some (AObj.map .s (fun _ => none) 0)]).app [some (AObj.map .s (fun _ => none) 0)])⟩
 obtain ⟨i21, i22, i23, i24, X1, X20, X21, L21, X22, L22, X23, L23, X24, L24, E1, E4, E5, E6, E7, E8, N1__20, N21__22, N21__23, N21__24, N22__23, N22__24, N23__24, hP⟩ := hI
 refine w_assoc ?_
 refine w_sa (fun e s => Bx σ s i1 27 (check_Names_A0 a0) ∧ Bx σ s i20 106 [(.v (.int .i64 (0 : Int))), (.v (.int .i64 (0 : Int)))] ∧ Gx s i21 (AObj.map .s (mpF check_Names_V0 (Mp.get (Mp.emp : Mp Int))) (Mp.n (Mp.emp : Mp Int))) ∧ σ.length ≤ i21 ∧ Gx s i22 (AObj.map .s (mpF check_Names_V0 (Mp.get (Mp.emp : Mp Int))) (Mp.n (Mp.emp : Mp Int))) ∧ σ.length ≤ i22 ∧ Gx s i23 (AObj.map .s (mpF check_Names_V0 (Mp.get (Mp.emp : Mp Int))) (Mp.n (Mp.emp : Mp Int))) ∧ σ.length ≤ i23 ∧ Gx s i24 (AObj.map .s (mpF check_Names_V0 (Mp.get (Mp.emp : Mp Int))) (Mp.n (Mp.emp : Mp Int))) ∧ σ.length ≤ i24 ∧ e 1 = (.pt i1 0) ∧ e 4 = (.pt i20 0) ∧ e 5 = (.mp i21) ∧ e 6 = (.mp i22) ∧ e 7 = (.mp i23) ∧ e 8 = (.mp i24) ∧ e 26 = (.sl (List.map Node.cl a0.nodes)) ∧ e 27 = (.v (.int .i64 ((List.length a0.nodes : Nat) : Int))) ∧ e 28 = (.v (.int .i64 (0 : Int))) ∧ i1 ≠ i20 ∧ i21 ≠ i22 ∧ i21 ≠ i23 ∧ i21 ≠ i24 ∧ i22 ≠ i23 ∧ i22 ≠ i24 ∧ i23 ≠ i24 ∧ Pre σ s) ?_ fun e s hI => ?_
 ·refine w_x (cj13 E1 E4 E5 E6 E7 E8 X1.get X20.get X21.get X22.get X23.get X24.get TT) (k := ?_)
  have q3 := cj13 E1 E4 E5 E6 E7 E8 X1.get X20.get X21.get X22.get X23.get X24.get TT
  exact cw_n ⟨_, WkE.refl _, X1, X20, X21, L21, X22, L22, X23, L23, X24, L24, (xv q3), (xv q3), (xv q3), (xv q3), (xv q3), (xv q3), (xv q3), (xv q3), (xv q3), N1__20, N21__22, N21__23, N21__24, N22__23, N22__24, N23__24, hP⟩
 obtain ⟨X1, X20, X21, L21, X22, L22, X23, L23, X24, L24, E1, E4, E5, E6, E7, E8, E26, E27, E28, N1__20, N21__22, N21__23, N21__24, N22__23, N22__24, N23__24, hP⟩ := hI
 obtain ⟨x1, h2, h⟩ := bnd_some h
 refine w_sa (fun e s => ∃ v20_3 : check_finder, ∃ v22_4 : (Mp Int), (v20_3, v22_4) = x1 ∧ Bx σ s i1 27 (check_Names_A0 a0) ∧ Bx σ s i20 106 [(.v (.int .i64 v20_3.at_)), (.v (.int .i64 v20_3.e))] ∧ Gx s i22 (AObj.map .s (mpF check_Names_V0 (Mp.get v22_4)) (Mp.n v22_4)) ∧ σ.length ≤ i22 ∧ Gx s i23 (AObj.map .s (mpF check_Names_V0 (Mp.get (Mp.emp : Mp Int))) (Mp.n (Mp.emp : Mp Int))) ∧ σ.length ≤ i23 ∧ Gx s i24 (AObj.map .s (mpF check_Names_V0 (Mp.get (Mp.emp : Mp Int))) (Mp.n (Mp.emp : Mp Int))) ∧ σ.length ≤ i24 ∧ e 1 = (.pt i1 0) ∧ e 4 = (.pt i20 0) ∧ e 6 = (.mp i22) ∧ e 7 = (.mp i23) ∧ e 8 = (.mp i24) ∧ i1 ≠ i20 ∧ i22 ≠ i23 ∧ i22 ≠ i24 ∧ i23 ≠ i24 ∧ Pre σ s) ?_ fun e s hI => ?_
 ·refine w_block ?_
  have q4 := cj9 E1 E4 E5 E6 E7 E8 E26 E27 E28
  refine w_iter h2 (fun v e s => ∃ v28_5 : Int, ∃ v20_6 : check_finder, ∃ v21_7 : (Mp Int), ∃ v22_8 : (Mp Int), (v28_5, v20_6, v21_7, v22_8) = v ∧ Bx σ s i1 27 (check_Names_A0 a0) ∧ Bx σ s i20 106 [(.v (.int .i64 v20_6.at_)), (.v (.int .i64 v20_6.e))] ∧ Gx s i21 (AObj.map .s (mpF check_Names_V0 (Mp.get v21_7)) (Mp.n v21_7)) ∧ σ.length ≤ i21 ∧ Gx s i22 (AObj.map .s (mpF check_Names_V0 (Mp.get v22_8)) (Mp.n v22_8)) ∧ σ.length ≤ i22 ∧ Gx s i23 (AObj.map .s (mpF check_Names_V0 (Mp.get (Mp.emp : Mp Int))) (Mp.n (Mp.emp : Mp Int))) ∧ σ.length ≤ i23 ∧ Gx s i24 (AObj.map .s (mpF check_Names_V0 (Mp.get (Mp.emp : Mp Int))) (Mp.n (Mp.emp : Mp Int))) ∧ σ.length ≤ i24 ∧ e 1 = (.pt i1 0) ∧ e 4 = (.pt i20 0) ∧ e 5 = (.mp i21) ∧ e 6 = (.mp i22) ∧ e 7 = (.mp i23) ∧ e 8 = (.mp i24) ∧ e 26 = (.sl (List.map Node.cl a0.nodes)) ∧ e 27 = (.v (.int .i64 ((List.length a0.nodes : Nat) : Int))) ∧ e 28 = (.v (.int .i64 v28_5)) ∧ i1 ≠ i20 ∧ i21 ≠ i22 ∧ i21 ≠ i23 ∧ i21 ≠ i24 ∧ i22 ≠ i23 ∧ i22 ≠ i24 ∧ i23 ≠ i24 ∧ Pre σ s) ⟨_, WkE.refl _, _, _, _, _, rfl, X1, X20, X21, L21, X22, L22, X23, L23, X24, L24, (xv q4), (xv q4), (xv q4), (xv q4), (xv q4), (xv q4), (xv q4), (xv q4), (xv q4), N1__20, N21__22, N21__23, N21__24, N22__23, N22__24, N23__24, hP⟩ fun v x9 e s hf10 hI => ?_
  obtain ⟨v28_5, v20_6, v21_7, v22_8, rfl, X1, X20, X21, L21, X22, L22, X23, L23, X24, L24, E1, E4, E5, E6, E7, E8, E26, E27, E28, N1__20, N21__22, N21__23, N21__24, N22__23, N22__24, N23__24, hP⟩ := hI
  unfold check_Names_L0 at hf10
  try dsimp only at hf10
  refine w_sa (fun e s => Bx σ s i1 27 (check_Names_A0 a0) ∧ Bx σ s i20 106 [(.v (.int .i64 v20_6.at_)), (.v (.int .i64 v20_6.e))] ∧ Gx s i21 (AObj.map .s (mpF check_Names_V0 (Mp.get v21_7)) (Mp.n v21_7)) ∧ σ.length ≤ i21 ∧ Gx s i22 (AObj.map .s (mpF check_Names_V0 (Mp.get v22_8)) (Mp.n v22_8)) ∧ σ.length ≤ i22 ∧ Gx s i23 (AObj.map .s (mpF check_Names_V0 (Mp.get (Mp.emp : Mp Int))) (Mp.n (Mp.emp : Mp Int))) ∧ σ.length ≤ i23 ∧ Gx s i24 (AObj.map .s (mpF check_Names_V0 (Mp.get (Mp.emp : Mp Int))) (Mp.n (Mp.emp : Mp Int))) ∧ σ.length ≤ i24 ∧ e 1 = (.pt i1 0) ∧ e 4 = (.pt i20 0) ∧ e 5 = (.mp i21) ∧ e 6 = (.mp i22) ∧ e 7 = (.mp i23) ∧ e 8 = (.mp i24) ∧ e 26 = (.sl (List.map Node.cl a0.nodes)) ∧ e 27 = (.v (.int .i64 ((List.length a0.nodes : Nat) : Int))) ∧ e 28 = (.v (.int .i64 v28_5)) ∧ e 29 = (.v (.bool (decide (v28_5 < ((List.length a0.nodes : Nat) : Int))))) ∧ i1 ≠ i20 ∧ i21 ≠ i22 ∧ i21 ≠ i23 ∧ i21 ≠ i24 ∧ i22 ≠ i23 ∧ i22 ≠ i24 ∧ i23 ≠ i24 ∧ Pre σ s) ?_ fun e s hI => ?_
  ·refine w_x (cj16 E1 E4 E5 E6 E7 E8 E26 E27 E28 X1.get X20.get X21.get X22.get X23.get X24.get TT) (k := ?_)
   have q5 := cj16 E1 E4 E5 E6 E7 E8 E26 E27 E28 X1.get X20.get X21.get X22.get X23.get X24.get TT
   exact cw_n ⟨_, WkE.refl _, X1, X20, X21, L21, X22, L22, X23, L23, X24, L24, (xv q5), (xv q5), (xv q5), (xv q5), (xv q5), (xv q5), (xv q5), (xv q5), (xv q5), (xv q5), N1__20, N21__22, N21__23, N21__24, N22__23, N22__24, N23__24, hP⟩
  obtain ⟨X1, X20, X21, L21, X22, L22, X23, L23, X24, L24, E1, E4, E5, E6, E7, E8, E26, E27, E28, E29, N1__20, N21__22, N21__23, N21__24, N22__23, N22__24, N23__24, hP⟩ := hI
  refine w_seq ?_
  rcases ite_some hf10 with ⟨hb11, hf10⟩ | ⟨hb11, hf10⟩
  ·refine xt (cj11 E1 E4 E5 E6 E7 E8 E26 E27 E28 E29 hb11) ?_
   refine w_skip ?_
   refine w_sq ?_
   obtain ⟨x12, h13, hf10⟩ := bnd_some hf10
   refine w_sa (fun e s => ∃ v20_14 : check_finder, ∃ v21_15 : (Mp Int), ∃ v22_16 : (Mp Int), (v20_14, v21_15, v22_16) = x12 ∧ Bx σ s i1 27 (check_Names_A0 a0) ∧ Bx σ s i20 106 [(.v (.int .i64 v20_14.at_)), (.v (.int .i64 v20_14.e))] ∧ Gx s i21 (AObj.map .s (mpF check_Names_V0 (Mp.get v21_15)) (Mp.n v21_15)) ∧ σ.length ≤ i21 ∧ Gx s i22 (AObj.map .s (mpF check_Names_V0 (Mp.get v22_16)) (Mp.n v22_16)) ∧ σ.length ≤ i22 ∧ Gx s i23 (AObj.map .s (mpF check_Names_V0 (Mp.get (Mp.emp : Mp Int))) (Mp.n (Mp.emp : Mp Int))) ∧ σ.length ≤ i23 ∧ Gx s i24 (AObj.map .s (mpF check_Names_V0 (Mp.get (Mp.emp : Mp Int))) (Mp.n (Mp.emp : Mp Int))) ∧ σ.length ≤ i24 ∧ e 1 = (.pt i1 0) ∧ e 4 = (.pt i20 0) ∧ e 5 = (.mp i21) ∧ e 6 = (.mp i22) ∧ e 7 = (.mp i23) ∧ e 8 = (.mp i24) ∧ e 26 = (.sl (List.map Node.cl a0.nodes)) ∧ e 27 = (.v (.int .i64 ((List.length a0.nodes : Nat) : Int))) ∧ e 28 = (.v (.int .i64 v28_5)) ∧ i1 ≠ i20 ∧ i21 ≠ i22 ∧ i21 ≠ i23 ∧ i21 ≠ i24 ∧ i22 ≠ i23 ∧ i22 ≠ i24 ∧ i23 ≠ i24 ∧ Pre σ s) ?_ fun e s hI => ?_
   ·refine w_block ?_
    obtain ⟨y17, h18, h13⟩ := bnd_some h13
    refine w_sa (fun e s => ∃ i10 : Nat, Bx σ s i1 27 (check_Names_A0 a0) ∧ Bx σ s i10 99 [(.v (.string y17.name)), (.sl (List.map C_s y17.params)), (.v (.int .i64 y17.budget)), (.v (.int .i64 y17.body.kind)), (.v (.string y17.body.name)), (.v (.int .i64 y17.body.n)), (.v (.int .i64 y17.body.d)), (.sl (Expr.rows y17.body.args)), (.v (.int .i64 y17.body.at_)), (.v (.int .i64 y17.at_))] ∧ Bx σ s i20 106 [(.v (.int .i64 v20_6.at_)), (.v (.int .i64 v20_6.e))] ∧ Gx s i21 (AObj.map .s (mpF check_Names_V0 (Mp.get v21_7)) (Mp.n v21_7)) ∧ σ.length ≤ i21 ∧ Gx s i22 (AObj.map .s (mpF check_Names_V0 (Mp.get v22_8)) (Mp.n v22_8)) ∧ σ.length ≤ i22 ∧ Gx s i23 (AObj.map .s (mpF check_Names_V0 (Mp.get (Mp.emp : Mp Int))) (Mp.n (Mp.emp : Mp Int))) ∧ σ.length ≤ i23 ∧ Gx s i24 (AObj.map .s (mpF check_Names_V0 (Mp.get (Mp.emp : Mp Int))) (Mp.n (Mp.emp : Mp Int))) ∧ σ.length ≤ i24 ∧ e 1 = (.pt i1 0) ∧ e 4 = (.pt i20 0) ∧ e 5 = (.mp i21) ∧ e 6 = (.mp i22) ∧ e 7 = (.mp i23) ∧ e 8 = (.mp i24) ∧ e 10 = (.pt i10 0) ∧ e 26 = (.sl (List.map Node.cl a0.nodes)) ∧ e 27 = (.v (.int .i64 ((List.length a0.nodes : Nat) : Int))) ∧ e 28 = (.v (.int .i64 v28_5)) ∧ i1 ≠ i20 ∧ i10 ≠ i20 ∧ i21 ≠ i22 ∧ i21 ≠ i23 ∧ i21 ≠ i24 ∧ i22 ≠ i23 ∧ i22 ≠ i24 ∧ i23 ≠ i24 ∧ Pre σ s) ?_ fun e s hI => ?_
    ·have R19 : (List.map Node.cl a0.nodes)[(v28_5).toNat]? = some [(.v (.string y17.name)), (.sl (List.map C_s y17.params)), (.v (.int .i64 y17.budget)), (.v (.int .i64 y17.body.kind)), (.v (.string y17.body.name)), (.v (.int .i64 y17.body.n)), (.v (.int .i64 y17.body.d)), (.sl (Expr.rows y17.body.args)), (.v (.int .i64 y17.body.at_)), (.v (.int .i64 y17.at_))] := map_get (getI_some h18).2
     refine w_x (cj12 E1 E4 E5 E6 E7 E8 E26 E27 E28 E29 X1.get (cj20 X1.any X1.any2 X20.get X20.any X20.any2 X21.get X21.any X21.any2 X22.get X22.any X22.any2 X23.get X23.any X23.any2 X24.get X24.any X24.any2 R19 (getI_some h18).1 TT)) (k := ?_)
     have q6 := cj20 X1.any X1.any2 X20.get X20.any X20.any2 X21.get X21.any X21.any2 X22.get X22.any X22.any2 X23.get X23.any X23.any2 X24.get X24.any X24.any2 R19 (getI_some h18).1 TT
     have q7 := cj12 E1 E4 E5 E6 E7 E8 E26 E27 E28 E29 X1.get q6
     exact cw_n ⟨_, WkE.refl _, s.length, (X1.app [some (AObj.box 99 [(.v (.string y17.name)), (.sl (List.map C_s y17.params)), (.v (.int .i64 y17.budget)), (.v (.int .i64 y17.body.kind)), (.v (.string y17.body.name)), (.v (.int .i64 y17.body.n)), (.v (.int .i64 y17.body.d)), (.sl (Expr.rows y17.body.args)), (.v (.int .i64 y17.body.at_)), (.v (.int .i64 y17.at_))])]), (Bx.new hP 99 [(.v (.string y17.name)), (.sl (List.map C_s y17.params)), (.v (.int .i64 y17.budget)), (.v (.int .i64 y17.body.kind)), (.v (.string y17.body.name)), (.v (.int .i64 y17.body.n)), (.v (.int .i64 y17.body.d)), (.sl (Expr.rows y17.body.args)), (.v (.int .i64 y17.body.at_)), (.v (.int .i64 y17.at_))]), (X20.app [some (AObj.box 99 [(.v (.string y17.name)), (.sl (List.map C_s y17.params)), (.v (.int .i64 y17.budget)), (.v (.int .i64 y17.body.kind)), (.v (.string y17.body.name)), (.v (.int .i64 y17.body.n)), (.v (.int .i64 y17.body.d)), (.sl (Expr.rows y17.body.args)), (.v (.int .i64 y17.body.at_)), (.v (.int .i64 y17.at_))])]), (X21.app [some (AObj.box 99 [(.v (.string y17.name)), (.sl (List.map C_s y17.params)), (.v (.int .i64 y17.budget)), (.v (.int .i64 y17.body.kind)), (.v (.string y17.body.name)), (.v (.int .i64 y17.body.n)), (.v (.int .i64 y17.body.d)), (.sl (Expr.rows y17.body.args)), (.v (.int .i64 y17.body.at_)), (.v (.int .i64 y17.at_))])]), L21, (X22.app [some (AObj.box 99 [(.v (.string y17.name)), (.sl (List.map C_s y17.params)), (.v (.int .i64 y17.budget)), (.v (.int .i64 y17.body.kind)), (.v (.string y17.body.name)), (.v (.int .i64 y17.body.n)), (.v (.int .i64 y17.body.d)), (.sl (Expr.rows y17.body.args)), (.v (.int .i64 y17.body.at_)), (.v (.int .i64 y17.at_))])]), L22, (X23.app [some (AObj.box 99 [(.v (.string y17.name)), (.sl (List.map C_s y17.params)), (.v (.int .i64 y17.budget)), (.v (.int .i64 y17.body.kind)), (.v (.string y17.body.name)), (.v (.int .i64 y17.body.n)), (.v (.int .i64 y17.body.d)), (.sl (Expr.rows y17.body.args)), (.v (.int .i64 y17.body.at_)), (.v (.int .i64 y17.at_))])]), L23, (X24.app [some (AObj.box 99 [(.v (.string y17.name)), (.sl (List.map C_s y17.params)), (.v (.int .i64 y17.budget)), (.v (.int .i64 y17.body.kind)), (.v (.string y17.body.name)), (.v (.int .i64 y17.body.n)), (.v (.int .i64 y17.body.d)), (.sl (Expr.rows y17.body.args)), (.v (.int .i64 y17.body.at_)), (.v (.int .i64 y17.at_))])]), L24, (xv q7), (xv q7), (xv q7), (xv q7), (xv q7), (xv q7), (xv q7), (xv q7), (xv q7), (xv q7), N1__20, (Ne.symm (Nat.ne_of_lt X20.lt)), N21__22, N21__23, N21__24, N22__23, N22__24, N23__24, (hP.app _)⟩
    obtain ⟨i10, X1, X10, X20, X21, L21, X22, L22, X23, L23, X24, L24, E1, E4, E5, E6, E7, E8, E10, E26, E27, E28, N1__20, N10__20, N21__22, N21__23, N21__24, N22__23, N22__24, N23__24, hP⟩ := hI
    obtain ⟨y20, h21, h13⟩ := bnd_some h13
    refine w_sa (fun e s => Bx σ s i1 27 (check_Names_A0 a0) ∧ Bx σ s i10 99 [(.v (.string y17.name)), (.sl (List.map C_s y17.params)), (.v (.int .i64 y17.budget)), (.v (.int .i64 y17.body.kind)), (.v (.string y17.body.name)), (.v (.int .i64 y17.body.n)), (.v (.int .i64 y17.body.d)), (.sl (Expr.rows y17.body.args)), (.v (.int .i64 y17.body.at_)), (.v (.int .i64 y17.at_))] ∧ Bx σ s i20 106 [(.v (.int .i64 y20.2.1.at_)), (.v (.int .i64 y20.2.1.e))] ∧ Gx s i21 (AObj.map .s (mpF check_Names_V0 (Mp.get y20.2.2)) (Mp.n y20.2.2)) ∧ σ.length ≤ i21 ∧ Gx s i22 (AObj.map .s (mpF check_Names_V0 (Mp.get v22_8)) (Mp.n v22_8)) ∧ σ.length ≤ i22 ∧ Gx s i23 (AObj.map .s (mpF check_Names_V0 (Mp.get (Mp.emp : Mp Int))) (Mp.n (Mp.emp : Mp Int))) ∧ σ.length ≤ i23 ∧ Gx s i24 (AObj.map .s (mpF check_Names_V0 (Mp.get (Mp.emp : Mp Int))) (Mp.n (Mp.emp : Mp Int))) ∧ σ.length ≤ i24 ∧ e 1 = (.pt i1 0) ∧ e 4 = (.pt i20 0) ∧ e 5 = (.mp i21) ∧ e 6 = (.mp i22) ∧ e 7 = (.mp i23) ∧ e 8 = (.mp i24) ∧ e 10 = (.pt i10 0) ∧ e 26 = (.sl (List.map Node.cl a0.nodes)) ∧ e 27 = (.v (.int .i64 ((List.length a0.nodes : Nat) : Int))) ∧ e 28 = (.v (.int .i64 v28_5)) ∧ i1 ≠ i20 ∧ i10 ≠ i20 ∧ i21 ≠ i22 ∧ i21 ≠ i23 ∧ i21 ≠ i24 ∧ i22 ≠ i23 ∧ i22 ≠ i24 ∧ i23 ≠ i24 ∧ Pre σ s) ?_ fun e s hI => ?_
    ·have q8 := Gx.apart X20.gx X21 (by intro h; cases h)
     have q9 := Gx.apart X20.gx X22 (by intro h; cases h)
     have q10 := Gx.apart X20.gx X23 (by intro h; cases h)
     have q11 := Gx.apart X20.gx X24 (by intro h; cases h)
     have q12 := X20.same 106 [(.v (.int .i64 y20.2.1.at_)), (.v (.int .i64 y20.2.1.e))]
     have q13 := X21.ne q8 (some (AObj.box 106 [(.v (.int .i64 y20.2.1.at_)), (.v (.int .i64 y20.2.1.e))]))
     have q14 := X22.ne q9 (some (AObj.box 106 [(.v (.int .i64 y20.2.1.at_)), (.v (.int .i64 y20.2.1.e))]))
     have q15 := X23.ne q10 (some (AObj.box 106 [(.v (.int .i64 y20.2.1.at_)), (.v (.int .i64 y20.2.1.e))]))
     have q16 := X24.ne q11 (some (AObj.box 106 [(.v (.int .i64 y20.2.1.at_)), (.v (.int .i64 y20.2.1.e))]))
     have q17 := X1.ne (Ne.symm N1__20) (some (AObj.box 106 [(.v (.int .i64 y20.2.1.at_)), (.v (.int .i64 y20.2.1.e))]))
     have q18 := X10.ne (Ne.symm N10__20) (some (AObj.box 106 [(.v (.int .i64 y20.2.1.at_)), (.v (.int .i64 y20.2.1.e))]))
     refine w_x (cj13 E1 E4 E5 E6 E7 E8 E10 E26 E27 E28 X1.get X10.get (cj20 X20.get X21.get X22.get X23.get X24.get q17.get q18.get q12.get q13.get q14.get q15.get q16.get (q17.ne (Gx.apart q13 q17.gx (by intro h; cases h)) (some (AObj.map .s (mpF check_Names_V0 (Mp.get y20.2.2)) (Mp.n y20.2.2)))).get (q18.ne (Gx.apart q13 q18.gx (by intro h; cases h)) (some (AObj.map .s (mpF check_Names_V0 (Mp.get y20.2.2)) (Mp.n y20.2.2)))).get (q12.ne (Gx.apart q13 q12.gx (by intro h; cases h)) (some (AObj.map .s (mpF check_Names_V0 (Mp.get y20.2.2)) (Mp.n y20.2.2)))).get (Gx.same q13 (AObj.map .s (mpF check_Names_V0 (Mp.get y20.2.2)) (Mp.n y20.2.2))).get (q14.ne N21__22 (some (AObj.map .s (mpF check_Names_V0 (Mp.get y20.2.2)) (Mp.n y20.2.2)))).get (q15.ne N21__23 (some (AObj.map .s (mpF check_Names_V0 (Mp.get y20.2.2)) (Mp.n y20.2.2)))).get (q16.ne N21__24 (some (AObj.map .s (mpF check_Names_V0 (Mp.get y20.2.2)) (Mp.n y20.2.2)))).get TT)) (k := ?_)
     refine EC.wka (.cons (.refl _) (.cons (.refl _) (.cons (.refl _) (.cons (.refl _) .nil)))) (S_check_finder_fresh _ _ _ _ _ h21 _ _ _ _ X20.gx X21 ?_)
     have q19 := Gx.apart X20.gx X21 (by intro h; cases h)
     have q20 := Gx.apart X20.gx X22 (by intro h; cases h)
     have q21 := Gx.apart X20.gx X23 (by intro h; cases h)
     have q22 := Gx.apart X20.gx X24 (by intro h; cases h)
     have q23 := X20.same 106 [(.v (.int .i64 y20.2.1.at_)), (.v (.int .i64 y20.2.1.e))]
     have q24 := X21.ne q19 (some (AObj.box 106 [(.v (.int .i64 y20.2.1.at_)), (.v (.int .i64 y20.2.1.e))]))
     have q25 := X22.ne q20 (some (AObj.box 106 [(.v (.int .i64 y20.2.1.at_)), (.v (.int .i64 y20.2.1.e))]))
     have q26 := X23.ne q21 (some (AObj.box 106 [(.v (.int .i64 y20.2.1.at_)), (.v (.int .i64 y20.2.1.e))]))
     have q27 := X24.ne q22 (some (AObj.box 106 [(.v (.int .i64 y20.2.1.at_)), (.v (.int .i64 y20.2.1.e))]))
     have q28 := X1.ne (Ne.symm N1__20) (some (AObj.box 106 [(.v (.int .i64 y20.2.1.at_)), (.v (.int .i64 y20.2.1.e))]))
     have q29 := X10.ne (Ne.symm N10__20) (some (AObj.box 106 [(.v (.int .i64 y20.2.1.at_)), (.v (.int .i64 y20.2.1.e))]))
     refine w_y (cj13 E1 E4 E5 E6 E7 E8 E10 E26 E27 E28 X1.get X10.get (cj20 X20.get X21.get X22.get X23.get X24.get q28.get q29.get q23.get q24.get q25.get q26.get q27.get (q28.ne (Gx.apart q24 q28.gx (by intro h; cases h)) (some (AObj.map .s (mpF check_Names_V0 (Mp.get y20.2.2)) (Mp.n y20.2.2)))).get (q29.ne (Gx.apart q24 q29.gx (by intro h; cases h)) (some (AObj.map .s (mpF check_Names_V0 (Mp.get y20.2.2)) (Mp.n y20.2.2)))).get (q23.ne (Gx.apart q24 q23.gx (by intro h; cases h)) (some (AObj.map .s (mpF check_Names_V0 (Mp.get y20.2.2)) (Mp.n y20.2.2)))).get (Gx.same q24 (AObj.map .s (mpF check_Names_V0 (Mp.get y20.2.2)) (Mp.n y20.2.2))).get (q25.ne N21__22 (some (AObj.map .s (mpF check_Names_V0 (Mp.get y20.2.2)) (Mp.n y20.2.2)))).get (q26.ne N21__23 (some (AObj.map .s (mpF check_Names_V0 (Mp.get y20.2.2)) (Mp.n y20.2.2)))).get (q27.ne N21__24 (some (AObj.map .s (mpF check_Names_V0 (Mp.get y20.2.2)) (Mp.n y20.2.2)))).get TT)) (k := ?_)
     have q30 := Gx.apart X20.gx X21 (by intro h; cases h)
     have q31 := Gx.apart X20.gx X22 (by intro h; cases h)
     have q32 := Gx.apart X20.gx X23 (by intro h; cases h)
     have q33 := Gx.apart X20.gx X24 (by intro h; cases h)
     have q34 := X20.same 106 [(.v (.int .i64 y20.2.1.at_)), (.v (.int .i64 y20.2.1.e))]
     have q35 := X21.ne q30 (some (AObj.box 106 [(.v (.int .i64 y20.2.1.at_)), (.v (.int .i64 y20.2.1.e))]))
     have q36 := Gx.apart q35 q34.gx (by intro h; cases h)
     have q37 := X22.ne q31 (some (AObj.box 106 [(.v (.int .i64 y20.2.1.at_)), (.v (.int .i64 y20.2.1.e))]))
     have q38 := X23.ne q32 (some (AObj.box 106 [(.v (.int .i64 y20.2.1.at_)), (.v (.int .i64 y20.2.1.e))]))
     have q39 := X24.ne q33 (some (AObj.box 106 [(.v (.int .i64 y20.2.1.at_)), (.v (.int .i64 y20.2.1.e))]))
     have q40 := Gx.same q35 (AObj.map .s (mpF check_Names_V0 (Mp.get y20.2.2)) (Mp.n y20.2.2))
     have q41 := X1.ne (Ne.symm N1__20) (some (AObj.box 106 [(.v (.int .i64 y20.2.1.at_)), (.v (.int .i64 y20.2.1.e))]))
     have q42 := Gx.apart q35 q41.gx (by intro h; cases h)
     have q43 := X10.ne (Ne.symm N10__20) (some (AObj.box 106 [(.v (.int .i64 y20.2.1.at_)), (.v (.int .i64 y20.2.1.e))]))
     have q44 := Gx.apart q35 q43.gx (by intro h; cases h)
     have q45 := cj20 X20.get X21.get X22.get X23.get X24.get q41.get q43.get q34.get q35.get q37.get q38.get q39.get (q41.ne q42 (some (AObj.map .s (mpF check_Names_V0 (Mp.get y20.2.2)) (Mp.n y20.2.2)))).get (q43.ne q44 (some (AObj.map .s (mpF check_Names_V0 (Mp.get y20.2.2)) (Mp.n y20.2.2)))).get (q34.ne q36 (some (AObj.map .s (mpF check_Names_V0 (Mp.get y20.2.2)) (Mp.n y20.2.2)))).get q40.get (q37.ne N21__22 (some (AObj.map .s (mpF check_Names_V0 (Mp.get y20.2.2)) (Mp.n y20.2.2)))).get (q38.ne N21__23 (some (AObj.map .s (mpF check_Names_V0 (Mp.get y20.2.2)) (Mp.n y20.2.2)))).get (q39.ne N21__24 (some (AObj.map .s (mpF check_Names_V0 (Mp.get y20.2.2)) (Mp.n y20.2.2)))).get TT
     have q46 := cj13 E1 E4 E5 E6 E7 E8 E10 E26 E27 E28 X1.get X10.get q45
     exact cw_n ⟨_, WkE.refl _, (q41.ne q42 (some (AObj.map .s (mpF check_Names_V0 (Mp.get y20.2.2)) (Mp.n y20.2.2)))), (q43.ne q44 (some (AObj.map .s (mpF check_Names_V0 (Mp.get y20.2.2)) (Mp.n y20.2.2)))), (q34.ne q36 (some (AObj.map .s (mpF check_Names_V0 (Mp.get y20.2.2)) (Mp.n y20.2.2)))), q40, L21, (q37.ne N21__22 (some (AObj.map .s (mpF check_Names_V0 (Mp.get y20.2.2)) (Mp.n y20.2.2)))), L22, (q38.ne N21__23 (some (AObj.map .s (mpF check_Names_V0 (Mp.get y20.2.2)) (Mp.n y20.2.2)))), L23, (q39.ne N21__24 (some (AObj.map .s (mpF check_Names_V0 (Mp.get y20.2.2)) (Mp.n y20.2.2)))), L24, (xv q46), (xv q46), (xv q46), (xv q46), (xv q46), (xv q46), (xv q46), (xv q46), (xv q46), (xv q46), N1__20, N10__20, N21__22, N21__23, N21__24, N22__23, N22__24, N23__24, ((hP.set X20.le (some (AObj.box 106 [(.v (.int .i64 y20.2.1.at_)), (.v (.int .i64 y20.2.1.e))]))).set L21 (some (AObj.map .s (mpF check_Names_V0 (Mp.get y20.2.2)) (Mp.n y20.2.2))))⟩
    obtain ⟨X1, X10, X20, X21, L21, X22, L22, X23, L23, X24, L24, E1, E4, E5, E6, E7, E8, E10, E26, E27, E28, N1__20, N10__20, N21__22, N21__23, N21__24, N22__23, N22__24, N23__24, hP⟩ := hI
    obtain ⟨y22, h23, h13⟩ := bnd_some h13
    refine w_sa (fun e s => Bx σ s i1 27 (check_Names_A0 a0) ∧ Bx σ s i10 99 [(.v (.string y17.name)), (.sl (List.map C_s y17.params)), (.v (.int .i64 y17.budget)), (.v (.int .i64 y17.body.kind)), (.v (.string y17.body.name)), (.v (.int .i64 y17.body.n)), (.v (.int .i64 y17.body.d)), (.sl (Expr.rows y17.body.args)), (.v (.int .i64 y17.body.at_)), (.v (.int .i64 y17.at_))] ∧ Bx σ s i20 106 [(.v (.int .i64 y22.2.at_)), (.v (.int .i64 y22.2.e))] ∧ Gx s i21 (AObj.map .s (mpF check_Names_V0 (Mp.get y20.2.2)) (Mp.n y20.2.2)) ∧ σ.length ≤ i21 ∧ Gx s i22 (AObj.map .s (mpF check_Names_V0 (Mp.get v22_8)) (Mp.n v22_8)) ∧ σ.length ≤ i22 ∧ Gx s i23 (AObj.map .s (mpF check_Names_V0 (Mp.get (Mp.emp : Mp Int))) (Mp.n (Mp.emp : Mp Int))) ∧ σ.length ≤ i23 ∧ Gx s i24 (AObj.map .s (mpF check_Names_V0 (Mp.get (Mp.emp : Mp Int))) (Mp.n (Mp.emp : Mp Int))) ∧ σ.length ≤ i24 ∧ e 1 = (.pt i1 0) ∧ e 4 = (.pt i20 0) ∧ e 5 = (.mp i21) ∧ e 6 = (.mp i22) ∧ e 7 = (.mp i23) ∧ e 8 = (.mp i24) ∧ e 10 = (.pt i10 0) ∧ e 26 = (.sl (List.map Node.cl a0.nodes)) ∧ e 27 = (.v (.int .i64 ((List.length a0.nodes : Nat) : Int))) ∧ e 28 = (.v (.int .i64 v28_5)) ∧ i1 ≠ i20 ∧ i10 ≠ i20 ∧ i21 ≠ i22 ∧ i21 ≠ i23 ∧ i21 ≠ i24 ∧ i22 ≠ i23 ∧ i22 ≠ i24 ∧ i23 ≠ i24 ∧ Pre σ s) ?_ fun e s hI => ?_
    ·refine w_x (cj6 E1 E4 E5 E6 E7 (cj20 E8 E10 E26 E27 E28 X1.get X10.get X20.get X21.get X22.get X23.get X24.get (X1.ne (Ne.symm N1__20) (some (AObj.box 106 [(.v (.int .i64 y22.2.at_)), (.v (.int .i64 y22.2.e))]))).get (X10.ne (Ne.symm N10__20) (some (AObj.box 106 [(.v (.int .i64 y22.2.at_)), (.v (.int .i64 y22.2.e))]))).get (X20.same 106 [(.v (.int .i64 y22.2.at_)), (.v (.int .i64 y22.2.e))]).get (X21.ne (Gx.apart X20.gx X21 (by intro h; cases h)) (some (AObj.box 106 [(.v (.int .i64 y22.2.at_)), (.v (.int .i64 y22.2.e))]))).get (X22.ne (Gx.apart X20.gx X22 (by intro h; cases h)) (some (AObj.box 106 [(.v (.int .i64 y22.2.at_)), (.v (.int .i64 y22.2.e))]))).get (X23.ne (Gx.apart X20.gx X23 (by intro h; cases h)) (some (AObj.box 106 [(.v (.int .i64 y22.2.at_)), (.v (.int .i64 y22.2.e))]))).get (X24.ne (Gx.apart X20.gx X24 (by intro h; cases h)) (some (AObj.box 106 [(.v (.int .i64 y22.2.at_)), (.v (.int .i64 y22.2.e))]))).get TT)) (k := ?_)
     refine EC.wka (.cons (.refl _) (.cons (.refl _) .nil)) (S_check_finder_node _ _ _ h23 _ _ _ X20.gx ?_)
     refine w_y (cj6 E1 E4 E5 E6 E7 (cj20 E8 E10 E26 E27 E28 X1.get X10.get X20.get X21.get X22.get X23.get X24.get (X1.ne (Ne.symm N1__20) (some (AObj.box 106 [(.v (.int .i64 y22.2.at_)), (.v (.int .i64 y22.2.e))]))).get (X10.ne (Ne.symm N10__20) (some (AObj.box 106 [(.v (.int .i64 y22.2.at_)), (.v (.int .i64 y22.2.e))]))).get (X20.same 106 [(.v (.int .i64 y22.2.at_)), (.v (.int .i64 y22.2.e))]).get (X21.ne (Gx.apart X20.gx X21 (by intro h; cases h)) (some (AObj.box 106 [(.v (.int .i64 y22.2.at_)), (.v (.int .i64 y22.2.e))]))).get (X22.ne (Gx.apart X20.gx X22 (by intro h; cases h)) (some (AObj.box 106 [(.v (.int .i64 y22.2.at_)), (.v (.int .i64 y22.2.e))]))).get (X23.ne (Gx.apart X20.gx X23 (by intro h; cases h)) (some (AObj.box 106 [(.v (.int .i64 y22.2.at_)), (.v (.int .i64 y22.2.e))]))).get (X24.ne (Gx.apart X20.gx X24 (by intro h; cases h)) (some (AObj.box 106 [(.v (.int .i64 y22.2.at_)), (.v (.int .i64 y22.2.e))]))).get TT)) (k := ?_)
     have q47 := Gx.apart X20.gx X21 (by intro h; cases h)
     have q48 := Gx.apart X20.gx X22 (by intro h; cases h)
     have q49 := Gx.apart X20.gx X23 (by intro h; cases h)
     have q50 := Gx.apart X20.gx X24 (by intro h; cases h)
     have q51 := X20.same 106 [(.v (.int .i64 y22.2.at_)), (.v (.int .i64 y22.2.e))]
     have q52 := X21.ne q47 (some (AObj.box 106 [(.v (.int .i64 y22.2.at_)), (.v (.int .i64 y22.2.e))]))
     have q53 := X22.ne q48 (some (AObj.box 106 [(.v (.int .i64 y22.2.at_)), (.v (.int .i64 y22.2.e))]))
     have q54 := X23.ne q49 (some (AObj.box 106 [(.v (.int .i64 y22.2.at_)), (.v (.int .i64 y22.2.e))]))
     have q55 := X24.ne q50 (some (AObj.box 106 [(.v (.int .i64 y22.2.at_)), (.v (.int .i64 y22.2.e))]))
     have q56 := X1.ne (Ne.symm N1__20) (some (AObj.box 106 [(.v (.int .i64 y22.2.at_)), (.v (.int .i64 y22.2.e))]))
     have q57 := X10.ne (Ne.symm N10__20) (some (AObj.box 106 [(.v (.int .i64 y22.2.at_)), (.v (.int .i64 y22.2.e))]))
     have q58 := cj20 E8 E10 E26 E27 E28 X1.get X10.get X20.get X21.get X22.get X23.get X24.get q56.get q57.get q51.get q52.get q53.get q54.get q55.get TT
     have q59 := cj6 E1 E4 E5 E6 E7 q58
     exact cw_n ⟨_, WkE.refl _, q56, q57, q51, q52, L21, q53, L22, q54, L23, q55, L24, (xv q59), (xv q59), (xv q59), (xv q59), (xv q59), (xv q59), (xv q59), (xv q59), (xv q59), (xv q59), N1__20, N10__20, N21__22, N21__23, N21__24, N22__23, N22__24, N23__24, (hP.set X20.le (some (AObj.box 106 [(.v (.int .i64 y22.2.at_)), (.v (.int .i64 y22.2.e))])))⟩
    obtain ⟨X1, X10, X20, X21, L21, X22, L22, X23, L23, X24, L24, E1, E4, E5, E6, E7, E8, E10, E26, E27, E28, N1__20, N10__20, N21__22, N21__23, N21__24, N22__23, N22__24, N23__24, hP⟩ := hI
    obtain ⟨y24, h25, h13⟩ := bnd_some h13
    refine w_x (cj7 E1 E4 E5 E6 E7 E8 (cj20 E10 E26 E27 E28 X1.get X10.get X20.get X21.get X22.get X23.get X24.get (putO_some h25).1 (X1.ne (Gx.apart X22 X1.gx (by intro h; cases h)) (some (AObj.map .s (upm (mpF check_Names_V0 (Mp.get v22_8)) (.string y17.name) (.v (.int .i64 ((List.length y17.params : Nat) : Int)))) (Mp.n v22_8 + 1)))).get (X10.ne (Gx.apart X22 X10.gx (by intro h; cases h)) (some (AObj.map .s (upm (mpF check_Names_V0 (Mp.get v22_8)) (.string y17.name) (.v (.int .i64 ((List.length y17.params : Nat) : Int)))) (Mp.n v22_8 + 1)))).get (X20.ne (Gx.apart X22 X20.gx (by intro h; cases h)) (some (AObj.map .s (upm (mpF check_Names_V0 (Mp.get v22_8)) (.string y17.name) (.v (.int .i64 ((List.length y17.params : Nat) : Int)))) (Mp.n v22_8 + 1)))).get (X21.ne (Ne.symm N21__22) (some (AObj.map .s (upm (mpF check_Names_V0 (Mp.get v22_8)) (.string y17.name) (.v (.int .i64 ((List.length y17.params : Nat) : Int)))) (Mp.n v22_8 + 1)))).get (Gx.cast (Gx.same X22 (AObj.map .s (upm (mpF check_Names_V0 (Mp.get v22_8)) (.string y17.name) (.v (.int .i64 ((List.length y17.params : Nat) : Int)))) (Mp.n v22_8 + 1))) (mpF_put (f := check_Names_V0) h25)).get (X23.ne N22__23 (some (AObj.map .s (upm (mpF check_Names_V0 (Mp.get v22_8)) (.string y17.name) (.v (.int .i64 ((List.length y17.params : Nat) : Int)))) (Mp.n v22_8 + 1)))).get (X24.ne N22__24 (some (AObj.map .s (upm (mpF check_Names_V0 (Mp.get v22_8)) (.string y17.name) (.v (.int .i64 ((List.length y17.params : Nat) : Int)))) (Mp.n v22_8 + 1)))).get TT)) (k := ?_)
    refine w_bk ?_
    obtain rfl := some_inj h13
    have q60 := Gx.apart X22 X1.gx (by intro h; cases h)
    have q61 := Gx.apart X22 X20.gx (by intro h; cases h)
    have q62 := Gx.apart X22 X10.gx (by intro h; cases h)
    have q63 := Gx.same X22 (AObj.map .s (upm (mpF check_Names_V0 (Mp.get v22_8)) (.string y17.name) (.v (.int .i64 ((List.length y17.params : Nat) : Int)))) (Mp.n v22_8 + 1))
    have q64 := Gx.cast q63 (mpF_put (f := check_Names_V0) h25)
    have q65 := X1.ne q60 (some (AObj.map .s (upm (mpF check_Names_V0 (Mp.get v22_8)) (.string y17.name) (.v (.int .i64 ((List.length y17.params : Nat) : Int)))) (Mp.n v22_8 + 1)))
    have q66 := X20.ne q61 (some (AObj.map .s (upm (mpF check_Names_V0 (Mp.get v22_8)) (.string y17.name) (.v (.int .i64 ((List.length y17.params : Nat) : Int)))) (Mp.n v22_8 + 1)))
    have q67 := X10.ne q62 (some (AObj.map .s (upm (mpF check_Names_V0 (Mp.get v22_8)) (.string y17.name) (.v (.int .i64 ((List.length y17.params : Nat) : Int)))) (Mp.n v22_8 + 1)))
    have q68 := X23.ne N22__23 (some (AObj.map .s (upm (mpF check_Names_V0 (Mp.get v22_8)) (.string y17.name) (.v (.int .i64 ((List.length y17.params : Nat) : Int)))) (Mp.n v22_8 + 1)))
    have q69 := X24.ne N22__24 (some (AObj.map .s (upm (mpF check_Names_V0 (Mp.get v22_8)) (.string y17.name) (.v (.int .i64 ((List.length y17.params : Nat) : Int)))) (Mp.n v22_8 + 1)))
    have q70 := X21.ne (Ne.symm N21__22) (some (AObj.map .s (upm (mpF check_Names_V0 (Mp.get v22_8)) (.string y17.name) (.v (.int .i64 ((List.length y17.params : Nat) : Int)))) (Mp.n v22_8 + 1)))
    have q71 := cj20 E10 E26 E27 E28 X1.get X10.get X20.get X21.get X22.get X23.get X24.get (putO_some h25).1 q65.get q67.get q66.get q70.get q64.get q68.get q69.get TT
    have q72 := cj7 E1 E4 E5 E6 E7 E8 q71
    exact cw_n ⟨_, WkE.refl _, _, _, _, rfl, q65, q66, q70, L21, q64, L22, q68, L23, q69, L24, (xv q72), (xv q72), (xv q72), (xv q72), (xv q72), (xv q72), (xv q72), (xv q72), (xv q72), N1__20, N21__22, N21__23, N21__24, N22__23, N22__24, N23__24, (hP.set L22 (some (AObj.map .s (upm (mpF check_Names_V0 (Mp.get v22_8)) (.string y17.name) (.v (.int .i64 ((List.length y17.params : Nat) : Int)))) (Mp.n v22_8 + 1))))⟩
   obtain ⟨v20_14, v21_15, v22_16, rfl, X1, X20, X21, L21, X22, L22, X23, L23, X24, L24, E1, E4, E5, E6, E7, E8, E26, E27, E28, N1__20, N21__22, N21__23, N21__24, N22__23, N22__24, N23__24, hP⟩ := hI
   try dsimp only at hf10
   refine w_x (cj16 E1 E4 E5 E6 E7 E8 E26 E27 E28 X1.get X20.get X21.get X22.get X23.get X24.get TT) (k := ?_)
   obtain rfl := some_inj hf10
   have q73 := cj16 E1 E4 E5 E6 E7 E8 E26 E27 E28 X1.get X20.get X21.get X22.get X23.get X24.get TT
   exact iq_n rfl ⟨_, WkE.refl _, _, _, _, _, rfl, X1, X20, X21, L21, X22, L22, X23, L23, X24, L24, (xv q73), (xv q73), (xv q73), (xv q73), (xv q73), (xv q73), (xv q73), (xv q73), (xv q73), N1__20, N21__22, N21__23, N21__24, N22__23, N22__24, N23__24, hP⟩
  ·refine xf (cj11 E1 E4 E5 E6 E7 E8 E26 E27 E28 E29 hb11) ?_
   refine w_exit ?_
   refine w_sqx ?_
   obtain rfl := some_inj hf10
   refine iq_x rfl fun hr26 => ?_
   obtain rfl := hr26
   refine w_bkx ?_
   have q74 := cj10 E1 E4 E5 E6 E7 E8 E26 E27 E28 E29
   exact cw_n ⟨_, WkE.refl _, _, _, rfl, X1, X20, X22, L22, X23, L23, X24, L24, (xv q74), (xv q74), (xv q74), (xv q74), (xv q74), N1__20, N22__23, N22__24, N23__24, hP⟩
 obtain ⟨v20_3, v22_4, rfl, X1, X20, X22, L22, X23, L23, X24, L24, E1, E4, E6, E7, E8, N1__20, N22__23, N22__24, N23__24, hP⟩ := hI
 try dsimp only at h
 refine w_assoc ?_
 refine w_sa (fun e s => Bx σ s i1 27 (check_Names_A0 a0) ∧ Bx σ s i20 106 [(.v (.int .i64 v20_3.at_)), (.v (.int .i64 v20_3.e))] ∧ Gx s i22 (AObj.map .s (mpF check_Names_V0 (Mp.get v22_4)) (Mp.n v22_4)) ∧ σ.length ≤ i22 ∧ Gx s i23 (AObj.map .s (mpF check_Names_V0 (Mp.get (Mp.emp : Mp Int))) (Mp.n (Mp.emp : Mp Int))) ∧ σ.length ≤ i23 ∧ Gx s i24 (AObj.map .s (mpF check_Names_V0 (Mp.get (Mp.emp : Mp Int))) (Mp.n (Mp.emp : Mp Int))) ∧ σ.length ≤ i24 ∧ e 1 = (.pt i1 0) ∧ e 4 = (.pt i20 0) ∧ e 6 = (.mp i22) ∧ e 7 = (.mp i23) ∧ e 8 = (.mp i24) ∧ e 50 = (.sl (List.map Input.cl a0.inputs)) ∧ e 51 = (.v (.int .i64 ((List.length a0.inputs : Nat) : Int))) ∧ e 52 = (.v (.int .i64 (0 : Int))) ∧ i1 ≠ i20 ∧ i22 ≠ i23 ∧ i22 ≠ i24 ∧ i23 ≠ i24 ∧ Pre σ s) ?_ fun e s hI => ?_
 ·refine w_x (cj11 E1 E4 E6 E7 E8 X1.get X20.get X22.get X23.get X24.get TT) (k := ?_)
  have q75 := cj11 E1 E4 E6 E7 E8 X1.get X20.get X22.get X23.get X24.get TT
  exact cw_n ⟨_, WkE.refl _, X1, X20, X22, L22, X23, L23, X24, L24, (xv q75), (xv q75), (xv q75), (xv q75), (xv q75), (xv q75), (xv q75), (xv q75), N1__20, N22__23, N22__24, N23__24, hP⟩
 obtain ⟨X1, X20, X22, L22, X23, L23, X24, L24, E1, E4, E6, E7, E8, E50, E51, E52, N1__20, N22__23, N22__24, N23__24, hP⟩ := hI
 obtain ⟨x27, h28, h⟩ := bnd_some h
 refine w_sa (fun e s => ∃ v20_29 : check_finder, ∃ v23_30 : (Mp Int), (v20_29, v23_30) = x27 ∧ Bx σ s i1 27 (check_Names_A0 a0) ∧ Bx σ s i20 106 [(.v (.int .i64 v20_29.at_)), (.v (.int .i64 v20_29.e))] ∧ Gx s i22 (AObj.map .s (mpF check_Names_V0 (Mp.get v22_4)) (Mp.n v22_4)) ∧ σ.length ≤ i22 ∧ Gx s i23 (AObj.map .s (mpF check_Names_V0 (Mp.get v23_30)) (Mp.n v23_30)) ∧ σ.length ≤ i23 ∧ Gx s i24 (AObj.map .s (mpF check_Names_V0 (Mp.get (Mp.emp : Mp Int))) (Mp.n (Mp.emp : Mp Int))) ∧ σ.length ≤ i24 ∧ e 1 = (.pt i1 0) ∧ e 4 = (.pt i20 0) ∧ e 6 = (.mp i22) ∧ e 7 = (.mp i23) ∧ e 8 = (.mp i24) ∧ i1 ≠ i20 ∧ i22 ≠ i23 ∧ i22 ≠ i24 ∧ i23 ≠ i24 ∧ Pre σ s) ?_ fun e s hI => ?_
 ·refine w_block ?_
  have q76 := cj8 E1 E4 E6 E7 E8 E50 E51 E52
  refine w_iter h28 (fun v e s => ∃ v52_31 : Int, ∃ v20_32 : check_finder, ∃ v23_33 : (Mp Int), (v52_31, v20_32, v23_33) = v ∧ Bx σ s i1 27 (check_Names_A0 a0) ∧ Bx σ s i20 106 [(.v (.int .i64 v20_32.at_)), (.v (.int .i64 v20_32.e))] ∧ Gx s i22 (AObj.map .s (mpF check_Names_V0 (Mp.get v22_4)) (Mp.n v22_4)) ∧ σ.length ≤ i22 ∧ Gx s i23 (AObj.map .s (mpF check_Names_V0 (Mp.get v23_33)) (Mp.n v23_33)) ∧ σ.length ≤ i23 ∧ Gx s i24 (AObj.map .s (mpF check_Names_V0 (Mp.get (Mp.emp : Mp Int))) (Mp.n (Mp.emp : Mp Int))) ∧ σ.length ≤ i24 ∧ e 1 = (.pt i1 0) ∧ e 4 = (.pt i20 0) ∧ e 6 = (.mp i22) ∧ e 7 = (.mp i23) ∧ e 8 = (.mp i24) ∧ e 50 = (.sl (List.map Input.cl a0.inputs)) ∧ e 51 = (.v (.int .i64 ((List.length a0.inputs : Nat) : Int))) ∧ e 52 = (.v (.int .i64 v52_31)) ∧ i1 ≠ i20 ∧ i22 ≠ i23 ∧ i22 ≠ i24 ∧ i23 ≠ i24 ∧ Pre σ s) ⟨_, WkE.refl _, _, _, _, rfl, X1, X20, X22, L22, X23, L23, X24, L24, (xv q76), (xv q76), (xv q76), (xv q76), (xv q76), (xv q76), (xv q76), (xv q76), N1__20, N22__23, N22__24, N23__24, hP⟩ fun v x34 e s hf35 hI => ?_
  obtain ⟨v52_31, v20_32, v23_33, rfl, X1, X20, X22, L22, X23, L23, X24, L24, E1, E4, E6, E7, E8, E50, E51, E52, N1__20, N22__23, N22__24, N23__24, hP⟩ := hI
  unfold check_Names_L1 at hf35
  try dsimp only at hf35
  refine w_sa (fun e s => Bx σ s i1 27 (check_Names_A0 a0) ∧ Bx σ s i20 106 [(.v (.int .i64 v20_32.at_)), (.v (.int .i64 v20_32.e))] ∧ Gx s i22 (AObj.map .s (mpF check_Names_V0 (Mp.get v22_4)) (Mp.n v22_4)) ∧ σ.length ≤ i22 ∧ Gx s i23 (AObj.map .s (mpF check_Names_V0 (Mp.get v23_33)) (Mp.n v23_33)) ∧ σ.length ≤ i23 ∧ Gx s i24 (AObj.map .s (mpF check_Names_V0 (Mp.get (Mp.emp : Mp Int))) (Mp.n (Mp.emp : Mp Int))) ∧ σ.length ≤ i24 ∧ e 1 = (.pt i1 0) ∧ e 4 = (.pt i20 0) ∧ e 6 = (.mp i22) ∧ e 7 = (.mp i23) ∧ e 8 = (.mp i24) ∧ e 50 = (.sl (List.map Input.cl a0.inputs)) ∧ e 51 = (.v (.int .i64 ((List.length a0.inputs : Nat) : Int))) ∧ e 52 = (.v (.int .i64 v52_31)) ∧ e 53 = (.v (.bool (decide (v52_31 < ((List.length a0.inputs : Nat) : Int))))) ∧ i1 ≠ i20 ∧ i22 ≠ i23 ∧ i22 ≠ i24 ∧ i23 ≠ i24 ∧ Pre σ s) ?_ fun e s hI => ?_
  ·refine w_x (cj14 E1 E4 E6 E7 E8 E50 E51 E52 X1.get X20.get X22.get X23.get X24.get TT) (k := ?_)
   have q77 := cj14 E1 E4 E6 E7 E8 E50 E51 E52 X1.get X20.get X22.get X23.get X24.get TT
   exact cw_n ⟨_, WkE.refl _, X1, X20, X22, L22, X23, L23, X24, L24, (xv q77), (xv q77), (xv q77), (xv q77), (xv q77), (xv q77), (xv q77), (xv q77), (xv q77), N1__20, N22__23, N22__24, N23__24, hP⟩
  obtain ⟨X1, X20, X22, L22, X23, L23, X24, L24, E1, E4, E6, E7, E8, E50, E51, E52, E53, N1__20, N22__23, N22__24, N23__24, hP⟩ := hI
  refine w_seq ?_
  rcases ite_some hf35 with ⟨hb36, hf35⟩ | ⟨hb36, hf35⟩
  ·refine xt (cj10 E1 E4 E6 E7 E8 E50 E51 E52 E53 hb36) ?_
   refine w_skip ?_
   refine w_sq ?_
   obtain ⟨x37, h38, hf35⟩ := bnd_some hf35
   refine w_sa (fun e s => ∃ v20_39 : check_finder, ∃ v23_40 : (Mp Int), (v20_39, v23_40) = x37 ∧ Bx σ s i1 27 (check_Names_A0 a0) ∧ Bx σ s i20 106 [(.v (.int .i64 v20_39.at_)), (.v (.int .i64 v20_39.e))] ∧ Gx s i22 (AObj.map .s (mpF check_Names_V0 (Mp.get v22_4)) (Mp.n v22_4)) ∧ σ.length ≤ i22 ∧ Gx s i23 (AObj.map .s (mpF check_Names_V0 (Mp.get v23_40)) (Mp.n v23_40)) ∧ σ.length ≤ i23 ∧ Gx s i24 (AObj.map .s (mpF check_Names_V0 (Mp.get (Mp.emp : Mp Int))) (Mp.n (Mp.emp : Mp Int))) ∧ σ.length ≤ i24 ∧ e 1 = (.pt i1 0) ∧ e 4 = (.pt i20 0) ∧ e 6 = (.mp i22) ∧ e 7 = (.mp i23) ∧ e 8 = (.mp i24) ∧ e 50 = (.sl (List.map Input.cl a0.inputs)) ∧ e 51 = (.v (.int .i64 ((List.length a0.inputs : Nat) : Int))) ∧ e 52 = (.v (.int .i64 v52_31)) ∧ i1 ≠ i20 ∧ i22 ≠ i23 ∧ i22 ≠ i24 ∧ i23 ≠ i24 ∧ Pre σ s) ?_ fun e s hI => ?_
   ·refine w_block ?_
    obtain ⟨y41, h42, h38⟩ := bnd_some h38
    refine w_sa (fun e s => ∃ i12 : Nat, Bx σ s i1 27 (check_Names_A0 a0) ∧ Bx σ s i12 96 [(.v (.string y41.name)), (.v (.int .i64 y41.period)), (.v (.int .i64 y41.phase)), (.v (.int .i64 y41.at_))] ∧ Bx σ s i20 106 [(.v (.int .i64 v20_32.at_)), (.v (.int .i64 v20_32.e))] ∧ Gx s i22 (AObj.map .s (mpF check_Names_V0 (Mp.get v22_4)) (Mp.n v22_4)) ∧ σ.length ≤ i22 ∧ Gx s i23 (AObj.map .s (mpF check_Names_V0 (Mp.get v23_33)) (Mp.n v23_33)) ∧ σ.length ≤ i23 ∧ Gx s i24 (AObj.map .s (mpF check_Names_V0 (Mp.get (Mp.emp : Mp Int))) (Mp.n (Mp.emp : Mp Int))) ∧ σ.length ≤ i24 ∧ e 1 = (.pt i1 0) ∧ e 4 = (.pt i20 0) ∧ e 6 = (.mp i22) ∧ e 7 = (.mp i23) ∧ e 8 = (.mp i24) ∧ e 12 = (.pt i12 0) ∧ e 50 = (.sl (List.map Input.cl a0.inputs)) ∧ e 51 = (.v (.int .i64 ((List.length a0.inputs : Nat) : Int))) ∧ e 52 = (.v (.int .i64 v52_31)) ∧ i1 ≠ i20 ∧ i12 ≠ i20 ∧ i22 ≠ i23 ∧ i22 ≠ i24 ∧ i23 ≠ i24 ∧ Pre σ s) ?_ fun e s hI => ?_
    ·have R43 : (List.map Input.cl a0.inputs)[(v52_31).toNat]? = some [(.v (.string y41.name)), (.v (.int .i64 y41.period)), (.v (.int .i64 y41.phase)), (.v (.int .i64 y41.at_))] := map_get (getI_some h42).2
     refine w_x (cj8 E1 E4 E6 E7 E8 E50 E51 (cj20 E52 E53 X1.get X1.any X1.any2 X20.get X20.any X20.any2 X22.get X22.any X22.any2 X23.get X23.any X23.any2 X24.get X24.any X24.any2 R43 (getI_some h42).1 TT)) (k := ?_)
     have q78 := cj20 E52 E53 X1.get X1.any X1.any2 X20.get X20.any X20.any2 X22.get X22.any X22.any2 X23.get X23.any X23.any2 X24.get X24.any X24.any2 R43 (getI_some h42).1 TT
     have q79 := cj8 E1 E4 E6 E7 E8 E50 E51 q78
     exact cw_n ⟨_, WkE.refl _, s.length, (X1.app [some (AObj.box 96 [(.v (.string y41.name)), (.v (.int .i64 y41.period)), (.v (.int .i64 y41.phase)), (.v (.int .i64 y41.at_))])]), (Bx.new hP 96 [(.v (.string y41.name)), (.v (.int .i64 y41.period)), (.v (.int .i64 y41.phase)), (.v (.int .i64 y41.at_))]), (X20.app [some (AObj.box 96 [(.v (.string y41.name)), (.v (.int .i64 y41.period)), (.v (.int .i64 y41.phase)), (.v (.int .i64 y41.at_))])]), (X22.app [some (AObj.box 96 [(.v (.string y41.name)), (.v (.int .i64 y41.period)), (.v (.int .i64 y41.phase)), (.v (.int .i64 y41.at_))])]), L22, (X23.app [some (AObj.box 96 [(.v (.string y41.name)), (.v (.int .i64 y41.period)), (.v (.int .i64 y41.phase)), (.v (.int .i64 y41.at_))])]), L23, (X24.app [some (AObj.box 96 [(.v (.string y41.name)), (.v (.int .i64 y41.period)), (.v (.int .i64 y41.phase)), (.v (.int .i64 y41.at_))])]), L24, (xv q79), (xv q79), (xv q79), (xv q79), (xv q79), (xv q79), (xv q79), (xv q79), (xv q79), N1__20, (Ne.symm (Nat.ne_of_lt X20.lt)), N22__23, N22__24, N23__24, (hP.app _)⟩
    obtain ⟨i12, X1, X12, X20, X22, L22, X23, L23, X24, L24, E1, E4, E6, E7, E8, E12, E50, E51, E52, N1__20, N12__20, N22__23, N22__24, N23__24, hP⟩ := hI
    obtain ⟨y44, h45, h38⟩ := bnd_some h38
    have q80 := Gx.apart X20.gx X22 (by intro h; cases h)
    have q81 := Gx.apart X20.gx X23 (by intro h; cases h)
    have q82 := Gx.apart X20.gx X24 (by intro h; cases h)
    have q83 := X20.same 106 [(.v (.int .i64 y44.2.1.at_)), (.v (.int .i64 y44.2.1.e))]
    have q84 := X22.ne q80 (some (AObj.box 106 [(.v (.int .i64 y44.2.1.at_)), (.v (.int .i64 y44.2.1.e))]))
    have q85 := X23.ne q81 (some (AObj.box 106 [(.v (.int .i64 y44.2.1.at_)), (.v (.int .i64 y44.2.1.e))]))
    have q86 := X24.ne q82 (some (AObj.box 106 [(.v (.int .i64 y44.2.1.at_)), (.v (.int .i64 y44.2.1.e))]))
    have q87 := X1.ne (Ne.symm N1__20) (some (AObj.box 106 [(.v (.int .i64 y44.2.1.at_)), (.v (.int .i64 y44.2.1.e))]))
    have q88 := X12.ne (Ne.symm N12__20) (some (AObj.box 106 [(.v (.int .i64 y44.2.1.at_)), (.v (.int .i64 y44.2.1.e))]))
    refine w_x (cj9 E1 E4 E6 E7 E8 E12 E50 E51 (cj20 E52 X1.get X12.get X20.get X22.get X23.get X24.get q87.get q88.get q83.get q84.get q85.get q86.get (q87.ne (Gx.apart q85 q87.gx (by intro h; cases h)) (some (AObj.map .s (mpF check_Names_V0 (Mp.get y44.2.2)) (Mp.n y44.2.2)))).get (q88.ne (Gx.apart q85 q88.gx (by intro h; cases h)) (some (AObj.map .s (mpF check_Names_V0 (Mp.get y44.2.2)) (Mp.n y44.2.2)))).get (q83.ne (Gx.apart q85 q83.gx (by intro h; cases h)) (some (AObj.map .s (mpF check_Names_V0 (Mp.get y44.2.2)) (Mp.n y44.2.2)))).get (q84.ne (Ne.symm N22__23) (some (AObj.map .s (mpF check_Names_V0 (Mp.get y44.2.2)) (Mp.n y44.2.2)))).get (Gx.same q85 (AObj.map .s (mpF check_Names_V0 (Mp.get y44.2.2)) (Mp.n y44.2.2))).get (q86.ne N23__24 (some (AObj.map .s (mpF check_Names_V0 (Mp.get y44.2.2)) (Mp.n y44.2.2)))).get TT)) (k := ?_)
    refine EC.wka (.cons (.refl _) (.cons (.refl _) (.cons (.refl _) (.cons (.refl _) .nil)))) (S_check_finder_fresh _ _ _ _ _ h45 _ _ _ _ X20.gx X23 ?_)
    have q89 := Gx.apart X20.gx X22 (by intro h; cases h)
    have q90 := Gx.apart X20.gx X23 (by intro h; cases h)
    have q91 := Gx.apart X20.gx X24 (by intro h; cases h)
    have q92 := X20.same 106 [(.v (.int .i64 y44.2.1.at_)), (.v (.int .i64 y44.2.1.e))]
    have q93 := X22.ne q89 (some (AObj.box 106 [(.v (.int .i64 y44.2.1.at_)), (.v (.int .i64 y44.2.1.e))]))
    have q94 := X23.ne q90 (some (AObj.box 106 [(.v (.int .i64 y44.2.1.at_)), (.v (.int .i64 y44.2.1.e))]))
    have q95 := X24.ne q91 (some (AObj.box 106 [(.v (.int .i64 y44.2.1.at_)), (.v (.int .i64 y44.2.1.e))]))
    have q96 := X1.ne (Ne.symm N1__20) (some (AObj.box 106 [(.v (.int .i64 y44.2.1.at_)), (.v (.int .i64 y44.2.1.e))]))
    have q97 := X12.ne (Ne.symm N12__20) (some (AObj.box 106 [(.v (.int .i64 y44.2.1.at_)), (.v (.int .i64 y44.2.1.e))]))
    refine w_y (cj9 E1 E4 E6 E7 E8 E12 E50 E51 (cj20 E52 X1.get X12.get X20.get X22.get X23.get X24.get q96.get q97.get q92.get q93.get q94.get q95.get (q96.ne (Gx.apart q94 q96.gx (by intro h; cases h)) (some (AObj.map .s (mpF check_Names_V0 (Mp.get y44.2.2)) (Mp.n y44.2.2)))).get (q97.ne (Gx.apart q94 q97.gx (by intro h; cases h)) (some (AObj.map .s (mpF check_Names_V0 (Mp.get y44.2.2)) (Mp.n y44.2.2)))).get (q92.ne (Gx.apart q94 q92.gx (by intro h; cases h)) (some (AObj.map .s (mpF check_Names_V0 (Mp.get y44.2.2)) (Mp.n y44.2.2)))).get (q93.ne (Ne.symm N22__23) (some (AObj.map .s (mpF check_Names_V0 (Mp.get y44.2.2)) (Mp.n y44.2.2)))).get (Gx.same q94 (AObj.map .s (mpF check_Names_V0 (Mp.get y44.2.2)) (Mp.n y44.2.2))).get (q95.ne N23__24 (some (AObj.map .s (mpF check_Names_V0 (Mp.get y44.2.2)) (Mp.n y44.2.2)))).get TT)) (k := ?_)
    refine w_bk ?_
    obtain rfl := some_inj h38
    have q98 := Gx.apart X20.gx X23 (by intro h; cases h)
    have q99 := Gx.apart X20.gx X22 (by intro h; cases h)
    have q100 := Gx.apart X20.gx X24 (by intro h; cases h)
    have q101 := X20.same 106 [(.v (.int .i64 y44.2.1.at_)), (.v (.int .i64 y44.2.1.e))]
    have q102 := X23.ne q98 (some (AObj.box 106 [(.v (.int .i64 y44.2.1.at_)), (.v (.int .i64 y44.2.1.e))]))
    have q103 := Gx.apart q102 q101.gx (by intro h; cases h)
    have q104 := X22.ne q99 (some (AObj.box 106 [(.v (.int .i64 y44.2.1.at_)), (.v (.int .i64 y44.2.1.e))]))
    have q105 := X24.ne q100 (some (AObj.box 106 [(.v (.int .i64 y44.2.1.at_)), (.v (.int .i64 y44.2.1.e))]))
    have q106 := Gx.same q102 (AObj.map .s (mpF check_Names_V0 (Mp.get y44.2.2)) (Mp.n y44.2.2))
    have q107 := X1.ne (Ne.symm N1__20) (some (AObj.box 106 [(.v (.int .i64 y44.2.1.at_)), (.v (.int .i64 y44.2.1.e))]))
    have q108 := Gx.apart q102 q107.gx (by intro h; cases h)
    have q109 := X12.ne (Ne.symm N12__20) (some (AObj.box 106 [(.v (.int .i64 y44.2.1.at_)), (.v (.int .i64 y44.2.1.e))]))
    have q110 := Gx.apart q102 q109.gx (by intro h; cases h)
    have q111 := cj20 E52 X1.get X12.get X20.get X22.get X23.get X24.get q107.get q109.get q101.get q104.get q102.get q105.get (q107.ne q108 (some (AObj.map .s (mpF check_Names_V0 (Mp.get y44.2.2)) (Mp.n y44.2.2)))).get (q109.ne q110 (some (AObj.map .s (mpF check_Names_V0 (Mp.get y44.2.2)) (Mp.n y44.2.2)))).get (q101.ne q103 (some (AObj.map .s (mpF check_Names_V0 (Mp.get y44.2.2)) (Mp.n y44.2.2)))).get (q104.ne (Ne.symm N22__23) (some (AObj.map .s (mpF check_Names_V0 (Mp.get y44.2.2)) (Mp.n y44.2.2)))).get q106.get (q105.ne N23__24 (some (AObj.map .s (mpF check_Names_V0 (Mp.get y44.2.2)) (Mp.n y44.2.2)))).get TT
    have q112 := cj9 E1 E4 E6 E7 E8 E12 E50 E51 q111
    exact cw_n ⟨_, WkE.refl _, _, _, rfl, (q107.ne q108 (some (AObj.map .s (mpF check_Names_V0 (Mp.get y44.2.2)) (Mp.n y44.2.2)))), (q101.ne q103 (some (AObj.map .s (mpF check_Names_V0 (Mp.get y44.2.2)) (Mp.n y44.2.2)))), (q104.ne (Ne.symm N22__23) (some (AObj.map .s (mpF check_Names_V0 (Mp.get y44.2.2)) (Mp.n y44.2.2)))), L22, q106, L23, (q105.ne N23__24 (some (AObj.map .s (mpF check_Names_V0 (Mp.get y44.2.2)) (Mp.n y44.2.2)))), L24, (xv q112), (xv q112), (xv q112), (xv q112), (xv q112), (xv q112), (xv q112), (xv q112), N1__20, N22__23, N22__24, N23__24, ((hP.set X20.le (some (AObj.box 106 [(.v (.int .i64 y44.2.1.at_)), (.v (.int .i64 y44.2.1.e))]))).set L23 (some (AObj.map .s (mpF check_Names_V0 (Mp.get y44.2.2)) (Mp.n y44.2.2))))⟩
   obtain ⟨v20_39, v23_40, rfl, X1, X20, X22, L22, X23, L23, X24, L24, E1, E4, E6, E7, E8, E50, E51, E52, N1__20, N22__23, N22__24, N23__24, hP⟩ := hI
   try dsimp only at hf35
   refine w_x (cj14 E1 E4 E6 E7 E8 E50 E51 E52 X1.get X20.get X22.get X23.get X24.get TT) (k := ?_)
   obtain rfl := some_inj hf35
   have q113 := cj14 E1 E4 E6 E7 E8 E50 E51 E52 X1.get X20.get X22.get X23.get X24.get TT
   exact iq_n rfl ⟨_, WkE.refl _, _, _, _, rfl, X1, X20, X22, L22, X23, L23, X24, L24, (xv q113), (xv q113), (xv q113), (xv q113), (xv q113), (xv q113), (xv q113), (xv q113), N1__20, N22__23, N22__24, N23__24, hP⟩
  ·refine xf (cj10 E1 E4 E6 E7 E8 E50 E51 E52 E53 hb36) ?_
   refine w_exit ?_
   refine w_sqx ?_
   obtain rfl := some_inj hf35
   refine iq_x rfl fun hr46 => ?_
   obtain rfl := hr46
   refine w_bkx ?_
   have q114 := cj9 E1 E4 E6 E7 E8 E50 E51 E52 E53
   exact cw_n ⟨_, WkE.refl _, _, _, rfl, X1, X20, X22, L22, X23, L23, X24, L24, (xv q114), (xv q114), (xv q114), (xv q114), (xv q114), N1__20, N22__23, N22__24, N23__24, hP⟩
 obtain ⟨v20_29, v23_30, rfl, X1, X20, X22, L22, X23, L23, X24, L24, E1, E4, E6, E7, E8, N1__20, N22__23, N22__24, N23__24, hP⟩ := hI
 try dsimp only at h
 refine w_assoc ?_
 refine w_sa (fun e s => Bx σ s i1 27 (check_Names_A0 a0) ∧ Bx σ s i20 106 [(.v (.int .i64 v20_29.at_)), (.v (.int .i64 v20_29.e))] ∧ Gx s i22 (AObj.map .s (mpF check_Names_V0 (Mp.get v22_4)) (Mp.n v22_4)) ∧ σ.length ≤ i22 ∧ Gx s i23 (AObj.map .s (mpF check_Names_V0 (Mp.get v23_30)) (Mp.n v23_30)) ∧ σ.length ≤ i23 ∧ Gx s i24 (AObj.map .s (mpF check_Names_V0 (Mp.get (Mp.emp : Mp Int))) (Mp.n (Mp.emp : Mp Int))) ∧ σ.length ≤ i24 ∧ e 1 = (.pt i1 0) ∧ e 4 = (.pt i20 0) ∧ e 6 = (.mp i22) ∧ e 7 = (.mp i23) ∧ e 8 = (.mp i24) ∧ e 65 = (.sl (List.map Flow.cl a0.flows)) ∧ e 66 = (.v (.int .i64 ((List.length a0.flows : Nat) : Int))) ∧ e 67 = (.v (.int .i64 (0 : Int))) ∧ i1 ≠ i20 ∧ i22 ≠ i23 ∧ i22 ≠ i24 ∧ i23 ≠ i24 ∧ Pre σ s) ?_ fun e s hI => ?_
 ·refine w_x (cj11 E1 E4 E6 E7 E8 X1.get X20.get X22.get X23.get X24.get TT) (k := ?_)
  have q115 := cj11 E1 E4 E6 E7 E8 X1.get X20.get X22.get X23.get X24.get TT
  exact cw_n ⟨_, WkE.refl _, X1, X20, X22, L22, X23, L23, X24, L24, (xv q115), (xv q115), (xv q115), (xv q115), (xv q115), (xv q115), (xv q115), (xv q115), N1__20, N22__23, N22__24, N23__24, hP⟩
 obtain ⟨X1, X20, X22, L22, X23, L23, X24, L24, E1, E4, E6, E7, E8, E65, E66, E67, N1__20, N22__23, N22__24, N23__24, hP⟩ := hI
 obtain ⟨x47, h48, h⟩ := bnd_some h
 refine w_sa (fun e s => ∃ v20_49 : check_finder, ∃ v23_50 : (Mp Int), (v20_49, v23_50) = x47 ∧ Bx σ s i1 27 (check_Names_A0 a0) ∧ Bx σ s i20 106 [(.v (.int .i64 v20_49.at_)), (.v (.int .i64 v20_49.e))] ∧ Gx s i22 (AObj.map .s (mpF check_Names_V0 (Mp.get v22_4)) (Mp.n v22_4)) ∧ σ.length ≤ i22 ∧ Gx s i23 (AObj.map .s (mpF check_Names_V0 (Mp.get v23_50)) (Mp.n v23_50)) ∧ σ.length ≤ i23 ∧ Gx s i24 (AObj.map .s (mpF check_Names_V0 (Mp.get (Mp.emp : Mp Int))) (Mp.n (Mp.emp : Mp Int))) ∧ σ.length ≤ i24 ∧ e 1 = (.pt i1 0) ∧ e 4 = (.pt i20 0) ∧ e 6 = (.mp i22) ∧ e 7 = (.mp i23) ∧ e 8 = (.mp i24) ∧ i1 ≠ i20 ∧ i22 ≠ i23 ∧ i22 ≠ i24 ∧ i23 ≠ i24 ∧ Pre σ s) ?_ fun e s hI => ?_
 ·refine w_block ?_
  have q116 := cj8 E1 E4 E6 E7 E8 E65 E66 E67
  refine w_iter h48 (fun v e s => ∃ v67_51 : Int, ∃ v20_52 : check_finder, ∃ v23_53 : (Mp Int), (v67_51, v20_52, v23_53) = v ∧ Bx σ s i1 27 (check_Names_A0 a0) ∧ Bx σ s i20 106 [(.v (.int .i64 v20_52.at_)), (.v (.int .i64 v20_52.e))] ∧ Gx s i22 (AObj.map .s (mpF check_Names_V0 (Mp.get v22_4)) (Mp.n v22_4)) ∧ σ.length ≤ i22 ∧ Gx s i23 (AObj.map .s (mpF check_Names_V0 (Mp.get v23_53)) (Mp.n v23_53)) ∧ σ.length ≤ i23 ∧ Gx s i24 (AObj.map .s (mpF check_Names_V0 (Mp.get (Mp.emp : Mp Int))) (Mp.n (Mp.emp : Mp Int))) ∧ σ.length ≤ i24 ∧ e 1 = (.pt i1 0) ∧ e 4 = (.pt i20 0) ∧ e 6 = (.mp i22) ∧ e 7 = (.mp i23) ∧ e 8 = (.mp i24) ∧ e 65 = (.sl (List.map Flow.cl a0.flows)) ∧ e 66 = (.v (.int .i64 ((List.length a0.flows : Nat) : Int))) ∧ e 67 = (.v (.int .i64 v67_51)) ∧ i1 ≠ i20 ∧ i22 ≠ i23 ∧ i22 ≠ i24 ∧ i23 ≠ i24 ∧ Pre σ s) ⟨_, WkE.refl _, _, _, _, rfl, X1, X20, X22, L22, X23, L23, X24, L24, (xv q116), (xv q116), (xv q116), (xv q116), (xv q116), (xv q116), (xv q116), (xv q116), N1__20, N22__23, N22__24, N23__24, hP⟩ fun v x54 e s hf55 hI => ?_
  obtain ⟨v67_51, v20_52, v23_53, rfl, X1, X20, X22, L22, X23, L23, X24, L24, E1, E4, E6, E7, E8, E65, E66, E67, N1__20, N22__23, N22__24, N23__24, hP⟩ := hI
  unfold check_Names_L2 at hf55
  try dsimp only at hf55
  refine w_sa (fun e s => Bx σ s i1 27 (check_Names_A0 a0) ∧ Bx σ s i20 106 [(.v (.int .i64 v20_52.at_)), (.v (.int .i64 v20_52.e))] ∧ Gx s i22 (AObj.map .s (mpF check_Names_V0 (Mp.get v22_4)) (Mp.n v22_4)) ∧ σ.length ≤ i22 ∧ Gx s i23 (AObj.map .s (mpF check_Names_V0 (Mp.get v23_53)) (Mp.n v23_53)) ∧ σ.length ≤ i23 ∧ Gx s i24 (AObj.map .s (mpF check_Names_V0 (Mp.get (Mp.emp : Mp Int))) (Mp.n (Mp.emp : Mp Int))) ∧ σ.length ≤ i24 ∧ e 1 = (.pt i1 0) ∧ e 4 = (.pt i20 0) ∧ e 6 = (.mp i22) ∧ e 7 = (.mp i23) ∧ e 8 = (.mp i24) ∧ e 65 = (.sl (List.map Flow.cl a0.flows)) ∧ e 66 = (.v (.int .i64 ((List.length a0.flows : Nat) : Int))) ∧ e 67 = (.v (.int .i64 v67_51)) ∧ e 68 = (.v (.bool (decide (v67_51 < ((List.length a0.flows : Nat) : Int))))) ∧ i1 ≠ i20 ∧ i22 ≠ i23 ∧ i22 ≠ i24 ∧ i23 ≠ i24 ∧ Pre σ s) ?_ fun e s hI => ?_
  ·refine w_x (cj14 E1 E4 E6 E7 E8 E65 E66 E67 X1.get X20.get X22.get X23.get X24.get TT) (k := ?_)
   have q117 := cj14 E1 E4 E6 E7 E8 E65 E66 E67 X1.get X20.get X22.get X23.get X24.get TT
   exact cw_n ⟨_, WkE.refl _, X1, X20, X22, L22, X23, L23, X24, L24, (xv q117), (xv q117), (xv q117), (xv q117), (xv q117), (xv q117), (xv q117), (xv q117), (xv q117), N1__20, N22__23, N22__24, N23__24, hP⟩
  obtain ⟨X1, X20, X22, L22, X23, L23, X24, L24, E1, E4, E6, E7, E8, E65, E66, E67, E68, N1__20, N22__23, N22__24, N23__24, hP⟩ := hI
  refine w_seq ?_
  rcases ite_some hf55 with ⟨hb56, hf55⟩ | ⟨hb56, hf55⟩
  ·refine xt (cj10 E1 E4 E6 E7 E8 E65 E66 E67 E68 hb56) ?_
   refine w_skip ?_
   refine w_sq ?_
   obtain ⟨x57, h58, hf55⟩ := bnd_some hf55
   refine w_sa (fun e s => ∃ v20_59 : check_finder, ∃ v23_60 : (Mp Int), (v20_59, v23_60) = x57 ∧ Bx σ s i1 27 (check_Names_A0 a0) ∧ Bx σ s i20 106 [(.v (.int .i64 v20_59.at_)), (.v (.int .i64 v20_59.e))] ∧ Gx s i22 (AObj.map .s (mpF check_Names_V0 (Mp.get v22_4)) (Mp.n v22_4)) ∧ σ.length ≤ i22 ∧ Gx s i23 (AObj.map .s (mpF check_Names_V0 (Mp.get v23_60)) (Mp.n v23_60)) ∧ σ.length ≤ i23 ∧ Gx s i24 (AObj.map .s (mpF check_Names_V0 (Mp.get (Mp.emp : Mp Int))) (Mp.n (Mp.emp : Mp Int))) ∧ σ.length ≤ i24 ∧ e 1 = (.pt i1 0) ∧ e 4 = (.pt i20 0) ∧ e 6 = (.mp i22) ∧ e 7 = (.mp i23) ∧ e 8 = (.mp i24) ∧ e 65 = (.sl (List.map Flow.cl a0.flows)) ∧ e 66 = (.v (.int .i64 ((List.length a0.flows : Nat) : Int))) ∧ e 67 = (.v (.int .i64 v67_51)) ∧ i1 ≠ i20 ∧ i22 ≠ i23 ∧ i22 ≠ i24 ∧ i23 ≠ i24 ∧ Pre σ s) ?_ fun e s hI => ?_
   ·refine w_block ?_
    obtain ⟨y61, h62, h58⟩ := bnd_some h58
    refine w_sa (fun e s => ∃ i14 : Nat, Bx σ s i1 27 (check_Names_A0 a0) ∧ Bx σ s i14 41 [(.v (.string y61.name)), (.v (.int .i64 y61.e.kind)), (.v (.string y61.e.name)), (.v (.int .i64 y61.e.n)), (.v (.int .i64 y61.e.d)), (.sl (Expr.rows y61.e.args)), (.v (.int .i64 y61.e.at_)), (.v (.int .i64 y61.at_))] ∧ Bx σ s i20 106 [(.v (.int .i64 v20_52.at_)), (.v (.int .i64 v20_52.e))] ∧ Gx s i22 (AObj.map .s (mpF check_Names_V0 (Mp.get v22_4)) (Mp.n v22_4)) ∧ σ.length ≤ i22 ∧ Gx s i23 (AObj.map .s (mpF check_Names_V0 (Mp.get v23_53)) (Mp.n v23_53)) ∧ σ.length ≤ i23 ∧ Gx s i24 (AObj.map .s (mpF check_Names_V0 (Mp.get (Mp.emp : Mp Int))) (Mp.n (Mp.emp : Mp Int))) ∧ σ.length ≤ i24 ∧ e 1 = (.pt i1 0) ∧ e 4 = (.pt i20 0) ∧ e 6 = (.mp i22) ∧ e 7 = (.mp i23) ∧ e 8 = (.mp i24) ∧ e 14 = (.pt i14 0) ∧ e 65 = (.sl (List.map Flow.cl a0.flows)) ∧ e 66 = (.v (.int .i64 ((List.length a0.flows : Nat) : Int))) ∧ e 67 = (.v (.int .i64 v67_51)) ∧ i1 ≠ i20 ∧ i14 ≠ i20 ∧ i22 ≠ i23 ∧ i22 ≠ i24 ∧ i23 ≠ i24 ∧ Pre σ s) ?_ fun e s hI => ?_
    ·have R63 : (List.map Flow.cl a0.flows)[(v67_51).toNat]? = some [(.v (.string y61.name)), (.v (.int .i64 y61.e.kind)), (.v (.string y61.e.name)), (.v (.int .i64 y61.e.n)), (.v (.int .i64 y61.e.d)), (.sl (Expr.rows y61.e.args)), (.v (.int .i64 y61.e.at_)), (.v (.int .i64 y61.at_))] := map_get (getI_some h62).2
     refine w_x (cj8 E1 E4 E6 E7 E8 E65 E66 (cj20 E67 E68 X1.get X1.any X1.any2 X20.get X20.any X20.any2 X22.get X22.any X22.any2 X23.get X23.any X23.any2 X24.get X24.any X24.any2 R63 (getI_some h62).1 TT)) (k := ?_)
     have q118 := cj20 E67 E68 X1.get X1.any X1.any2 X20.get X20.any X20.any2 X22.get X22.any X22.any2 X23.get X23.any X23.any2 X24.get X24.any X24.any2 R63 (getI_some h62).1 TT
     have q119 := cj8 E1 E4 E6 E7 E8 E65 E66 q118
     exact cw_n ⟨_, WkE.refl _, s.length, (X1.app [some (AObj.box 41 [(.v (.string y61.name)), (.v (.int .i64 y61.e.kind)), (.v (.string y61.e.name)), (.v (.int .i64 y61.e.n)), (.v (.int .i64 y61.e.d)), (.sl (Expr.rows y61.e.args)), (.v (.int .i64 y61.e.at_)), (.v (.int .i64 y61.at_))])]), (Bx.new hP 41 [(.v (.string y61.name)), (.v (.int .i64 y61.e.kind)), (.v (.string y61.e.name)), (.v (.int .i64 y61.e.n)), (.v (.int .i64 y61.e.d)), (.sl (Expr.rows y61.e.args)), (.v (.int .i64 y61.e.at_)), (.v (.int .i64 y61.at_))]), (X20.app [some (AObj.box 41 [(.v (.string y61.name)), (.v (.int .i64 y61.e.kind)), (.v (.string y61.e.name)), (.v (.int .i64 y61.e.n)), (.v (.int .i64 y61.e.d)), (.sl (Expr.rows y61.e.args)), (.v (.int .i64 y61.e.at_)), (.v (.int .i64 y61.at_))])]), (X22.app [some (AObj.box 41 [(.v (.string y61.name)), (.v (.int .i64 y61.e.kind)), (.v (.string y61.e.name)), (.v (.int .i64 y61.e.n)), (.v (.int .i64 y61.e.d)), (.sl (Expr.rows y61.e.args)), (.v (.int .i64 y61.e.at_)), (.v (.int .i64 y61.at_))])]), L22, (X23.app [some (AObj.box 41 [(.v (.string y61.name)), (.v (.int .i64 y61.e.kind)), (.v (.string y61.e.name)), (.v (.int .i64 y61.e.n)), (.v (.int .i64 y61.e.d)), (.sl (Expr.rows y61.e.args)), (.v (.int .i64 y61.e.at_)), (.v (.int .i64 y61.at_))])]), L23, (X24.app [some (AObj.box 41 [(.v (.string y61.name)), (.v (.int .i64 y61.e.kind)), (.v (.string y61.e.name)), (.v (.int .i64 y61.e.n)), (.v (.int .i64 y61.e.d)), (.sl (Expr.rows y61.e.args)), (.v (.int .i64 y61.e.at_)), (.v (.int .i64 y61.at_))])]), L24, (xv q119), (xv q119), (xv q119), (xv q119), (xv q119), (xv q119), (xv q119), (xv q119), (xv q119), N1__20, (Ne.symm (Nat.ne_of_lt X20.lt)), N22__23, N22__24, N23__24, (hP.app _)⟩
    obtain ⟨i14, X1, X14, X20, X22, L22, X23, L23, X24, L24, E1, E4, E6, E7, E8, E14, E65, E66, E67, N1__20, N14__20, N22__23, N22__24, N23__24, hP⟩ := hI
    obtain ⟨y64, h65, h58⟩ := bnd_some h58
    have q120 := Gx.apart X20.gx X22 (by intro h; cases h)
    have q121 := Gx.apart X20.gx X23 (by intro h; cases h)
    have q122 := Gx.apart X20.gx X24 (by intro h; cases h)
    have q123 := X20.same 106 [(.v (.int .i64 y64.2.1.at_)), (.v (.int .i64 y64.2.1.e))]
    have q124 := X22.ne q120 (some (AObj.box 106 [(.v (.int .i64 y64.2.1.at_)), (.v (.int .i64 y64.2.1.e))]))
    have q125 := X23.ne q121 (some (AObj.box 106 [(.v (.int .i64 y64.2.1.at_)), (.v (.int .i64 y64.2.1.e))]))
    have q126 := X24.ne q122 (some (AObj.box 106 [(.v (.int .i64 y64.2.1.at_)), (.v (.int .i64 y64.2.1.e))]))
    have q127 := X1.ne (Ne.symm N1__20) (some (AObj.box 106 [(.v (.int .i64 y64.2.1.at_)), (.v (.int .i64 y64.2.1.e))]))
    have q128 := X14.ne (Ne.symm N14__20) (some (AObj.box 106 [(.v (.int .i64 y64.2.1.at_)), (.v (.int .i64 y64.2.1.e))]))
    refine w_x (cj9 E1 E4 E6 E7 E8 E14 E65 E66 (cj20 E67 X1.get X14.get X20.get X22.get X23.get X24.get q127.get q128.get q123.get q124.get q125.get q126.get (q127.ne (Gx.apart q125 q127.gx (by intro h; cases h)) (some (AObj.map .s (mpF check_Names_V0 (Mp.get y64.2.2)) (Mp.n y64.2.2)))).get (q128.ne (Gx.apart q125 q128.gx (by intro h; cases h)) (some (AObj.map .s (mpF check_Names_V0 (Mp.get y64.2.2)) (Mp.n y64.2.2)))).get (q123.ne (Gx.apart q125 q123.gx (by intro h; cases h)) (some (AObj.map .s (mpF check_Names_V0 (Mp.get y64.2.2)) (Mp.n y64.2.2)))).get (q124.ne (Ne.symm N22__23) (some (AObj.map .s (mpF check_Names_V0 (Mp.get y64.2.2)) (Mp.n y64.2.2)))).get (Gx.same q125 (AObj.map .s (mpF check_Names_V0 (Mp.get y64.2.2)) (Mp.n y64.2.2))).get (q126.ne N23__24 (some (AObj.map .s (mpF check_Names_V0 (Mp.get y64.2.2)) (Mp.n y64.2.2)))).get TT)) (k := ?_)
    refine EC.wka (.cons (.refl _) (.cons (.refl _) (.cons (.refl _) (.cons (.refl _) .nil)))) (S_check_finder_fresh _ _ _ _ _ h65 _ _ _ _ X20.gx X23 ?_)
    have q129 := Gx.apart X20.gx X22 (by intro h; cases h)
    have q130 := Gx.apart X20.gx X23 (by intro h; cases h)
    have q131 := Gx.apart X20.gx X24 (by intro h; cases h)
    have q132 := X20.same 106 [(.v (.int .i64 y64.2.1.at_)), (.v (.int .i64 y64.2.1.e))]
    have q133 := X22.ne q129 (some (AObj.box 106 [(.v (.int .i64 y64.2.1.at_)), (.v (.int .i64 y64.2.1.e))]))
    have q134 := X23.ne q130 (some (AObj.box 106 [(.v (.int .i64 y64.2.1.at_)), (.v (.int .i64 y64.2.1.e))]))
    have q135 := X24.ne q131 (some (AObj.box 106 [(.v (.int .i64 y64.2.1.at_)), (.v (.int .i64 y64.2.1.e))]))
    have q136 := X1.ne (Ne.symm N1__20) (some (AObj.box 106 [(.v (.int .i64 y64.2.1.at_)), (.v (.int .i64 y64.2.1.e))]))
    have q137 := X14.ne (Ne.symm N14__20) (some (AObj.box 106 [(.v (.int .i64 y64.2.1.at_)), (.v (.int .i64 y64.2.1.e))]))
    refine w_y (cj9 E1 E4 E6 E7 E8 E14 E65 E66 (cj20 E67 X1.get X14.get X20.get X22.get X23.get X24.get q136.get q137.get q132.get q133.get q134.get q135.get (q136.ne (Gx.apart q134 q136.gx (by intro h; cases h)) (some (AObj.map .s (mpF check_Names_V0 (Mp.get y64.2.2)) (Mp.n y64.2.2)))).get (q137.ne (Gx.apart q134 q137.gx (by intro h; cases h)) (some (AObj.map .s (mpF check_Names_V0 (Mp.get y64.2.2)) (Mp.n y64.2.2)))).get (q132.ne (Gx.apart q134 q132.gx (by intro h; cases h)) (some (AObj.map .s (mpF check_Names_V0 (Mp.get y64.2.2)) (Mp.n y64.2.2)))).get (q133.ne (Ne.symm N22__23) (some (AObj.map .s (mpF check_Names_V0 (Mp.get y64.2.2)) (Mp.n y64.2.2)))).get (Gx.same q134 (AObj.map .s (mpF check_Names_V0 (Mp.get y64.2.2)) (Mp.n y64.2.2))).get (q135.ne N23__24 (some (AObj.map .s (mpF check_Names_V0 (Mp.get y64.2.2)) (Mp.n y64.2.2)))).get TT)) (k := ?_)
    refine w_bk ?_
    obtain rfl := some_inj h58
    have q138 := Gx.apart X20.gx X23 (by intro h; cases h)
    have q139 := Gx.apart X20.gx X22 (by intro h; cases h)
    have q140 := Gx.apart X20.gx X24 (by intro h; cases h)
    have q141 := X20.same 106 [(.v (.int .i64 y64.2.1.at_)), (.v (.int .i64 y64.2.1.e))]
    have q142 := X23.ne q138 (some (AObj.box 106 [(.v (.int .i64 y64.2.1.at_)), (.v (.int .i64 y64.2.1.e))]))
    have q143 := Gx.apart q142 q141.gx (by intro h; cases h)
    have q144 := X22.ne q139 (some (AObj.box 106 [(.v (.int .i64 y64.2.1.at_)), (.v (.int .i64 y64.2.1.e))]))
    have q145 := X24.ne q140 (some (AObj.box 106 [(.v (.int .i64 y64.2.1.at_)), (.v (.int .i64 y64.2.1.e))]))
    have q146 := Gx.same q142 (AObj.map .s (mpF check_Names_V0 (Mp.get y64.2.2)) (Mp.n y64.2.2))
    have q147 := X1.ne (Ne.symm N1__20) (some (AObj.box 106 [(.v (.int .i64 y64.2.1.at_)), (.v (.int .i64 y64.2.1.e))]))
    have q148 := Gx.apart q142 q147.gx (by intro h; cases h)
    have q149 := X14.ne (Ne.symm N14__20) (some (AObj.box 106 [(.v (.int .i64 y64.2.1.at_)), (.v (.int .i64 y64.2.1.e))]))
    have q150 := Gx.apart q142 q149.gx (by intro h; cases h)
    have q151 := cj20 E67 X1.get X14.get X20.get X22.get X23.get X24.get q147.get q149.get q141.get q144.get q142.get q145.get (q147.ne q148 (some (AObj.map .s (mpF check_Names_V0 (Mp.get y64.2.2)) (Mp.n y64.2.2)))).get (q149.ne q150 (some (AObj.map .s (mpF check_Names_V0 (Mp.get y64.2.2)) (Mp.n y64.2.2)))).get (q141.ne q143 (some (AObj.map .s (mpF check_Names_V0 (Mp.get y64.2.2)) (Mp.n y64.2.2)))).get (q144.ne (Ne.symm N22__23) (some (AObj.map .s (mpF check_Names_V0 (Mp.get y64.2.2)) (Mp.n y64.2.2)))).get q146.get (q145.ne N23__24 (some (AObj.map .s (mpF check_Names_V0 (Mp.get y64.2.2)) (Mp.n y64.2.2)))).get TT
    have q152 := cj9 E1 E4 E6 E7 E8 E14 E65 E66 q151
    exact cw_n ⟨_, WkE.refl _, _, _, rfl, (q147.ne q148 (some (AObj.map .s (mpF check_Names_V0 (Mp.get y64.2.2)) (Mp.n y64.2.2)))), (q141.ne q143 (some (AObj.map .s (mpF check_Names_V0 (Mp.get y64.2.2)) (Mp.n y64.2.2)))), (q144.ne (Ne.symm N22__23) (some (AObj.map .s (mpF check_Names_V0 (Mp.get y64.2.2)) (Mp.n y64.2.2)))), L22, q146, L23, (q145.ne N23__24 (some (AObj.map .s (mpF check_Names_V0 (Mp.get y64.2.2)) (Mp.n y64.2.2)))), L24, (xv q152), (xv q152), (xv q152), (xv q152), (xv q152), (xv q152), (xv q152), (xv q152), N1__20, N22__23, N22__24, N23__24, ((hP.set X20.le (some (AObj.box 106 [(.v (.int .i64 y64.2.1.at_)), (.v (.int .i64 y64.2.1.e))]))).set L23 (some (AObj.map .s (mpF check_Names_V0 (Mp.get y64.2.2)) (Mp.n y64.2.2))))⟩
   obtain ⟨v20_59, v23_60, rfl, X1, X20, X22, L22, X23, L23, X24, L24, E1, E4, E6, E7, E8, E65, E66, E67, N1__20, N22__23, N22__24, N23__24, hP⟩ := hI
   try dsimp only at hf55
   refine w_x (cj14 E1 E4 E6 E7 E8 E65 E66 E67 X1.get X20.get X22.get X23.get X24.get TT) (k := ?_)
   obtain rfl := some_inj hf55
   have q153 := cj14 E1 E4 E6 E7 E8 E65 E66 E67 X1.get X20.get X22.get X23.get X24.get TT
   exact iq_n rfl ⟨_, WkE.refl _, _, _, _, rfl, X1, X20, X22, L22, X23, L23, X24, L24, (xv q153), (xv q153), (xv q153), (xv q153), (xv q153), (xv q153), (xv q153), (xv q153), N1__20, N22__23, N22__24, N23__24, hP⟩
  ·refine xf (cj10 E1 E4 E6 E7 E8 E65 E66 E67 E68 hb56) ?_
   refine w_exit ?_
   refine w_sqx ?_
   obtain rfl := some_inj hf55
   refine iq_x rfl fun hr66 => ?_
   obtain rfl := hr66
   refine w_bkx ?_
   have q154 := cj9 E1 E4 E6 E7 E8 E65 E66 E67 E68
   exact cw_n ⟨_, WkE.refl _, _, _, rfl, X1, X20, X22, L22, X23, L23, X24, L24, (xv q154), (xv q154), (xv q154), (xv q154), (xv q154), N1__20, N22__23, N22__24, N23__24, hP⟩
 obtain ⟨v20_49, v23_50, rfl, X1, X20, X22, L22, X23, L23, X24, L24, E1, E4, E6, E7, E8, N1__20, N22__23, N22__24, N23__24, hP⟩ := hI
 try dsimp only at h
 refine w_assoc ?_
 refine w_sa (fun e s => Bx σ s i1 27 (check_Names_A0 a0) ∧ Bx σ s i20 106 [(.v (.int .i64 v20_49.at_)), (.v (.int .i64 v20_49.e))] ∧ Gx s i22 (AObj.map .s (mpF check_Names_V0 (Mp.get v22_4)) (Mp.n v22_4)) ∧ σ.length ≤ i22 ∧ Gx s i23 (AObj.map .s (mpF check_Names_V0 (Mp.get v23_50)) (Mp.n v23_50)) ∧ σ.length ≤ i23 ∧ Gx s i24 (AObj.map .s (mpF check_Names_V0 (Mp.get (Mp.emp : Mp Int))) (Mp.n (Mp.emp : Mp Int))) ∧ σ.length ≤ i24 ∧ e 1 = (.pt i1 0) ∧ e 4 = (.pt i20 0) ∧ e 6 = (.mp i22) ∧ e 7 = (.mp i23) ∧ e 8 = (.mp i24) ∧ e 80 = (.sl (List.map Flow.cl a0.flows)) ∧ e 81 = (.v (.int .i64 ((List.length a0.flows : Nat) : Int))) ∧ e 82 = (.v (.int .i64 (0 : Int))) ∧ i1 ≠ i20 ∧ i22 ≠ i23 ∧ i22 ≠ i24 ∧ i23 ≠ i24 ∧ Pre σ s) ?_ fun e s hI => ?_
 ·refine w_x (cj11 E1 E4 E6 E7 E8 X1.get X20.get X22.get X23.get X24.get TT) (k := ?_)
  have q155 := cj11 E1 E4 E6 E7 E8 X1.get X20.get X22.get X23.get X24.get TT
  exact cw_n ⟨_, WkE.refl _, X1, X20, X22, L22, X23, L23, X24, L24, (xv q155), (xv q155), (xv q155), (xv q155), (xv q155), (xv q155), (xv q155), (xv q155), N1__20, N22__23, N22__24, N23__24, hP⟩
 obtain ⟨X1, X20, X22, L22, X23, L23, X24, L24, E1, E4, E6, E7, E8, E80, E81, E82, N1__20, N22__23, N22__24, N23__24, hP⟩ := hI
 obtain ⟨x67, h68, h⟩ := bnd_some h
 refine w_sa (fun e s => ∃ v20_69 : check_finder, v20_69 = x67 ∧ Bx σ s i1 27 (check_Names_A0 a0) ∧ Bx σ s i20 106 [(.v (.int .i64 v20_69.at_)), (.v (.int .i64 v20_69.e))] ∧ Gx s i24 (AObj.map .s (mpF check_Names_V0 (Mp.get (Mp.emp : Mp Int))) (Mp.n (Mp.emp : Mp Int))) ∧ σ.length ≤ i24 ∧ e 1 = (.pt i1 0) ∧ e 4 = (.pt i20 0) ∧ e 8 = (.mp i24) ∧ i1 ≠ i20 ∧ Pre σ s) ?_ fun e s hI => ?_
 ·refine w_block ?_
  have q156 := cj8 E1 E4 E6 E7 E8 E80 E81 E82
  refine w_iter h68 (fun v e s => ∃ v82_70 : Int, ∃ v20_71 : check_finder, (v82_70, v20_71) = v ∧ Bx σ s i1 27 (check_Names_A0 a0) ∧ Bx σ s i20 106 [(.v (.int .i64 v20_71.at_)), (.v (.int .i64 v20_71.e))] ∧ Gx s i22 (AObj.map .s (mpF check_Names_V0 (Mp.get v22_4)) (Mp.n v22_4)) ∧ σ.length ≤ i22 ∧ Gx s i23 (AObj.map .s (mpF check_Names_V0 (Mp.get v23_50)) (Mp.n v23_50)) ∧ σ.length ≤ i23 ∧ Gx s i24 (AObj.map .s (mpF check_Names_V0 (Mp.get (Mp.emp : Mp Int))) (Mp.n (Mp.emp : Mp Int))) ∧ σ.length ≤ i24 ∧ e 1 = (.pt i1 0) ∧ e 4 = (.pt i20 0) ∧ e 6 = (.mp i22) ∧ e 7 = (.mp i23) ∧ e 8 = (.mp i24) ∧ e 80 = (.sl (List.map Flow.cl a0.flows)) ∧ e 81 = (.v (.int .i64 ((List.length a0.flows : Nat) : Int))) ∧ e 82 = (.v (.int .i64 v82_70)) ∧ i1 ≠ i20 ∧ i22 ≠ i23 ∧ i22 ≠ i24 ∧ i23 ≠ i24 ∧ Pre σ s) ⟨_, WkE.refl _, _, _, rfl, X1, X20, X22, L22, X23, L23, X24, L24, (xv q156), (xv q156), (xv q156), (xv q156), (xv q156), (xv q156), (xv q156), (xv q156), N1__20, N22__23, N22__24, N23__24, hP⟩ fun v x72 e s hf73 hI => ?_
  obtain ⟨v82_70, v20_71, rfl, X1, X20, X22, L22, X23, L23, X24, L24, E1, E4, E6, E7, E8, E80, E81, E82, N1__20, N22__23, N22__24, N23__24, hP⟩ := hI
  unfold check_Names_L3 at hf73
  try dsimp only at hf73
  refine w_sa (fun e s => Bx σ s i1 27 (check_Names_A0 a0) ∧ Bx σ s i20 106 [(.v (.int .i64 v20_71.at_)), (.v (.int .i64 v20_71.e))] ∧ Gx s i22 (AObj.map .s (mpF check_Names_V0 (Mp.get v22_4)) (Mp.n v22_4)) ∧ σ.length ≤ i22 ∧ Gx s i23 (AObj.map .s (mpF check_Names_V0 (Mp.get v23_50)) (Mp.n v23_50)) ∧ σ.length ≤ i23 ∧ Gx s i24 (AObj.map .s (mpF check_Names_V0 (Mp.get (Mp.emp : Mp Int))) (Mp.n (Mp.emp : Mp Int))) ∧ σ.length ≤ i24 ∧ e 1 = (.pt i1 0) ∧ e 4 = (.pt i20 0) ∧ e 6 = (.mp i22) ∧ e 7 = (.mp i23) ∧ e 8 = (.mp i24) ∧ e 80 = (.sl (List.map Flow.cl a0.flows)) ∧ e 81 = (.v (.int .i64 ((List.length a0.flows : Nat) : Int))) ∧ e 82 = (.v (.int .i64 v82_70)) ∧ e 83 = (.v (.bool (decide (v82_70 < ((List.length a0.flows : Nat) : Int))))) ∧ i1 ≠ i20 ∧ i22 ≠ i23 ∧ i22 ≠ i24 ∧ i23 ≠ i24 ∧ Pre σ s) ?_ fun e s hI => ?_
  ·refine w_x (cj14 E1 E4 E6 E7 E8 E80 E81 E82 X1.get X20.get X22.get X23.get X24.get TT) (k := ?_)
   have q157 := cj14 E1 E4 E6 E7 E8 E80 E81 E82 X1.get X20.get X22.get X23.get X24.get TT
   exact cw_n ⟨_, WkE.refl _, X1, X20, X22, L22, X23, L23, X24, L24, (xv q157), (xv q157), (xv q157), (xv q157), (xv q157), (xv q157), (xv q157), (xv q157), (xv q157), N1__20, N22__23, N22__24, N23__24, hP⟩
  obtain ⟨X1, X20, X22, L22, X23, L23, X24, L24, E1, E4, E6, E7, E8, E80, E81, E82, E83, N1__20, N22__23, N22__24, N23__24, hP⟩ := hI
  refine w_seq ?_
  rcases ite_some hf73 with ⟨hb74, hf73⟩ | ⟨hb74, hf73⟩
  ·refine xt (cj10 E1 E4 E6 E7 E8 E80 E81 E82 E83 hb74) ?_
   refine w_skip ?_
   refine w_sq ?_
   obtain ⟨x75, h76, hf73⟩ := bnd_some hf73
   refine w_sa (fun e s => ∃ v20_77 : check_finder, v20_77 = x75 ∧ Bx σ s i1 27 (check_Names_A0 a0) ∧ Bx σ s i20 106 [(.v (.int .i64 v20_77.at_)), (.v (.int .i64 v20_77.e))] ∧ Gx s i22 (AObj.map .s (mpF check_Names_V0 (Mp.get v22_4)) (Mp.n v22_4)) ∧ σ.length ≤ i22 ∧ Gx s i23 (AObj.map .s (mpF check_Names_V0 (Mp.get v23_50)) (Mp.n v23_50)) ∧ σ.length ≤ i23 ∧ Gx s i24 (AObj.map .s (mpF check_Names_V0 (Mp.get (Mp.emp : Mp Int))) (Mp.n (Mp.emp : Mp Int))) ∧ σ.length ≤ i24 ∧ e 1 = (.pt i1 0) ∧ e 4 = (.pt i20 0) ∧ e 6 = (.mp i22) ∧ e 7 = (.mp i23) ∧ e 8 = (.mp i24) ∧ e 80 = (.sl (List.map Flow.cl a0.flows)) ∧ e 81 = (.v (.int .i64 ((List.length a0.flows : Nat) : Int))) ∧ e 82 = (.v (.int .i64 v82_70)) ∧ i1 ≠ i20 ∧ i22 ≠ i23 ∧ i22 ≠ i24 ∧ i23 ≠ i24 ∧ Pre σ s) ?_ fun e s hI => ?_
   ·refine w_block ?_
    obtain ⟨y78, h79, h76⟩ := bnd_some h76
    refine w_sa (fun e s => ∃ i16 : Nat, Bx σ s i1 27 (check_Names_A0 a0) ∧ Bx σ s i16 41 [(.v (.string y78.name)), (.v (.int .i64 y78.e.kind)), (.v (.string y78.e.name)), (.v (.int .i64 y78.e.n)), (.v (.int .i64 y78.e.d)), (.sl (Expr.rows y78.e.args)), (.v (.int .i64 y78.e.at_)), (.v (.int .i64 y78.at_))] ∧ Bx σ s i20 106 [(.v (.int .i64 v20_71.at_)), (.v (.int .i64 v20_71.e))] ∧ Gx s i22 (AObj.map .s (mpF check_Names_V0 (Mp.get v22_4)) (Mp.n v22_4)) ∧ σ.length ≤ i22 ∧ Gx s i23 (AObj.map .s (mpF check_Names_V0 (Mp.get v23_50)) (Mp.n v23_50)) ∧ σ.length ≤ i23 ∧ Gx s i24 (AObj.map .s (mpF check_Names_V0 (Mp.get (Mp.emp : Mp Int))) (Mp.n (Mp.emp : Mp Int))) ∧ σ.length ≤ i24 ∧ e 1 = (.pt i1 0) ∧ e 4 = (.pt i20 0) ∧ e 6 = (.mp i22) ∧ e 7 = (.mp i23) ∧ e 8 = (.mp i24) ∧ e 16 = (.pt i16 0) ∧ e 80 = (.sl (List.map Flow.cl a0.flows)) ∧ e 81 = (.v (.int .i64 ((List.length a0.flows : Nat) : Int))) ∧ e 82 = (.v (.int .i64 v82_70)) ∧ i1 ≠ i20 ∧ i16 ≠ i20 ∧ i22 ≠ i23 ∧ i22 ≠ i24 ∧ i23 ≠ i24 ∧ Pre σ s) ?_ fun e s hI => ?_
    ·have R80 : (List.map Flow.cl a0.flows)[(v82_70).toNat]? = some [(.v (.string y78.name)), (.v (.int .i64 y78.e.kind)), (.v (.string y78.e.name)), (.v (.int .i64 y78.e.n)), (.v (.int .i64 y78.e.d)), (.sl (Expr.rows y78.e.args)), (.v (.int .i64 y78.e.at_)), (.v (.int .i64 y78.at_))] := map_get (getI_some h79).2
     refine w_x (cj8 E1 E4 E6 E7 E8 E80 E81 (cj20 E82 E83 X1.get X1.any X1.any2 X20.get X20.any X20.any2 X22.get X22.any X22.any2 X23.get X23.any X23.any2 X24.get X24.any X24.any2 R80 (getI_some h79).1 TT)) (k := ?_)
     have q158 := cj20 E82 E83 X1.get X1.any X1.any2 X20.get X20.any X20.any2 X22.get X22.any X22.any2 X23.get X23.any X23.any2 X24.get X24.any X24.any2 R80 (getI_some h79).1 TT
     have q159 := cj8 E1 E4 E6 E7 E8 E80 E81 q158
     exact cw_n ⟨_, WkE.refl _, s.length, (X1.app [some (AObj.box 41 [(.v (.string y78.name)), (.v (.int .i64 y78.e.kind)), (.v (.string y78.e.name)), (.v (.int .i64 y78.e.n)), (.v (.int .i64 y78.e.d)), (.sl (Expr.rows y78.e.args)), (.v (.int .i64 y78.e.at_)), (.v (.int .i64 y78.at_))])]), (Bx.new hP 41 [(.v (.string y78.name)), (.v (.int .i64 y78.e.kind)), (.v (.string y78.e.name)), (.v (.int .i64 y78.e.n)), (.v (.int .i64 y78.e.d)), (.sl (Expr.rows y78.e.args)), (.v (.int .i64 y78.e.at_)), (.v (.int .i64 y78.at_))]), (X20.app [some (AObj.box 41 [(.v (.string y78.name)), (.v (.int .i64 y78.e.kind)), (.v (.string y78.e.name)), (.v (.int .i64 y78.e.n)), (.v (.int .i64 y78.e.d)), (.sl (Expr.rows y78.e.args)), (.v (.int .i64 y78.e.at_)), (.v (.int .i64 y78.at_))])]), (X22.app [some (AObj.box 41 [(.v (.string y78.name)), (.v (.int .i64 y78.e.kind)), (.v (.string y78.e.name)), (.v (.int .i64 y78.e.n)), (.v (.int .i64 y78.e.d)), (.sl (Expr.rows y78.e.args)), (.v (.int .i64 y78.e.at_)), (.v (.int .i64 y78.at_))])]), L22, (X23.app [some (AObj.box 41 [(.v (.string y78.name)), (.v (.int .i64 y78.e.kind)), (.v (.string y78.e.name)), (.v (.int .i64 y78.e.n)), (.v (.int .i64 y78.e.d)), (.sl (Expr.rows y78.e.args)), (.v (.int .i64 y78.e.at_)), (.v (.int .i64 y78.at_))])]), L23, (X24.app [some (AObj.box 41 [(.v (.string y78.name)), (.v (.int .i64 y78.e.kind)), (.v (.string y78.e.name)), (.v (.int .i64 y78.e.n)), (.v (.int .i64 y78.e.d)), (.sl (Expr.rows y78.e.args)), (.v (.int .i64 y78.e.at_)), (.v (.int .i64 y78.at_))])]), L24, (xv q159), (xv q159), (xv q159), (xv q159), (xv q159), (xv q159), (xv q159), (xv q159), (xv q159), N1__20, (Ne.symm (Nat.ne_of_lt X20.lt)), N22__23, N22__24, N23__24, (hP.app _)⟩
    obtain ⟨i16, X1, X16, X20, X22, L22, X23, L23, X24, L24, E1, E4, E6, E7, E8, E16, E80, E81, E82, N1__20, N16__20, N22__23, N22__24, N23__24, hP⟩ := hI
    obtain ⟨y81, h82, h76⟩ := bnd_some h76
    refine w_x (cj3 E1 E4 (cj20 E6 E7 E8 E16 E80 E81 E82 X1.get X16.get X20.get X22.get X23.get X24.get (X1.ne (Ne.symm N1__20) (some (AObj.box 106 [(.v (.int .i64 y81.2.at_)), (.v (.int .i64 y81.2.e))]))).get (X16.ne (Ne.symm N16__20) (some (AObj.box 106 [(.v (.int .i64 y81.2.at_)), (.v (.int .i64 y81.2.e))]))).get (X20.same 106 [(.v (.int .i64 y81.2.at_)), (.v (.int .i64 y81.2.e))]).get (X22.ne (Gx.apart X20.gx X22 (by intro h; cases h)) (some (AObj.box 106 [(.v (.int .i64 y81.2.at_)), (.v (.int .i64 y81.2.e))]))).get (X23.ne (Gx.apart X20.gx X23 (by intro h; cases h)) (some (AObj.box 106 [(.v (.int .i64 y81.2.at_)), (.v (.int .i64 y81.2.e))]))).get (X24.ne (Gx.apart X20.gx X24 (by intro h; cases h)) (some (AObj.box 106 [(.v (.int .i64 y81.2.at_)), (.v (.int .i64 y81.2.e))]))).get TT)) (k := ?_)
    refine EC.wka (.cons (.refl _) (.cons (.refl _) (.cons (.refl _) (.cons (.refl _) .nil)))) (S_check_finder_expr _ _ _ _ _ h82 _ _ _ _ _ X20.gx X23 X22 ?_)
    refine w_y (cj3 E1 E4 (cj20 E6 E7 E8 E16 E80 E81 E82 X1.get X16.get X20.get X22.get X23.get X24.get (X1.ne (Ne.symm N1__20) (some (AObj.box 106 [(.v (.int .i64 y81.2.at_)), (.v (.int .i64 y81.2.e))]))).get (X16.ne (Ne.symm N16__20) (some (AObj.box 106 [(.v (.int .i64 y81.2.at_)), (.v (.int .i64 y81.2.e))]))).get (X20.same 106 [(.v (.int .i64 y81.2.at_)), (.v (.int .i64 y81.2.e))]).get (X22.ne (Gx.apart X20.gx X22 (by intro h; cases h)) (some (AObj.box 106 [(.v (.int .i64 y81.2.at_)), (.v (.int .i64 y81.2.e))]))).get (X23.ne (Gx.apart X20.gx X23 (by intro h; cases h)) (some (AObj.box 106 [(.v (.int .i64 y81.2.at_)), (.v (.int .i64 y81.2.e))]))).get (X24.ne (Gx.apart X20.gx X24 (by intro h; cases h)) (some (AObj.box 106 [(.v (.int .i64 y81.2.at_)), (.v (.int .i64 y81.2.e))]))).get TT)) (k := ?_)
    refine w_bk ?_
    obtain rfl := some_inj h76
    have q160 := Gx.apart X20.gx X22 (by intro h; cases h)
    have q161 := Gx.apart X20.gx X23 (by intro h; cases h)
    have q162 := Gx.apart X20.gx X24 (by intro h; cases h)
    have q163 := X20.same 106 [(.v (.int .i64 y81.2.at_)), (.v (.int .i64 y81.2.e))]
    have q164 := X22.ne q160 (some (AObj.box 106 [(.v (.int .i64 y81.2.at_)), (.v (.int .i64 y81.2.e))]))
    have q165 := X23.ne q161 (some (AObj.box 106 [(.v (.int .i64 y81.2.at_)), (.v (.int .i64 y81.2.e))]))
    have q166 := X24.ne q162 (some (AObj.box 106 [(.v (.int .i64 y81.2.at_)), (.v (.int .i64 y81.2.e))]))
    have q167 := X1.ne (Ne.symm N1__20) (some (AObj.box 106 [(.v (.int .i64 y81.2.at_)), (.v (.int .i64 y81.2.e))]))
    have q168 := X16.ne (Ne.symm N16__20) (some (AObj.box 106 [(.v (.int .i64 y81.2.at_)), (.v (.int .i64 y81.2.e))]))
    have q169 := cj20 E6 E7 E8 E16 E80 E81 E82 X1.get X16.get X20.get X22.get X23.get X24.get q167.get q168.get q163.get q164.get q165.get q166.get TT
    have q170 := cj3 E1 E4 q169
    exact cw_n ⟨_, WkE.refl _, _, rfl, q167, q163, q164, L22, q165, L23, q166, L24, (xv q170), (xv q170), (xv q170), (xv q170), (xv q170), (xv q170), (xv q170), (xv q170), N1__20, N22__23, N22__24, N23__24, (hP.set X20.le (some (AObj.box 106 [(.v (.int .i64 y81.2.at_)), (.v (.int .i64 y81.2.e))])))⟩
   obtain ⟨v20_77, rfl, X1, X20, X22, L22, X23, L23, X24, L24, E1, E4, E6, E7, E8, E80, E81, E82, N1__20, N22__23, N22__24, N23__24, hP⟩ := hI
   try dsimp only at hf73
   refine w_x (cj14 E1 E4 E6 E7 E8 E80 E81 E82 X1.get X20.get X22.get X23.get X24.get TT) (k := ?_)
   obtain rfl := some_inj hf73
   have q171 := cj14 E1 E4 E6 E7 E8 E80 E81 E82 X1.get X20.get X22.get X23.get X24.get TT
   exact iq_n rfl ⟨_, WkE.refl _, _, _, rfl, X1, X20, X22, L22, X23, L23, X24, L24, (xv q171), (xv q171), (xv q171), (xv q171), (xv q171), (xv q171), (xv q171), (xv q171), N1__20, N22__23, N22__24, N23__24, hP⟩
  ·refine xf (cj10 E1 E4 E6 E7 E8 E80 E81 E82 E83 hb74) ?_
   refine w_exit ?_
   refine w_sqx ?_
   obtain rfl := some_inj hf73
   refine iq_x rfl fun hr83 => ?_
   obtain rfl := hr83
   refine w_bkx ?_
   have q172 := cj9 E1 E4 E6 E7 E8 E80 E81 E82 E83
   exact cw_n ⟨_, WkE.refl _, _, rfl, X1, X20, X24, L24, (xv q172), (xv q172), (xv q172), N1__20, hP⟩
 obtain ⟨v20_69, rfl, X1, X20, X24, L24, E1, E4, E8, N1__20, hP⟩ := hI
 try dsimp only at h
 refine w_assoc ?_
 refine w_sa (fun e s => Bx σ s i1 27 (check_Names_A0 a0) ∧ Bx σ s i20 106 [(.v (.int .i64 v20_69.at_)), (.v (.int .i64 v20_69.e))] ∧ Gx s i24 (AObj.map .s (mpF check_Names_V0 (Mp.get (Mp.emp : Mp Int))) (Mp.n (Mp.emp : Mp Int))) ∧ σ.length ≤ i24 ∧ e 1 = (.pt i1 0) ∧ e 4 = (.pt i20 0) ∧ e 8 = (.mp i24) ∧ e 94 = (.sl (List.map Output.cl a0.outputs)) ∧ e 95 = (.v (.int .i64 ((List.length a0.outputs : Nat) : Int))) ∧ e 96 = (.v (.int .i64 (0 : Int))) ∧ i1 ≠ i20 ∧ Pre σ s) ?_ fun e s hI => ?_
 ·refine w_x (cj7 E1 E4 E8 X1.get X20.get X24.get TT) (k := ?_)
  have q173 := cj7 E1 E4 E8 X1.get X20.get X24.get TT
  exact cw_n ⟨_, WkE.refl _, X1, X20, X24, L24, (xv q173), (xv q173), (xv q173), (xv q173), (xv q173), (xv q173), N1__20, hP⟩
 obtain ⟨X1, X20, X24, L24, E1, E4, E8, E94, E95, E96, N1__20, hP⟩ := hI
 obtain ⟨x84, h85, h⟩ := bnd_some h
 refine w_sa (fun e s => ∃ v20_86 : check_finder, v20_86 = x84 ∧ Bx σ s i20 106 [(.v (.int .i64 v20_86.at_)), (.v (.int .i64 v20_86.e))] ∧ e 4 = (.pt i20 0) ∧ Pre σ s) ?_ fun e s hI => ?_
 ·refine w_block ?_
  have q174 := cj6 E1 E4 E8 E94 E95 E96
  refine w_iter h85 (fun v e s => ∃ v96_87 : Int, ∃ v20_88 : check_finder, ∃ v24_89 : (Mp Int), (v96_87, v20_88, v24_89) = v ∧ Bx σ s i1 27 (check_Names_A0 a0) ∧ Bx σ s i20 106 [(.v (.int .i64 v20_88.at_)), (.v (.int .i64 v20_88.e))] ∧ Gx s i24 (AObj.map .s (mpF check_Names_V0 (Mp.get v24_89)) (Mp.n v24_89)) ∧ σ.length ≤ i24 ∧ e 1 = (.pt i1 0) ∧ e 4 = (.pt i20 0) ∧ e 8 = (.mp i24) ∧ e 94 = (.sl (List.map Output.cl a0.outputs)) ∧ e 95 = (.v (.int .i64 ((List.length a0.outputs : Nat) : Int))) ∧ e 96 = (.v (.int .i64 v96_87)) ∧ i1 ≠ i20 ∧ Pre σ s) ⟨_, WkE.refl _, _, _, _, rfl, X1, X20, X24, L24, (xv q174), (xv q174), (xv q174), (xv q174), (xv q174), (xv q174), N1__20, hP⟩ fun v x90 e s hf91 hI => ?_
  obtain ⟨v96_87, v20_88, v24_89, rfl, X1, X20, X24, L24, E1, E4, E8, E94, E95, E96, N1__20, hP⟩ := hI
  unfold check_Names_L4 at hf91
  try dsimp only at hf91
  refine w_sa (fun e s => Bx σ s i1 27 (check_Names_A0 a0) ∧ Bx σ s i20 106 [(.v (.int .i64 v20_88.at_)), (.v (.int .i64 v20_88.e))] ∧ Gx s i24 (AObj.map .s (mpF check_Names_V0 (Mp.get v24_89)) (Mp.n v24_89)) ∧ σ.length ≤ i24 ∧ e 1 = (.pt i1 0) ∧ e 4 = (.pt i20 0) ∧ e 8 = (.mp i24) ∧ e 94 = (.sl (List.map Output.cl a0.outputs)) ∧ e 95 = (.v (.int .i64 ((List.length a0.outputs : Nat) : Int))) ∧ e 96 = (.v (.int .i64 v96_87)) ∧ e 97 = (.v (.bool (decide (v96_87 < ((List.length a0.outputs : Nat) : Int))))) ∧ i1 ≠ i20 ∧ Pre σ s) ?_ fun e s hI => ?_
  ·refine w_x (cj10 E1 E4 E8 E94 E95 E96 X1.get X20.get X24.get TT) (k := ?_)
   have q175 := cj10 E1 E4 E8 E94 E95 E96 X1.get X20.get X24.get TT
   exact cw_n ⟨_, WkE.refl _, X1, X20, X24, L24, (xv q175), (xv q175), (xv q175), (xv q175), (xv q175), (xv q175), (xv q175), N1__20, hP⟩
  obtain ⟨X1, X20, X24, L24, E1, E4, E8, E94, E95, E96, E97, N1__20, hP⟩ := hI
  refine w_seq ?_
  rcases ite_some hf91 with ⟨hb92, hf91⟩ | ⟨hb92, hf91⟩
  ·refine xt (cj8 E1 E4 E8 E94 E95 E96 E97 hb92) ?_
   refine w_skip ?_
   refine w_sq ?_
   obtain ⟨x93, h94, hf91⟩ := bnd_some hf91
   refine w_sa (fun e s => ∃ v20_95 : check_finder, ∃ v24_96 : (Mp Int), (v20_95, v24_96) = x93 ∧ Bx σ s i1 27 (check_Names_A0 a0) ∧ Bx σ s i20 106 [(.v (.int .i64 v20_95.at_)), (.v (.int .i64 v20_95.e))] ∧ Gx s i24 (AObj.map .s (mpF check_Names_V0 (Mp.get v24_96)) (Mp.n v24_96)) ∧ σ.length ≤ i24 ∧ e 1 = (.pt i1 0) ∧ e 4 = (.pt i20 0) ∧ e 8 = (.mp i24) ∧ e 94 = (.sl (List.map Output.cl a0.outputs)) ∧ e 95 = (.v (.int .i64 ((List.length a0.outputs : Nat) : Int))) ∧ e 96 = (.v (.int .i64 v96_87)) ∧ i1 ≠ i20 ∧ Pre σ s) ?_ fun e s hI => ?_
   ·refine w_block ?_
    obtain ⟨y97, h98, h94⟩ := bnd_some h94
    refine w_sa (fun e s => ∃ i18 : Nat, Bx σ s i1 27 (check_Names_A0 a0) ∧ Bx σ s i18 65 [(.v (.string y97.name)), (.v (.string y97.flow)), (.v (.int .i64 y97.deadline)), (.v (.int .i64 y97.at_))] ∧ Bx σ s i20 106 [(.v (.int .i64 v20_88.at_)), (.v (.int .i64 v20_88.e))] ∧ Gx s i24 (AObj.map .s (mpF check_Names_V0 (Mp.get v24_89)) (Mp.n v24_89)) ∧ σ.length ≤ i24 ∧ e 1 = (.pt i1 0) ∧ e 4 = (.pt i20 0) ∧ e 8 = (.mp i24) ∧ e 18 = (.pt i18 0) ∧ e 94 = (.sl (List.map Output.cl a0.outputs)) ∧ e 95 = (.v (.int .i64 ((List.length a0.outputs : Nat) : Int))) ∧ e 96 = (.v (.int .i64 v96_87)) ∧ i1 ≠ i20 ∧ i18 ≠ i20 ∧ Pre σ s) ?_ fun e s hI => ?_
    ·have R99 : (List.map Output.cl a0.outputs)[(v96_87).toNat]? = some [(.v (.string y97.name)), (.v (.string y97.flow)), (.v (.int .i64 y97.deadline)), (.v (.int .i64 y97.at_))] := map_get (getI_some h98).2
     refine w_x (cj19 E1 E4 E8 E94 E95 E96 E97 X1.get X1.any X1.any2 X20.get X20.any X20.any2 X24.get X24.any X24.any2 R99 (getI_some h98).1 TT) (k := ?_)
     have q176 := cj19 E1 E4 E8 E94 E95 E96 E97 X1.get X1.any X1.any2 X20.get X20.any X20.any2 X24.get X24.any X24.any2 R99 (getI_some h98).1 TT
     exact cw_n ⟨_, WkE.refl _, s.length, (X1.app [some (AObj.box 65 [(.v (.string y97.name)), (.v (.string y97.flow)), (.v (.int .i64 y97.deadline)), (.v (.int .i64 y97.at_))])]), (Bx.new hP 65 [(.v (.string y97.name)), (.v (.string y97.flow)), (.v (.int .i64 y97.deadline)), (.v (.int .i64 y97.at_))]), (X20.app [some (AObj.box 65 [(.v (.string y97.name)), (.v (.string y97.flow)), (.v (.int .i64 y97.deadline)), (.v (.int .i64 y97.at_))])]), (X24.app [some (AObj.box 65 [(.v (.string y97.name)), (.v (.string y97.flow)), (.v (.int .i64 y97.deadline)), (.v (.int .i64 y97.at_))])]), L24, (xv q176), (xv q176), (xv q176), (xv q176), (xv q176), (xv q176), (xv q176), N1__20, (Ne.symm (Nat.ne_of_lt X20.lt)), (hP.app _)⟩
    obtain ⟨i18, X1, X18, X20, X24, L24, E1, E4, E8, E18, E94, E95, E96, N1__20, N18__20, hP⟩ := hI
    obtain ⟨y100, h101, h94⟩ := bnd_some h94
    refine w_sa (fun e s => Bx σ s i1 27 (check_Names_A0 a0) ∧ Bx σ s i18 65 [(.v (.string y97.name)), (.v (.string y97.flow)), (.v (.int .i64 y97.deadline)), (.v (.int .i64 y97.at_))] ∧ Bx σ s i20 106 [(.v (.int .i64 y100.2.1.at_)), (.v (.int .i64 y100.2.1.e))] ∧ Gx s i24 (AObj.map .s (mpF check_Names_V0 (Mp.get y100.2.2)) (Mp.n y100.2.2)) ∧ σ.length ≤ i24 ∧ e 1 = (.pt i1 0) ∧ e 4 = (.pt i20 0) ∧ e 8 = (.mp i24) ∧ e 18 = (.pt i18 0) ∧ e 94 = (.sl (List.map Output.cl a0.outputs)) ∧ e 95 = (.v (.int .i64 ((List.length a0.outputs : Nat) : Int))) ∧ e 96 = (.v (.int .i64 v96_87)) ∧ i1 ≠ i20 ∧ i18 ≠ i20 ∧ Pre σ s) ?_ fun e s hI => ?_
    ·have q177 := Gx.apart X20.gx X24 (by intro h; cases h)
     have q178 := X20.same 106 [(.v (.int .i64 y100.2.1.at_)), (.v (.int .i64 y100.2.1.e))]
     have q179 := X24.ne q177 (some (AObj.box 106 [(.v (.int .i64 y100.2.1.at_)), (.v (.int .i64 y100.2.1.e))]))
     have q180 := X1.ne (Ne.symm N1__20) (some (AObj.box 106 [(.v (.int .i64 y100.2.1.at_)), (.v (.int .i64 y100.2.1.e))]))
     have q181 := X18.ne (Ne.symm N18__20) (some (AObj.box 106 [(.v (.int .i64 y100.2.1.at_)), (.v (.int .i64 y100.2.1.e))]))
     refine w_x (cj20 E1 E4 E8 E18 E94 E95 E96 X1.get X18.get X20.get X24.get q180.get q181.get q178.get q179.get (q180.ne (Gx.apart q179 q180.gx (by intro h; cases h)) (some (AObj.map .s (mpF check_Names_V0 (Mp.get y100.2.2)) (Mp.n y100.2.2)))).get (q181.ne (Gx.apart q179 q181.gx (by intro h; cases h)) (some (AObj.map .s (mpF check_Names_V0 (Mp.get y100.2.2)) (Mp.n y100.2.2)))).get (q178.ne (Gx.apart q179 q178.gx (by intro h; cases h)) (some (AObj.map .s (mpF check_Names_V0 (Mp.get y100.2.2)) (Mp.n y100.2.2)))).get (Gx.same q179 (AObj.map .s (mpF check_Names_V0 (Mp.get y100.2.2)) (Mp.n y100.2.2))).get TT) (k := ?_)
     refine EC.wka (.cons (.refl _) (.cons (.refl _) (.cons (.refl _) (.cons (.refl _) .nil)))) (S_check_finder_fresh _ _ _ _ _ h101 _ _ _ _ X20.gx X24 ?_)
     have q182 := Gx.apart X20.gx X24 (by intro h; cases h)
     have q183 := X20.same 106 [(.v (.int .i64 y100.2.1.at_)), (.v (.int .i64 y100.2.1.e))]
     have q184 := X24.ne q182 (some (AObj.box 106 [(.v (.int .i64 y100.2.1.at_)), (.v (.int .i64 y100.2.1.e))]))
     have q185 := X1.ne (Ne.symm N1__20) (some (AObj.box 106 [(.v (.int .i64 y100.2.1.at_)), (.v (.int .i64 y100.2.1.e))]))
     have q186 := X18.ne (Ne.symm N18__20) (some (AObj.box 106 [(.v (.int .i64 y100.2.1.at_)), (.v (.int .i64 y100.2.1.e))]))
     refine w_y (cj20 E1 E4 E8 E18 E94 E95 E96 X1.get X18.get X20.get X24.get q185.get q186.get q183.get q184.get (q185.ne (Gx.apart q184 q185.gx (by intro h; cases h)) (some (AObj.map .s (mpF check_Names_V0 (Mp.get y100.2.2)) (Mp.n y100.2.2)))).get (q186.ne (Gx.apart q184 q186.gx (by intro h; cases h)) (some (AObj.map .s (mpF check_Names_V0 (Mp.get y100.2.2)) (Mp.n y100.2.2)))).get (q183.ne (Gx.apart q184 q183.gx (by intro h; cases h)) (some (AObj.map .s (mpF check_Names_V0 (Mp.get y100.2.2)) (Mp.n y100.2.2)))).get (Gx.same q184 (AObj.map .s (mpF check_Names_V0 (Mp.get y100.2.2)) (Mp.n y100.2.2))).get TT) (k := ?_)
     have q187 := Gx.apart X20.gx X24 (by intro h; cases h)
     have q188 := X20.same 106 [(.v (.int .i64 y100.2.1.at_)), (.v (.int .i64 y100.2.1.e))]
     have q189 := X24.ne q187 (some (AObj.box 106 [(.v (.int .i64 y100.2.1.at_)), (.v (.int .i64 y100.2.1.e))]))
     have q190 := Gx.apart q189 q188.gx (by intro h; cases h)
     have q191 := Gx.same q189 (AObj.map .s (mpF check_Names_V0 (Mp.get y100.2.2)) (Mp.n y100.2.2))
     have q192 := X1.ne (Ne.symm N1__20) (some (AObj.box 106 [(.v (.int .i64 y100.2.1.at_)), (.v (.int .i64 y100.2.1.e))]))
     have q193 := Gx.apart q189 q192.gx (by intro h; cases h)
     have q194 := X18.ne (Ne.symm N18__20) (some (AObj.box 106 [(.v (.int .i64 y100.2.1.at_)), (.v (.int .i64 y100.2.1.e))]))
     have q195 := Gx.apart q189 q194.gx (by intro h; cases h)
     have q196 := cj20 E1 E4 E8 E18 E94 E95 E96 X1.get X18.get X20.get X24.get q192.get q194.get q188.get q189.get (q192.ne q193 (some (AObj.map .s (mpF check_Names_V0 (Mp.get y100.2.2)) (Mp.n y100.2.2)))).get (q194.ne q195 (some (AObj.map .s (mpF check_Names_V0 (Mp.get y100.2.2)) (Mp.n y100.2.2)))).get (q188.ne q190 (some (AObj.map .s (mpF check_Names_V0 (Mp.get y100.2.2)) (Mp.n y100.2.2)))).get q191.get TT
     exact cw_n ⟨_, WkE.refl _, (q192.ne q193 (some (AObj.map .s (mpF check_Names_V0 (Mp.get y100.2.2)) (Mp.n y100.2.2)))), (q194.ne q195 (some (AObj.map .s (mpF check_Names_V0 (Mp.get y100.2.2)) (Mp.n y100.2.2)))), (q188.ne q190 (some (AObj.map .s (mpF check_Names_V0 (Mp.get y100.2.2)) (Mp.n y100.2.2)))), q191, L24, (xv q196), (xv q196), (xv q196), (xv q196), (xv q196), (xv q196), (xv q196), N1__20, N18__20, ((hP.set X20.le (some (AObj.box 106 [(.v (.int .i64 y100.2.1.at_)), (.v (.int .i64 y100.2.1.e))]))).set L24 (some (AObj.map .s (mpF check_Names_V0 (Mp.get y100.2.2)) (Mp.n y100.2.2))))⟩
    obtain ⟨X1, X18, X20, X24, L24, E1, E4, E8, E18, E94, E95, E96, N1__20, N18__20, hP⟩ := hI
    obtain ⟨y102, h103, h94⟩ := bnd_some h94
    refine w_sa (fun e s => Bx σ s i1 27 (check_Names_A0 a0) ∧ Bx σ s i18 65 [(.v (.string y97.name)), (.v (.string y97.flow)), (.v (.int .i64 y97.deadline)), (.v (.int .i64 y97.at_))] ∧ Bx σ s i20 106 [(.v (.int .i64 y100.2.1.at_)), (.v (.int .i64 y100.2.1.e))] ∧ Gx s i24 (AObj.map .s (mpF check_Names_V0 (Mp.get y100.2.2)) (Mp.n y100.2.2)) ∧ σ.length ≤ i24 ∧ e 1 = (.pt i1 0) ∧ e 4 = (.pt i20 0) ∧ e 8 = (.mp i24) ∧ e 18 = (.pt i18 0) ∧ e 94 = (.sl (List.map Output.cl a0.outputs)) ∧ e 95 = (.v (.int .i64 ((List.length a0.outputs : Nat) : Int))) ∧ e 96 = (.v (.int .i64 v96_87)) ∧ e 111 = (.v (.bool (!y102))) ∧ i1 ≠ i20 ∧ i18 ≠ i20 ∧ Pre σ s) ?_ fun e s hI => ?_
    ·refine w_x (cj12 E1 E4 E8 E18 E94 E95 E96 X1.get X18.get X20.get X24.get TT) (k := ?_)
     refine EC.wka (.cons (.refl _) (.cons (.refl _) .nil)) (S_slices_ContainsFunc_Flow _ _ _ h103 _ _ _ _ (fun z0 b hg s' K hq hk => by obtain ⟨ex, rfl⟩ := hq; exact S_check_Names_c1 z0 _ b hg _ _ _  (X18.gx.app ex) hk) ?_)
     refine w_y (cj12 E1 E4 E8 E18 E94 E95 E96 X1.get X18.get X20.get X24.get TT) (k := ?_)
     have q197 := cj12 E1 E4 E8 E18 E94 E95 E96 X1.get X18.get X20.get X24.get TT
     exact cw_n ⟨_, WkE.refl _, X1, X18, X20, X24, L24, (xv q197), (xv q197), (xv q197), (xv q197), (xv q197), (xv q197), (xv q197), (xv q197), N1__20, N18__20, hP⟩
    obtain ⟨X1, X18, X20, X24, L24, E1, E4, E8, E18, E94, E95, E96, E111, N1__20, N18__20, hP⟩ := hI
    obtain ⟨x104, h105, h94⟩ := bnd_some h94
    refine w_an (fun e s => ∃ v20_106 : check_finder, v20_106 = x104 ∧ Bx σ s i1 27 (check_Names_A0 a0) ∧ Bx σ s i20 106 [(.v (.int .i64 v20_106.at_)), (.v (.int .i64 v20_106.e))] ∧ Gx s i24 (AObj.map .s (mpF check_Names_V0 (Mp.get y100.2.2)) (Mp.n y100.2.2)) ∧ σ.length ≤ i24 ∧ e 1 = (.pt i1 0) ∧ e 4 = (.pt i20 0) ∧ e 8 = (.mp i24) ∧ e 94 = (.sl (List.map Output.cl a0.outputs)) ∧ e 95 = (.v (.int .i64 ((List.length a0.outputs : Nat) : Int))) ∧ e 96 = (.v (.int .i64 v96_87)) ∧ i1 ≠ i20 ∧ Pre σ s) ?_ fun e s hI => ?_
    ·rcases ite_some h105 with ⟨hb107, h105⟩ | ⟨hb107, h105⟩
     ·refine xt (cj9 E1 E4 E8 E18 E94 E95 E96 E111 hb107) ?_
      obtain ⟨y108, h109, h105⟩ := bnd_some h105
      refine w_x (cj17 E1 E4 E8 E18 E94 E95 E96 E111 X1.get X18.get X20.get X24.get (X1.ne (Ne.symm N1__20) (some (AObj.box 106 [(.v (.int .i64 y108.2.at_)), (.v (.int .i64 y108.2.e))]))).get (X18.ne (Ne.symm N18__20) (some (AObj.box 106 [(.v (.int .i64 y108.2.at_)), (.v (.int .i64 y108.2.e))]))).get (X20.same 106 [(.v (.int .i64 y108.2.at_)), (.v (.int .i64 y108.2.e))]).get (X24.ne (Gx.apart X20.gx X24 (by intro h; cases h)) (some (AObj.box 106 [(.v (.int .i64 y108.2.at_)), (.v (.int .i64 y108.2.e))]))).get TT) (k := ?_)
      refine EC.wka (.cons (.refl _) (.cons (.refl _) (.cons (.refl _) .nil))) (S_check_finder_fail _ _ _ _ h109 _ _ _ X20.gx ?_)
      refine w_y (cj17 E1 E4 E8 E18 E94 E95 E96 E111 X1.get X18.get X20.get X24.get (X1.ne (Ne.symm N1__20) (some (AObj.box 106 [(.v (.int .i64 y108.2.at_)), (.v (.int .i64 y108.2.e))]))).get (X18.ne (Ne.symm N18__20) (some (AObj.box 106 [(.v (.int .i64 y108.2.at_)), (.v (.int .i64 y108.2.e))]))).get (X20.same 106 [(.v (.int .i64 y108.2.at_)), (.v (.int .i64 y108.2.e))]).get (X24.ne (Gx.apart X20.gx X24 (by intro h; cases h)) (some (AObj.box 106 [(.v (.int .i64 y108.2.at_)), (.v (.int .i64 y108.2.e))]))).get TT) (k := ?_)
      obtain rfl := some_inj h105
      have q198 := Gx.apart X20.gx X24 (by intro h; cases h)
      have q199 := X20.same 106 [(.v (.int .i64 y108.2.at_)), (.v (.int .i64 y108.2.e))]
      have q200 := X24.ne q198 (some (AObj.box 106 [(.v (.int .i64 y108.2.at_)), (.v (.int .i64 y108.2.e))]))
      have q201 := X1.ne (Ne.symm N1__20) (some (AObj.box 106 [(.v (.int .i64 y108.2.at_)), (.v (.int .i64 y108.2.e))]))
      have q202 := X18.ne (Ne.symm N18__20) (some (AObj.box 106 [(.v (.int .i64 y108.2.at_)), (.v (.int .i64 y108.2.e))]))
      have q203 := cj17 E1 E4 E8 E18 E94 E95 E96 E111 X1.get X18.get X20.get X24.get q201.get q202.get q199.get q200.get TT
      exact ct_n ⟨_, rfl, q201, q199, q200, L24, (xv q203), (xv q203), (xv q203), (xv q203), (xv q203), (xv q203), N1__20, (hP.set X20.le (some (AObj.box 106 [(.v (.int .i64 y108.2.at_)), (.v (.int .i64 y108.2.e))])))⟩
     ·refine xf (cj9 E1 E4 E8 E18 E94 E95 E96 E111 hb107) ?_
      refine w_skip ?_
      obtain rfl := some_inj h105
      have q204 := cj8 E1 E4 E8 E18 E94 E95 E96 E111
      exact ct_n ⟨_, rfl, X1, X20, X24, L24, (xv q204), (xv q204), (xv q204), (xv q204), (xv q204), (xv q204), N1__20, hP⟩
    obtain ⟨v20_106, rfl, X1, X20, X24, L24, E1, E4, E8, E94, E95, E96, N1__20, hP⟩ := hI
    try dsimp only at h94
    refine w_bk ?_
    obtain rfl := some_inj h94
    have q205 := cj6 E1 E4 E8 E94 E95 E96
    exact cw_n ⟨_, WkE.refl _, _, _, rfl, X1, X20, X24, L24, (xv q205), (xv q205), (xv q205), (xv q205), (xv q205), (xv q205), N1__20, hP⟩
   obtain ⟨v20_95, v24_96, rfl, X1, X20, X24, L24, E1, E4, E8, E94, E95, E96, N1__20, hP⟩ := hI
   try dsimp only at hf91
   refine w_x (cj10 E1 E4 E8 E94 E95 E96 X1.get X20.get X24.get TT) (k := ?_)
   obtain rfl := some_inj hf91
   have q206 := cj10 E1 E4 E8 E94 E95 E96 X1.get X20.get X24.get TT
   exact iq_n rfl ⟨_, WkE.refl _, _, _, _, rfl, X1, X20, X24, L24, (xv q206), (xv q206), (xv q206), (xv q206), (xv q206), (xv q206), N1__20, hP⟩
  ·refine xf (cj8 E1 E4 E8 E94 E95 E96 E97 hb92) ?_
   refine w_exit ?_
   refine w_sqx ?_
   obtain rfl := some_inj hf91
   refine iq_x rfl fun hr110 => ?_
   obtain rfl := hr110
   refine w_bkx ?_
   exact cw_n ⟨_, WkE.refl _, _, rfl, X20, (xv (cj7 E1 E4 E8 E94 E95 E96 E97)), hP⟩
 obtain ⟨v20_86, rfl, X20, E4, hP⟩ := hI
 try dsimp only at h
 refine w_sa (fun e s => e 2 = (.v (.int .i64 v20_86.at_)) ∧ e 3 = (.v (.int .i64 v20_86.e)) ∧ Pre σ s) ?_ fun e s hI => ?_
 ·refine w_xp (cj3 E4 X20.get TT) (k := ?_)
  exact cw_n ⟨_, WkE.refl _, (xv (cj3 E4 X20.get TT)), (xv (cj3 E4 X20.get TT)), hP⟩
 obtain ⟨E2, E3, hP⟩ := hI
 refine w_ret ?_
 obtain rfl := some_inj h
 exact w_fin (fun _ => rfl) (xr (rs := #[.tmp 2, .tmp 3]) (cj2 E2 E3)) hP (r' := (.tu [(.v (.int .i64 v20_86.at_)), (.v (.int .i64 v20_86.e))])) (.refl _) (.tu (CnL.cons (.v _) (CnL.cons (.v _) CnL.nil))) hK
end Go.Proofs.Ytohmmfimedgccaa.E
end
section
namespace Go.Proofs.Ytohmmfimedgccaa.E
set_option linter.unusedVariables false
set_option linter.unusedSimpArgs false
set_option maxRecDepth 10000
abbrev Fi := check_finder
def f00 : Fi := ⟨0, 0⟩
def Fi.good (f : Fi) : Prop := f = f00 ∨ f.e = 3 ∨ f.e = 4
theorem Fi.good.zero {f : Fi} (h : f.good) (h0 : f.e = 0) : f = f00 := by
  rcases h with h | h | h
  · exact h
  · omega
  · omega
def Fd (f f' : Fi) (P : Prop) : Prop := f.good → f'.good ∧ (f' = f00 ↔ f = f00 ∧ P)
theorem Fd.refl (f : Fi) : Fd f f True := fun h => ⟨h, by simp⟩
theorem Fd.trans {f g h : Fi} {P Q : Prop} (a : Fd f g P) (b : Fd g h Q) : Fd f h (P ∧ Q) := fun hf => by
  obtain ⟨h1, h2⟩ := a hf
  obtain ⟨h3, h4⟩ := b h1
  exact ⟨h3, by rw [h4, h2, and_assoc]⟩
theorem Fd.iff {f g : Fi} {P Q : Prop} (a : Fd f g P) (h : P ↔ Q) : Fd f g Q := fun hf => ⟨(a hf).1, by rw [(a hf).2, h]⟩
def failS (f : Fi) (at_ e : Int) : Fi := if f.e = 0 then ⟨at_, e⟩ else f
theorem Fd.fail {f : Fi} {at_ e : Int} (he : e = 3 ∨ e = 4) : Fd f (failS f at_ e) False := fun hf => by
  unfold failS
  by_cases h0 : f.e = 0
  · rw [if_pos h0]
    exact ⟨.inr he, by constructor <;> intro h; · have := congrArg check_finder.e h; simp [f00] at this; omega
                       · exact h.2.elim⟩
  · rw [if_neg h0]
    exact ⟨hf, by constructor <;> intro h; · subst h; exact absurd rfl h0
                  · exact h.2.elim⟩
noncomputable def m_fail := B_check_finder_fail
theorem s_fail : Sat_check_finder_fail m_fail := W_check_finder_fail
theorem v_fail (f : Fi) (a e : Int) : m_fail f a e = some ((), failS f a e) := by
  unfold m_fail B_check_finder_fail failS
  by_cases h : f.e = 0 <;> simp [h]
def cnt (k : ByteArray) : List ByteArray → Nat
  | [] => 0
  | x :: l => (if x = k then 1 else 0) + cnt k l
theorem cnt_zero {k : ByteArray} : ∀ {l : List ByteArray}, cnt k l = 0 ↔ k ∉ l
  | [] => by simp [cnt]
  | x :: l => by
    rw [cnt, Nat.add_eq_zero_iff, cnt_zero, List.mem_cons, not_or]
    by_cases h : x = k
    · simp [h]
    · simp [h, Ne.symm h]
theorem cnt_le {k : ByteArray} : ∀ (l : List ByteArray), cnt k l ≤ l.length
  | [] => by simp [cnt]
  | x :: l => by
    have := cnt_le (k := k) l
    rw [cnt, List.length_cons]
    split <;> omega
def MapC (m : Mp Int) (l : List ByteArray) : Prop := (∀ k, (m.get k).getD 0 = (cnt k l : Int)) ∧ m.n ≤ l.length
theorem MapC.emp : MapC Mp.emp [] := ⟨fun k => rfl, Nat.le_refl _⟩
theorem MapC.zero {m : Mp Int} {l : List ByteArray} (h : MapC m l) (k : ByteArray) : (m.get k).getD 0 = 0 ↔ k ∉ l := by
  rw [h.1 k, ← cnt_zero]
  omega
noncomputable def m_fresh := B_check_finder_fresh m_fail
theorem s_fresh : Sat_check_finder_fresh m_fresh := W_check_finder_fresh _ s_fail
theorem t_fresh {f : Fi} {m : Mp Int} {l : List ByteArray} (h : MapC m l) (hl : l.length ≤ 1000000) (k : ByteArray) (a : Int) : ∃ f' m', m_fresh f m k a = some ((), f', m') ∧ MapC m' (k :: l) ∧ Fd f f' (k ∉ l) := by
  have hc := cnt_le (k := k) l
  have hw : IntKind.i64.wrap ((m.get k).getD 0 + 1) = ((cnt k l + 1 : Nat) : Int) := by
    rw [h.1 k, wrap_i (by omega) (by omega)]
    omega
  have hput : putO m k (IntKind.i64.wrap ((m.get k).getD 0 + 1)) = some (m.put k ((cnt k l + 1 : Nat) : Int)) := by
    unfold putO
    rw [if_pos (by have := h.2; omega), hw]
  have hM : MapC (m.put k ((cnt k l + 1 : Nat) : Int)) (k :: l) := by
    refine ⟨fun x => ?_, by simp only [Mp.put, List.length_cons]; have := h.2; omega⟩
    simp only [Mp.put, cnt]
    by_cases hx : x = k
    · subst hx
      simp
      omega
    · rw [if_neg hx, if_neg (Ne.symm hx), h.1 x]
      omega
  have hg : ((m.put k ((cnt k l + 1 : Nat) : Int)).get k).getD 0 = ((cnt k l + 1 : Nat) : Int) := by simp [Mp.put]
  unfold m_fresh B_check_finder_fresh
  rw [hput]
  simp only [Option.bind_some, hg, v_fail]
  by_cases h1 : (1 : Int) < ((cnt k l + 1 : Nat) : Int)
  · rw [if_pos (by simpa using h1)]
    refine ⟨_, _, rfl, hM, (Fd.fail (.inl rfl)).iff ?_⟩
    rw [← cnt_zero]
    constructor
    · exact False.elim
    · intro h; omega
  · rw [if_neg (by simpa using h1)]
    refine ⟨_, _, rfl, hM, (Fd.refl f).iff ?_⟩
    rw [← cnt_zero]
    constructor
    · intro _; omega
    · intro _; trivial
theorem nodup_take {l : List ByteArray} {i : Nat} (h : i < l.length) : (l.take (i + 1)).Nodup ↔ (l.take i).Nodup ∧ l[i] ∉ (l.take i).reverse := by
  rw [List.take_succ_eq_append_getElem h, List.nodup_append]
  simp only [List.nodup_cons, List.not_mem_nil, not_false_eq_true, List.nodup_nil, and_self, true_and, List.mem_singleton, List.mem_reverse]
  constructor
  · rintro ⟨h1, h2⟩
    exact ⟨h1, fun hm => h2 _ hm _ rfl rfl⟩
  · rintro ⟨h1, h2⟩
    exact ⟨h1, fun a ha b hb he => h2 (by rw [← hb, ← he]; exact ha)⟩
theorem rev_take {α : Type} {l : List α} {i : Nat} (h : i < l.length) : (l.take (i + 1)).reverse = l[i] :: (l.take i).reverse := by
  rw [List.take_succ_eq_append_getElem h, List.reverse_append]
  rfl
mutual
def namesE : Expr → List Expr
  | ⟨k, s, n, d, xs, a⟩ => if k = 11 then [⟨k, s, n, d, xs, a⟩] else namesL xs
def namesL : List Expr → List Expr
  | [] => []
  | e :: l => namesE e ++ namesL l
end
theorem namesE_eq (e : Expr) : namesE e = if e.kind = 11 then [e] else namesL e.args := by cases e; rw [namesE]
theorem namesL_app : ∀ (a b : List Expr), namesL (a ++ b) = namesL a ++ namesL b
  | [], b => by simp [namesL]
  | e :: l, b => by simp [namesL, namesL_app l b]
theorem namesL_len : ∀ {l : List Expr}, (∀ e ∈ l, (namesE e).length ≤ sizeE e) → (namesL l).length ≤ sizeL l
  | [], _ => by simp [namesL, sizeL]
  | e :: l, h => by
    rw [namesL, sizeL, List.length_append]
    have := h e (by simp)
    have := namesL_len (l := l) fun x hx => h x (by simp [hx])
    omega
theorem namesE_len (e : Expr) : (namesE e).length ≤ sizeE e := by
  induction e using Expr.induct with
  | h e ih =>
    rw [namesE_eq, sizeE_eq]
    split
    · simp
    · have := namesL_len ih
      omega
theorem sizeL_mem : ∀ {l : List Expr} {e : Expr}, e ∈ l → sizeE e ≤ sizeL l
  | [], e, h => by simp at h
  | x :: l, e, h => by
    rw [sizeL]
    rcases List.mem_cons.1 h with rfl | h
    · omega
    · have := sizeL_mem h
      omega
theorem sizeL_ge : ∀ (l : List Expr), l.length ≤ sizeL l
  | [] => by simp [sizeL]
  | x :: l => by
    have := sizeL_ge l
    have h1 : 1 ≤ sizeE x := by rw [sizeE_eq]; omega
    rw [sizeL, List.length_cons]
    omega
theorem sizeL_take_le {l : List Expr} (i : Nat) : sizeL (l.take i) ≤ sizeL l := by
  conv => rhs; rw [← List.take_append_drop i l]
  rw [sizeL_app]
  omega
theorem namesL_take_len (l : List Expr) (i : Nat) : (namesL (l.take i)).length ≤ sizeL l := Nat.le_trans (namesL_len fun e _ => namesE_len e) (sizeL_take_le i)
def pBN (e : Expr) (r : List Expr) : Prop := Sp_body_Names e r ∧ r = namesE e
noncomputable def m_bn : Expr → Option (List Expr) := pick pBN
theorem s_bn : Sat_body_Names m_bn := fun _ _ h => (pick_spec h).1
theorem t_bn (e : Expr) : sizeE e ≤ 100000 → m_bn e = some (namesE e) := by
  suffices h : sizeE e ≤ 100000 → ∃ r, m_bn e = some r ∧ pBN e r by
    intro hs
    obtain ⟨r, h1, _, rfl⟩ := h hs
    exact h1
  induction e using Expr.induct with
  | h e ih =>
    intro hs
    refine pick_ex ?_
    have hB : B_body_Names m_bn e = some (namesE e) := by
      unfold B_body_Names
      by_cases k : e.kind = 11
      · rw [if_pos (by simpa using k), namesE_eq, if_pos k]
      · have hse := sizeE_eq e
        have hge := sizeL_ge e.args
        obtain ⟨r, h1, h2⟩ := iter_idx (f := body_Names_L0 e m_bn) (fun i v => v = (namesL (e.args.take i), (i : Int))) e.args.length (fun r => r = namesL e.args) (fun i v hi hv => by
          subst hv
          unfold body_Names_L0
          have hmem := List.getElem_mem hi
          have hsm := sizeL_mem hmem
          obtain ⟨r, h5, _, rfl⟩ := ih _ hmem (by omega)
          have hl1 := namesL_take_len e.args i
          have hl2 := namesE_len e.args[i]
          simp only [dlt hi, if_true, getI_at hi, Option.bind_some, h5]
          have happ : appO 72 (namesL (e.args.take i)) (namesE e.args[i]) = some (namesL (e.args.take i) ++ namesE e.args[i]) := by
            unfold appO
            rw [if_pos (by omega)]
          rw [happ]
          refine .inl ⟨_, rfl, ?_⟩
          rw [winc hi (by unfold maxLen; omega), List.take_succ_eq_append_getElem hi, namesL_app]
          simp [namesL]) (fun v hv => by
          subst hv
          unfold body_Names_L0
          simp only [dge, Bool.false_eq_true, if_false, List.take_length]
          exact ⟨_, rfl, rfl⟩) (v0 := (([] : List Expr), (0 : Int))) (by simp [namesL])
        subst h2
        rw [if_neg (by simpa using k), h1, namesE_eq, if_neg k]
        rfl
    exact ⟨_, W_body_Names _ s_bn _ _ hB, rfl⟩
def nodeS (n : Node) : Prop := n.params.Nodup ∧ ∀ x ∈ namesE n.body, x.name ∈ n.params
noncomputable def m_node := B_check_finder_node m_fresh m_fail m_bn
theorem s_node : Sat_check_finder_node m_node := W_check_finder_node _ _ _ s_fresh s_fail s_bn
theorem t_node (f : Fi) {n : Node} (hn : n.fit) : ∃ f', m_node f n = some ((), f') ∧ Fd f f' (nodeS n) := by
  have hp := hn.params
  have hs := hn.size
  obtain ⟨⟨f1, m1⟩, h1, h2, h3⟩ := iter_idx (f := check_finder_node_L0 n m_fresh) (fun i v => v.1 = (i : Int) ∧ MapC v.2.2 (n.params.take i).reverse ∧ Fd f v.2.1 (n.params.take i).Nodup) n.params.length (fun r => MapC r.2 n.params.reverse ∧ Fd f r.1 n.params.Nodup) (fun i v hi hv => by
    obtain ⟨_, g, m⟩ := v
    obtain ⟨rfl, hm, hf⟩ := hv
    unfold check_finder_node_L0
    obtain ⟨f', m', h4, h5, h6⟩ := t_fresh (f := g) hm (by simp; omega) n.params[i] n.at_
    simp only [dlt hi, if_true, getI_at hi, Option.bind_some, h4]
    refine .inl ⟨_, rfl, winc hi (by unfold maxLen; omega), ?_, ?_⟩
    · rw [rev_take hi]; exact h5
    · exact (hf.trans h6).iff (nodup_take hi).symm) (fun v hv => by
    obtain ⟨_, g, m⟩ := v
    obtain ⟨rfl, hm, hf⟩ := hv
    unfold check_finder_node_L0
    simp only [dge, Bool.false_eq_true, if_false]
    rw [List.take_length] at hm hf
    exact ⟨_, rfl, hm, hf⟩) (v0 := ((0 : Int), f, (Mp.emp : Mp Int))) ⟨rfl, MapC.emp, (Fd.refl f).iff (by simp)⟩
  have hlen := namesE_len n.body
  obtain ⟨f2, h4, h5⟩ := iter_idx (f := check_finder_node_L1 m1 (namesE n.body) m_fail) (fun i v => v.1 = (i : Int) ∧ Fd f1 v.2 (∀ x ∈ (namesE n.body).take i, x.name ∈ n.params)) (namesE n.body).length (fun r => Fd f1 r (∀ x ∈ namesE n.body, x.name ∈ n.params)) (fun i v hi hv => by
    obtain ⟨_, g⟩ := v
    obtain ⟨rfl, hf⟩ := hv
    unfold check_finder_node_L1
    have hz := h2.zero (namesE n.body)[i].name
    rw [List.mem_reverse] at hz
    have hiff : (∀ x ∈ (namesE n.body).take (i + 1), x.name ∈ n.params) ↔ (∀ x ∈ (namesE n.body).take i, x.name ∈ n.params) ∧ (namesE n.body)[i].name ∈ n.params := by
      rw [List.take_succ_eq_append_getElem hi]
      simp only [List.mem_append, List.mem_singleton]
      constructor
      · intro h
        exact ⟨fun x hx => h x (.inl hx), h _ (.inr rfl)⟩
      · rintro ⟨h1, h2⟩ x (hx | rfl)
        · exact h1 x hx
        · exact h2
    simp only [dlt hi, if_true, getI_at hi, Option.bind_some, v_fail]
    by_cases hx : (namesE n.body)[i].name ∈ n.params
    · have : ¬ (m1.get (namesE n.body)[i].name).getD 0 = 0 := fun h => hz.1 h hx
      rw [if_neg (by simpa using this)]
      refine .inl ⟨_, rfl, winc hi (by unfold maxLen; omega), hf.iff ?_⟩
      rw [hiff]
      exact ⟨fun h => ⟨h, hx⟩, fun h => h.1⟩
    · rw [if_pos (by simpa using hz.2 hx)]
      refine .inl ⟨_, rfl, winc hi (by unfold maxLen; omega), (hf.trans (Fd.fail (.inl rfl))).iff ?_⟩
      rw [hiff]
      exact ⟨fun h => h.2.elim, fun h => absurd h.2 hx⟩) (fun v hv => by
    obtain ⟨_, g⟩ := v
    obtain ⟨rfl, hf⟩ := hv
    unfold check_finder_node_L1
    simp only [dge, Bool.false_eq_true, if_false]
    rw [List.take_length] at hf
    exact ⟨_, rfl, hf⟩) (v0 := ((0 : Int), f1)) ⟨rfl, (Fd.refl f1).iff (by simp)⟩
  unfold m_node B_check_finder_node
  rw [h1]
  simp only [Option.bind_some]
  rw [t_bn _ (by omega)]
  simp only [Option.bind_some]
  rw [h4]
  exact ⟨f2, rfl, h3.trans h5⟩
mutual
def subsE : Expr → List Expr
  | ⟨k, s, n, d, xs, a⟩ => ⟨k, s, n, d, xs, a⟩ :: subsL xs
def subsL : List Expr → List Expr
  | [] => []
  | e :: l => subsE e ++ subsL l
end
theorem subsE_eq (e : Expr) : subsE e = e :: subsL e.args := by cases e; rw [subsE]
theorem subsL_app : ∀ (a b : List Expr), subsL (a ++ b) = subsL a ++ subsL b
  | [], b => by simp [subsL]
  | e :: l, b => by simp [subsL, subsL_app l b]
def ok1 (fl nd : ByteArray → Int) (x : Expr) : Prop := ¬ (x.kind = 1 ∧ fl x.name = 0) ∧ ¬ (x.kind = 2 ∧ nd x.name = 0) ∧ ¬ (x.kind = 2 ∧ nd x.name ≠ (x.args.length : Int))
def gd (m : Mp Int) (k : ByteArray) : Int := (m.get k).getD 0
def exprS (fl nd : ByteArray → Int) (e : Expr) : Prop := ∀ x ∈ subsE e, ok1 fl nd x
def pFE (x : Fi × Expr × Mp Int × Mp Int) (r : Unit × Fi) : Prop := Sp_check_finder_expr x.1 x.2.1 x.2.2.1 x.2.2.2 r ∧ Fd x.1 r.2 (exprS (gd x.2.2.1) (gd x.2.2.2) x.2.1)
noncomputable def m_fe (f : Fi) (e : Expr) (a b : Mp Int) : Option (Unit × Fi) := pick pFE (f, e, a, b)
theorem s_fe : Sat_check_finder_expr m_fe := fun _ _ _ _ _ h => (pick_spec h).1
theorem t_fe (e : Expr) : e.args.length ≤ maxLen → sizeE e ≤ 100000 → ∀ f a b, ∃ r, m_fe f e a b = some r ∧ pFE (f, e, a, b) r := by
  induction e using Expr.induct with
  | h e ih =>
    intro hml hs f a b
    refine pick_ex ?_
    have hse := sizeE_eq e
    have hge := sizeL_ge e.args
    -- the expression itself
    have h0 : ∃ f1, ((if ((decide (e.kind = (1 : Int))) && (decide ((Option.getD (Mp.get a e.name) (0 : Int)) = (0 : Int)))) then
    (m_fail f e.at_ (3 : Int)).bind fun y10 =>
    some y10.2
  else
    (if ((decide (e.kind = (2 : Int))) && (decide ((Option.getD (Mp.get b e.name) (0 : Int)) = (0 : Int)))) then
      (m_fail f e.at_ (3 : Int)).bind fun y18 =>
      some y18.2
    else
      (if ((decide (e.kind = (2 : Int))) && (!decide ((Option.getD (Mp.get b e.name) (0 : Int)) = ((List.length e.args : Nat) : Int)))) then
        (m_fail f e.at_ (4 : Int)).bind fun y26 =>
        some y26.2
      else
        some f : Option check_finder).bind fun v0_24 =>
      some v0_24 : Option check_finder).bind fun v0_16 =>
    some v0_16 : Option check_finder).bind fun v0_8 =>
  some v0_8 : Option check_finder) = some f1 ∧ Fd f f1 (ok1 (gd a) (gd b) e) := by
      simp only [v_fail, Option.bind_some]
      unfold ok1 gd
      by_cases c1 : e.kind = 1 ∧ (a.get e.name).getD 0 = 0
      · rw [if_pos (by simpa using c1)]
        exact ⟨_, rfl, (Fd.fail (.inl rfl)).iff ⟨False.elim, fun h => h.1 c1⟩⟩
      rw [if_neg (by simpa using c1)]
      by_cases c2 : e.kind = 2 ∧ (b.get e.name).getD 0 = 0
      · rw [if_pos (by simpa using c2)]
        exact ⟨_, rfl, (Fd.fail (.inl rfl)).iff ⟨False.elim, fun h => h.2.1 c2⟩⟩
      rw [if_neg (by simpa using c2)]
      by_cases c3 : e.kind = 2 ∧ (b.get e.name).getD 0 ≠ (e.args.length : Int)
      · rw [if_pos (by simpa using c3)]
        exact ⟨_, rfl, (Fd.fail (.inr rfl)).iff ⟨False.elim, fun h => h.2.2 c3⟩⟩
      rw [if_neg (by simpa using c3)]
      exact ⟨_, rfl, (Fd.refl f).iff ⟨fun _ => ⟨c1, c2, c3⟩, fun _ => trivial⟩⟩
    obtain ⟨f1, h1, hf1⟩ := h0
    obtain ⟨f2, h2, h3⟩ := iter_idx (f := check_finder_expr_L0 e a b m_fe) (fun i v => v.1 = (i : Int) ∧ Fd f1 v.2 (∀ x ∈ subsL (e.args.take i), ok1 (gd a) (gd b) x)) e.args.length (fun r => Fd f1 r (∀ x ∈ subsL e.args, ok1 (gd a) (gd b) x)) (fun i v hi hv => by
      obtain ⟨_, g⟩ := v
      obtain ⟨rfl, hf⟩ := hv
      unfold check_finder_expr_L0
      have hmem := List.getElem_mem hi
      have hsm := sizeL_mem hmem
      have hge2 := sizeL_ge e.args[i].args
      have hse2 := sizeE_eq e.args[i]
      obtain ⟨⟨u, g'⟩, h5, _, h6⟩ := ih _ hmem (by unfold maxLen; omega) (by omega) g a b
      simp only [dlt hi, if_true, getI_at hi, Option.bind_some, h5]
      refine .inl ⟨_, rfl, winc hi hml, (hf.trans h6).iff ?_⟩
      rw [List.take_succ_eq_append_getElem hi, subsL_app]
      simp only [subsL, List.append_nil, List.mem_append]
      exact ⟨fun h x hx => hx.elim (h.1 x) (h.2 x), fun h => ⟨fun x hx => h x (.inl hx), fun x hx => h x (.inr hx)⟩⟩) (fun v hv => by
      obtain ⟨_, g⟩ := v
      obtain ⟨rfl, hf⟩ := hv
      unfold check_finder_expr_L0
      simp only [dge, Bool.false_eq_true, if_false]
      rw [List.take_length] at hf
      exact ⟨_, rfl, hf⟩) (v0 := ((0 : Int), f1)) ⟨rfl, (Fd.refl f1).iff (by simp [subsL])⟩
    have hB : B_check_finder_expr m_fe m_fail f e a b = some ((), f2) := by
      unfold B_check_finder_expr
      rw [h1]
      simp only [Option.bind_some]
      rw [h2]
      rfl
    refine ⟨((), f2), W_check_finder_expr _ _ s_fe s_fail _ _ _ _ _ hB, (hf1.trans h3).iff ?_⟩
    simp only [exprS, subsE_eq, List.mem_cons]
    exact ⟨fun h x hx => hx.elim (fun e => e ▸ h.1) (h.2 x), fun h => ⟨h _ (.inl rfl), fun x hx => h x (.inr hx)⟩⟩
end Go.Proofs.Ytohmmfimedgccaa.E
end
section
namespace Go.Proofs.Ytohmmfimedgccaa.E
set_option linter.unusedVariables false
set_option linter.unusedSimpArgs false
set_option maxRecDepth 10000
noncomputable def m_c1 := B_check_Names_c1
theorem s_c1 : Sat_check_Names_c1 m_c1 := W_check_Names_c1
noncomputable def m_ixf := B_slices_IndexFunc_Flow
theorem s_ixf : Sat_slices_IndexFunc_Flow m_ixf := W_slices_IndexFunc_Flow
noncomputable def m_cf := B_slices_ContainsFunc_Flow m_ixf
theorem s_cf : Sat_slices_ContainsFunc_Flow m_cf := W_slices_ContainsFunc_Flow _ s_ixf
theorem t_cf {l : List Flow} (hl : l.length ≤ maxLen) {g : Flow → Option Bool} {P : Flow → Prop} (hg : ∀ x ∈ l, ∃ b, g x = some b ∧ (b = true ↔ P x)) : ∃ b, m_cf l g = some b ∧ (b = true ↔ ∃ x ∈ l, P x) := by
  obtain ⟨r, h1, h2⟩ := iter_idx (f := slices_IndexFunc_Flow_L0 l g) (fun i v => v = (i : Int) ∧ ∀ x ∈ l.take i, ¬ P x) l.length (fun r : Int ⊕ Unit => (∃ i : Nat, r = .inl (i : Int) ∧ ∃ x ∈ l, P x) ∨ (r = .inr () ∧ ∀ x ∈ l, ¬ P x)) (fun i v hi hv => by
    obtain ⟨rfl, hn⟩ := hv
    unfold slices_IndexFunc_Flow_L0
    have hmem := List.getElem_mem hi
    obtain ⟨b, hb, hp⟩ := hg _ hmem
    simp only [dlt hi, if_true, getI_at hi, Option.bind_some, hb]
    cases b with
    | true => exact .inr ⟨_, rfl, .inl ⟨i, rfl, _, hmem, hp.1 rfl⟩⟩
    | false =>
      refine .inl ⟨_, rfl, winc hi hl, fun x hx => ?_⟩
      rw [List.take_succ_eq_append_getElem hi, List.mem_append, List.mem_singleton] at hx
      rcases hx with hx | rfl
      · exact hn x hx
      · exact fun h => by have := hp.2 h; cases this) (fun v hv => by
    obtain ⟨rfl, hn⟩ := hv
    unfold slices_IndexFunc_Flow_L0
    simp only [dge, Bool.false_eq_true, if_false]
    rw [List.take_length] at hn
    exact ⟨_, rfl, .inr ⟨rfl, hn⟩⟩) (v0 := (0 : Int)) ⟨rfl, by simp⟩
  unfold m_cf B_slices_ContainsFunc_Flow m_ixf B_slices_IndexFunc_Flow
  rw [h1]
  rcases h2 with ⟨i, rfl, h⟩ | ⟨rfl, h⟩
  · exact ⟨_, rfl, by simp [h]⟩
  · refine ⟨_, rfl, ?_⟩
    constructor
    · intro hh; simp at hh
    · rintro ⟨x, hx, hp⟩; exact absurd hp (h x hx)
def ndS (l : List Node) (k : ByteArray) : Int := l.foldl (fun a x => if x.name = k then (x.params.length : Int) else a) 0
theorem ndS_app (l : List Node) (x : Node) (k : ByteArray) : ndS (l ++ [x]) k = if x.name = k then (x.params.length : Int) else ndS l k := by
  unfold ndS
  rw [List.foldl_append]
  rfl
def inames (p : Program) : List ByteArray := p.inputs.map (·.name)
def fnames (p : Program) : List ByteArray := p.flows.map (·.name)
def flS (p : Program) (k : ByteArray) : Int := (cnt k ((inames p ++ fnames p).reverse) : Int)
structure NamesS (p : Program) : Prop where
  nodes : (p.nodes.map (·.name)).Nodup
  node : ∀ n ∈ p.nodes, nodeS n
  flows : (inames p ++ fnames p).Nodup
  flow : ∀ f ∈ p.flows, exprS (flS p) (ndS p.nodes) f.e
  outputs : (p.outputs.map (·.name)).Nodup
  output : ∀ x ∈ p.outputs, ∃ y ∈ p.flows, y.name = x.flow
theorem all_take {α : Type} {l : List α} {i : Nat} (h : i < l.length) (P : α → Prop) : (∀ x ∈ l.take (i + 1), P x) ↔ (∀ x ∈ l.take i, P x) ∧ P l[i] := by
  rw [List.take_succ_eq_append_getElem h]
  simp only [List.mem_append, List.mem_singleton]
  exact ⟨fun h => ⟨fun x hx => h x (.inl hx), h _ (.inr rfl)⟩, fun h x hx => hx.elim (h.1 x) fun e => e ▸ h.2⟩
theorem map_take_at {α : Type} {l : List α} (f : α → ByteArray) {i : Nat} (h : i < l.length) : (l.map f)[i]'(by simpa using h) = f l[i] := by simp
noncomputable def m_names := B_check_Names m_fresh m_node m_fe m_cf m_c1 m_fail
theorem s_names : Sat_check_Names m_names := W_check_Names _ _ _ _ _ _ s_fresh s_node s_fe s_cf s_c1 s_fail
theorem t_names {p : Program} (hok : p.ok) (hf : p.fit) : ∃ a e, m_names p = some (a, e) ∧ ((a = 0 ∧ e = 0 ∧ NamesS p) ∨ ((e = 3 ∨ e = 4) ∧ ¬ NamesS p)) := by
  have hall := hf.all
  have hbig : (40 : Nat) ≤ maxLen := by unfold maxLen; decide
  -- nodes
  obtain ⟨⟨f1, nd⟩, h1, hnd, hf1⟩ := iter_idx (f := check_Names_L0 p m_fresh m_node) (fun i v => v.1 = (i : Int) ∧ MapC v.2.2.1 ((p.nodes.map (·.name)).take i).reverse ∧ ((∀ k, gd v.2.2.2 k = ndS (p.nodes.take i) k) ∧ v.2.2.2.n ≤ i) ∧ Fd f00 v.2.1 (((p.nodes.map (·.name)).take i).Nodup ∧ ∀ n ∈ p.nodes.take i, nodeS n)) p.nodes.length
    (fun r => (∀ k, gd r.2 k = ndS p.nodes k) ∧ Fd f00 r.1 ((p.nodes.map (·.name)).Nodup ∧ ∀ n ∈ p.nodes, nodeS n)) (fun i v hi hv => by
      obtain ⟨_, g, m, nd⟩ := v
      obtain ⟨rfl, hm, ⟨hn1, hn2⟩, hg⟩ := hv
      unfold check_Names_L0
      have hi' : i < (p.nodes.map (·.name)).length := by simpa using hi
      have hmem := List.getElem_mem hi
      obtain ⟨g1, m1, h4, h5, h6⟩ := t_fresh (f := g) hm (by simp; omega) p.nodes[i].name p.nodes[i].at_
      obtain ⟨g2, h7, h8⟩ := t_node g1 (hf.node _ hmem)
      have hput : putO nd p.nodes[i].name ((p.nodes[i].params.length : Nat) : Int) = some (nd.put p.nodes[i].name (p.nodes[i].params.length : Int)) := by
        unfold putO
        simp only at hn2
        rw [if_pos (by omega)]
      simp only [dlt hi, if_true, getI_at hi, Option.bind_some, h4, h7, hput]
      refine .inl ⟨_, rfl, winc hi (by omega), ?_, ⟨fun k => ?_, ?_⟩, ?_⟩
      · rw [rev_take hi', map_take_at _ hi]
        exact h5
      · rw [List.take_succ_eq_append_getElem hi, ndS_app, ← hn1 k]
        simp only [gd, Mp.put]
        by_cases hk : k = p.nodes[i].name
        · subst hk; simp
        · rw [if_neg hk, if_neg (Ne.symm hk)]
      · simp only [Mp.put]
        simp only at hn2
        omega
      · refine ((hg.trans h6).trans h8).iff ?_
        rw [nodup_take hi', map_take_at _ hi, all_take hi]
        exact ⟨fun ⟨⟨⟨a, b⟩, c⟩, d⟩ => ⟨⟨a, c⟩, b, d⟩, fun ⟨⟨a, c⟩, b, d⟩ => ⟨⟨⟨a, b⟩, c⟩, d⟩⟩) (fun v hv => by
      obtain ⟨_, g, m, nd⟩ := v
      obtain ⟨rfl, hm, ⟨hn1, hn2⟩, hg⟩ := hv
      unfold check_Names_L0
      simp only [dge, Bool.false_eq_true, if_false]
      rw [List.take_length] at hn1
      have : (p.nodes.map (·.name)).take p.nodes.length = p.nodes.map (·.name) := List.take_of_length_le (by simp)
      rw [this, List.take_length] at hg
      exact ⟨_, rfl, hn1, hg⟩) (v0 := ((0 : Int), f00, (Mp.emp : Mp Int), (Mp.emp : Mp Int))) ⟨rfl, MapC.emp, ⟨fun k => rfl, Nat.le_refl _⟩, (Fd.refl _).iff (by simp)⟩
  -- inputs
  obtain ⟨⟨f2, fl0⟩, h2, hfl0, hf2⟩ := iter_idx (f := check_Names_L1 p m_fresh) (fun i v => v.1 = (i : Int) ∧ MapC v.2.2 ((inames p).take i).reverse ∧ Fd f1 v.2.1 ((inames p).take i).Nodup) p.inputs.length
    (fun r => MapC r.2 (inames p).reverse ∧ Fd f1 r.1 (inames p).Nodup) (fun i v hi hv => by
      obtain ⟨_, g, m⟩ := v
      obtain ⟨rfl, hm, hg⟩ := hv
      unfold check_Names_L1
      have hi' : i < (inames p).length := by simpa [inames] using hi
      obtain ⟨g1, m1, h4, h5, h6⟩ := t_fresh (f := g) hm (by simp; omega) p.inputs[i].name p.inputs[i].at_
      have e1 : (inames p)[i] = p.inputs[i].name := by simp [inames]
      simp only [dlt hi, if_true, getI_at hi, Option.bind_some, h4]
      refine .inl ⟨_, rfl, winc hi (by omega), ?_, ?_⟩
      · rw [rev_take hi', e1]
        exact h5
      · refine (hg.trans h6).iff ?_
        rw [nodup_take hi', e1]) (fun v hv => by
      obtain ⟨_, g, m⟩ := v
      obtain ⟨rfl, hm, hg⟩ := hv
      unfold check_Names_L1
      simp only [dge, Bool.false_eq_true, if_false]
      have : (inames p).take p.inputs.length = inames p := List.take_of_length_le (by simp [inames])
      rw [this] at hm hg
      exact ⟨_, rfl, hm, hg⟩) (v0 := ((0 : Int), f1, (Mp.emp : Mp Int))) ⟨rfl, MapC.emp, (Fd.refl _).iff (by simp)⟩
  -- flows
  obtain ⟨⟨f3, fl⟩, h3, hfl, hf3⟩ := iter_idx (f := check_Names_L2 p m_fresh) (fun i v => v.1 = (i : Int) ∧ MapC v.2.2 (((fnames p).take i).reverse ++ (inames p).reverse) ∧ (Fd f2 v.2.1 (((fnames p).take i).Nodup ∧ ∀ x ∈ (fnames p).take i, x ∉ inames p))) p.flows.length
    (fun r => MapC r.2 (inames p ++ fnames p).reverse ∧ Fd f2 r.1 ((fnames p).Nodup ∧ ∀ x ∈ fnames p, x ∉ inames p)) (fun i v hi hv => by
      obtain ⟨_, g, m⟩ := v
      obtain ⟨rfl, hm, hg⟩ := hv
      unfold check_Names_L2
      have hi' : i < (fnames p).length := by simpa [fnames] using hi
      have hil : (inames p).length = p.inputs.length := by simp [inames]
      obtain ⟨g1, m1, h4, h5, h6⟩ := t_fresh (f := g) hm (by simp [hil]; omega) p.flows[i].name p.flows[i].at_
      have e1 : (fnames p)[i] = p.flows[i].name := by simp [fnames]
      simp only [dlt hi, if_true, getI_at hi, Option.bind_some, h4]
      refine .inl ⟨_, rfl, winc hi (by omega), ?_, ?_⟩
      · rw [rev_take hi', e1]
        exact h5
      · refine (hg.trans h6).iff ?_
        rw [nodup_take hi', e1, all_take hi', e1, List.mem_append, not_or]
        simp only [List.mem_reverse]
        exact ⟨fun ⟨⟨a, b⟩, c, d⟩ => ⟨⟨a, c⟩, b, d⟩, fun ⟨⟨a, c⟩, b, d⟩ => ⟨⟨a, b⟩, c, d⟩⟩) (fun v hv => by
      obtain ⟨_, g, m⟩ := v
      obtain ⟨rfl, hm, hg⟩ := hv
      unfold check_Names_L2
      simp only [dge, Bool.false_eq_true, if_false]
      have : (fnames p).take p.flows.length = fnames p := List.take_of_length_le (by simp [fnames])
      rw [this] at hm hg
      refine ⟨_, rfl, ?_, hg⟩
      rw [List.reverse_append]
      exact hm) (v0 := ((0 : Int), f2, fl0)) ⟨rfl, by simpa using hfl0, (Fd.refl _).iff (by simp)⟩
  have efl : gd fl = flS p := funext fun k => hfl.1 k
  have end_ : gd nd = ndS p.nodes := funext hnd
  -- expressions
  obtain ⟨f4, h4, hf4⟩ := iter_idx (f := check_Names_L3 nd fl p m_fe) (fun i v => v.1 = (i : Int) ∧ Fd f3 v.2 (∀ f ∈ p.flows.take i, exprS (flS p) (ndS p.nodes) f.e)) p.flows.length (fun r => Fd f3 r (∀ f ∈ p.flows, exprS (flS p) (ndS p.nodes) f.e)) (fun i v hi hv => by
      obtain ⟨_, g⟩ := v
      obtain ⟨rfl, hg⟩ := hv
      unfold check_Names_L3
      have hmem := List.getElem_mem hi
      have hsz := (hf.flow _ hmem).size
      obtain ⟨⟨u, g'⟩, h5, _, h6⟩ := t_fe p.flows[i].e ((hok.flows.2 _ hmem).e.len) (by omega) g fl nd
      rw [efl, end_] at h6
      simp only [dlt hi, if_true, getI_at hi, Option.bind_some, h5]
      refine .inl ⟨_, rfl, winc hi (by omega), (hg.trans h6).iff ?_⟩
      rw [all_take hi]) (fun v hv => by
      obtain ⟨_, g⟩ := v
      obtain ⟨rfl, hg⟩ := hv
      unfold check_Names_L3
      simp only [dge, Bool.false_eq_true, if_false]
      rw [List.take_length] at hg
      exact ⟨_, rfl, hg⟩) (v0 := ((0 : Int), f3)) ⟨rfl, (Fd.refl _).iff (by simp)⟩
  -- outputs
  obtain ⟨f5, h5, hf5⟩ := iter_idx (f := check_Names_L4 p m_c1 m_fail m_fresh m_cf) (fun i v => v.1 = (i : Int) ∧ MapC v.2.2 ((p.outputs.map (·.name)).take i).reverse ∧ Fd f4 v.2.1 (((p.outputs.map (·.name)).take i).Nodup ∧ ∀ x ∈ p.outputs.take i, ∃ y ∈ p.flows, y.name = x.flow)) p.outputs.length
    (fun r => Fd f4 r ((p.outputs.map (·.name)).Nodup ∧ ∀ x ∈ p.outputs, ∃ y ∈ p.flows, y.name = x.flow)) (fun i v hi hv => by
      obtain ⟨_, g, m⟩ := v
      obtain ⟨rfl, hm, hg⟩ := hv
      unfold check_Names_L4
      have hi' : i < (p.outputs.map (·.name)).length := by simpa using hi
      obtain ⟨g1, m1, h4, h5, h6⟩ := t_fresh (f := g) hm (by simp; omega) p.outputs[i].name p.outputs[i].at_
      obtain ⟨b, h7, h8⟩ := t_cf (l := p.flows) (by omega) (g := fun z0 => m_c1 z0 p.outputs[i]) (P := fun y => y.name = p.outputs[i].flow) (fun x _ => ⟨_, rfl, by simp⟩)
      simp only [dlt hi, if_true, getI_at hi, Option.bind_some, h4, h7, v_fail]
      have hM : MapC m1 ((p.outputs.map (·.name)).take (i + 1)).reverse := by
        rw [rev_take hi', map_take_at _ hi]
        exact h5
      cases b with
      | true =>
        refine .inl ⟨_, rfl, winc hi (by omega), hM, (hg.trans h6).iff ?_⟩
        rw [nodup_take hi', map_take_at _ hi, all_take hi]
        have := h8.1 rfl
        exact ⟨fun ⟨⟨a, b⟩, c⟩ => ⟨⟨a, c⟩, b, this⟩, fun ⟨⟨a, c⟩, b, _⟩ => ⟨⟨a, b⟩, c⟩⟩
      | false =>
        refine .inl ⟨_, rfl, winc hi (by omega), hM, ((hg.trans h6).trans (Fd.fail (.inl rfl))).iff ?_⟩
        rw [all_take hi]
        exact ⟨fun h => h.2.elim, fun h => by have := h8.2 h.2.2; cases this⟩) (fun v hv => by
      obtain ⟨_, g, m⟩ := v
      obtain ⟨rfl, hm, hg⟩ := hv
      unfold check_Names_L4
      simp only [dge, Bool.false_eq_true, if_false]
      have : (p.outputs.map (·.name)).take p.outputs.length = p.outputs.map (·.name) := List.take_of_length_le (by simp)
      rw [this, List.take_length] at hg
      exact ⟨_, rfl, hg⟩) (v0 := ((0 : Int), f4, (Mp.emp : Mp Int))) ⟨rfl, MapC.emp, (Fd.refl _).iff (by simp)⟩
  have hB : m_names p = some (f5.at_, f5.e) := by
    unfold m_names B_check_Names
    have e0 : (check_finder.mk (0 : Int) (0 : Int)) = f00 := rfl
    rw [e0, h1]
    simp only [Option.bind_some]
    rw [h2]
    simp only [Option.bind_some]
    rw [h3]
    simp only [Option.bind_some]
    rw [h4]
    simp only [Option.bind_some]
    rw [h5]
    rfl
  refine ⟨_, _, hB, ?_⟩
  obtain ⟨g1, g2⟩ := ((((hf1.trans hf2).trans hf3).trans hf4).trans hf5) (.inl rfl)
  have hiff : f5 = f00 ↔ NamesS p := by
    rw [g2]
    constructor
    · rintro ⟨_, ⟨⟨⟨⟨a, b⟩, c⟩, d, e⟩, f⟩, g, h⟩
      exact ⟨a, b, List.nodup_append.2 ⟨c, d, fun x hx y hy he => e y hy (he ▸ hx)⟩, f, g, h⟩
    · rintro ⟨a, b, c, f, g, h⟩
      obtain ⟨c1, c2, c3⟩ := List.nodup_append.1 c
      exact ⟨rfl, ⟨⟨⟨⟨a, b⟩, c1⟩, c2, fun x hx hi => c3 x hi x hx rfl⟩, f⟩, g, h⟩
  by_cases h0 : f5 = f00
  · exact .inl ⟨by rw [h0]; rfl, by rw [h0]; rfl, hiff.1 h0⟩
  · refine .inr ⟨?_, fun h => h0 (hiff.2 h)⟩
    rcases g1 with h | h | h
    · exact absurd h h0
    · exact .inl h
    · exact .inr h
end Go.Proofs.Ytohmmfimedgccaa.E
end
section
namespace Go.Proofs.Ytohmmfimedgccaa.E
set_option maxRecDepth 100000
set_option maxHeartbeats 4000000
set_option linter.unusedVariables false
set_option linter.unusedSimpArgs false
noncomputable def B_check_finder_fail_in_check_solver (a0 : check_solver) (a1 : Int) (a2 : Int) : Option (Unit × check_solver) :=
 (if (decide (a0.finder.e = (0 : Int))) then
  some ((check_solver.mk (check_finder.mk a1 a2) a0.known), a0.known)
 else
  some ((check_solver.mk a0.finder a0.known), a0.known) : Option (check_solver × (Mp Clock))).bind fun (vf_3, v0_2_4) =>
 some ((), (check_solver.mk vf_3.finder v0_2_4))
abbrev check_finder_fail_in_check_solver_V0 : Clock → PV := fun v : Clock => (PV.ag [(.v (.int .i64 v.period)), (.v (.int .i64 v.phase))])
theorem W_check_finder_fail_in_check_solver : Sat_check_finder_fail_in_check_solver (B_check_finder_fail_in_check_solver) := by
 intro a0 a1 a2 r h σ K j0 j0_2 H0 H0_2 hK
 refine w_fq (Q := fun r s => ∃ l : List (Nat × AObj), (l.map (·.1)).Nodup ∧ (∀ x ∈ l, x.1 < σ.length ∧ ClO σ.length x.2) ∧ Pq σ l K r s) Try.func49 rfl rfl (by kernel_rfl) (fun _ _ h => h) ?_
 unfold B_check_finder_fail_in_check_solver at h
 have hP := Pre.refl σ
 have jl0 := H0.lt
 have jl0_2 := H0_2.lt
 have hF := Fr.refl σ [j0, j0_2]
 have E0 : argE [(.pt j0 0), (.v (.int .i64 a1)), (.v (.int .i64 a2))] 0 = (.pt j0 0) := rfl
 have E1 : argE [(.pt j0 0), (.v (.int .i64 a1)), (.v (.int .i64 a2))] 1 = (.v (.int .i64 a1)) := rfl
 have E2 : argE [(.pt j0 0), (.v (.int .i64 a1)), (.v (.int .i64 a2))] 2 = (.v (.int .i64 a2)) := rfl
 have TT := cj4 Expr.rlen T_106 T_3 T_30
 refine w_sa (fun e s => ∃ τ : Store, Gx s j0 (AObj.box 123 [(.v (.int .i64 a0.finder.at_)), (.v (.int .i64 a0.finder.e)), (.mp j0_2)]) ∧ Gx s j0_2 (AObj.map .s (mpF check_finder_fail_in_check_solver_V0 (Mp.get a0.known)) (Mp.n a0.known)) ∧ e 0 = (.pt j0 0) ∧ e 1 = (.v (.int .i64 a1)) ∧ e 2 = (.v (.int .i64 a2)) ∧ e 10 = (.v (.bool (decide (a0.finder.e = (0 : Int))))) ∧ Fr σ τ [j0, j0_2] ∧ Pre τ s) ?_ fun e s hI => ?_
 ·refine w_x (cj6 E0 E1 E2 H0.get H0_2.get TT) (k := ?_)
  have q1 := cj6 E0 E1 E2 H0.get H0_2.get TT
  exact cw_n ⟨_, WkE.refl _, σ, H0, H0_2, (xv q1), (xv q1), (xv q1), (xv q1), hF, hP⟩
 obtain ⟨τ, X0, X0_2, E0, E1, E2, E10, hF, hP⟩ := hI
 obtain ⟨x1, h2, h⟩ := bnd_some h
 refine w_an (fun e s => ∃ vf_3 : check_solver, ∃ v0_2_4 : (Mp Clock), ∃ τ : Store, (vf_3, v0_2_4) = x1 ∧ Gx s j0 (AObj.box 123 [(.v (.int .i64 vf_3.finder.at_)), (.v (.int .i64 vf_3.finder.e)), (.mp j0_2)]) ∧ Gx s j0_2 (AObj.map .s (mpF check_finder_fail_in_check_solver_V0 (Mp.get v0_2_4)) (Mp.n v0_2_4)) ∧ Fr σ τ [j0, j0_2] ∧ Pre τ s) ?_ fun e s hI => ?_
 ·rcases ite_some h2 with ⟨hb5, h2⟩ | ⟨hb5, h2⟩
  ·refine xt (cj5 E0 E1 E2 E10 hb5) ?_
   have q2 := Gx.apart X0 X0_2 (by intro h; cases h)
   have q3 := Gx.same X0 (AObj.box 123 [(.v (.int .i64 a1)), (.v (.int .i64 a0.finder.e)), (.mp j0_2)])
   refine w_x (cj11 E0 E1 E2 E10 X0.get X0_2.get q3.get (X0_2.ne q2 (some (AObj.box 123 [(.v (.int .i64 a1)), (.v (.int .i64 a0.finder.e)), (.mp j0_2)]))).get (Gx.same q3 (AObj.box 123 [(.v (.int .i64 a1)), (.v (.int .i64 a2)), (.mp j0_2)])).get ((X0_2.ne q2 (some (AObj.box 123 [(.v (.int .i64 a1)), (.v (.int .i64 a0.finder.e)), (.mp j0_2)]))).ne (Gx.apart q3 (X0_2.ne q2 (some (AObj.box 123 [(.v (.int .i64 a1)), (.v (.int .i64 a0.finder.e)), (.mp j0_2)]))) (by intro h; cases h)) (some (AObj.box 123 [(.v (.int .i64 a1)), (.v (.int .i64 a2)), (.mp j0_2)]))).get TT) (k := ?_)
   obtain rfl := some_inj h2
   have q4 := Gx.apart X0 X0_2 (by intro h; cases h)
   have q5 := Gx.same X0 (AObj.box 123 [(.v (.int .i64 a1)), (.v (.int .i64 a0.finder.e)), (.mp j0_2)])
   exact ct_n ⟨_, _, (List.set (List.set τ j0 (some (AObj.box 123 [(.v (.int .i64 a1)), (.v (.int .i64 a0.finder.e)), (.mp j0_2)]))) j0 (some (AObj.box 123 [(.v (.int .i64 a1)), (.v (.int .i64 a2)), (.mp j0_2)]))), rfl, (Gx.same q5 (AObj.box 123 [(.v (.int .i64 a1)), (.v (.int .i64 a2)), (.mp j0_2)])), ((X0_2.ne q4 (some (AObj.box 123 [(.v (.int .i64 a1)), (.v (.int .i64 a0.finder.e)), (.mp j0_2)]))).ne (Gx.apart q5 (X0_2.ne q4 (some (AObj.box 123 [(.v (.int .i64 a1)), (.v (.int .i64 a0.finder.e)), (.mp j0_2)]))) (by intro h; cases h)) (some (AObj.box 123 [(.v (.int .i64 a1)), (.v (.int .i64 a2)), (.mp j0_2)]))), ((hF.set (by simp) (some (AObj.box 123 [(.v (.int .i64 a1)), (.v (.int .i64 a0.finder.e)), (.mp j0_2)]))).set (by simp) (some (AObj.box 123 [(.v (.int .i64 a1)), (.v (.int .i64 a2)), (.mp j0_2)]))), ((hP.setp (hF.lt jl0) (some (AObj.box 123 [(.v (.int .i64 a1)), (.v (.int .i64 a0.finder.e)), (.mp j0_2)]))).setp ((hF.set (by simp) (some (AObj.box 123 [(.v (.int .i64 a1)), (.v (.int .i64 a0.finder.e)), (.mp j0_2)]))).lt jl0) (some (AObj.box 123 [(.v (.int .i64 a1)), (.v (.int .i64 a2)), (.mp j0_2)])))⟩
  ·refine xf (cj5 E0 E1 E2 E10 hb5) ?_
   refine w_skip ?_
   obtain rfl := some_inj h2
   exact ct_n ⟨_, _, τ, rfl, X0, X0_2, hF, hP⟩
 obtain ⟨vf_3, v0_2_4, τ, rfl, X0, X0_2, hF, hP⟩ := hI
 try dsimp only at h
 obtain rfl := some_inj h
 have hn6 : (List.map (·.1) ([(j0, (AObj.box 123 [(.v (.int .i64 vf_3.finder.at_)), (.v (.int .i64 vf_3.finder.e)), (.mp j0_2)])), (j0_2, (AObj.map .s (mpF check_finder_fail_in_check_solver_V0 (Mp.get v0_2_4)) (Mp.n v0_2_4)))] : List (Nat × AObj))).Nodup := (List.nodup_cons.2 ⟨(by simp only [List.map_cons, List.map_nil, List.mem_cons, List.not_mem_nil, or_false, not_or]; exact (Gx.apart X0 X0_2 (by intro h; cases h))), (List.nodup_cons.2 ⟨(fun h => by simp at h), List.nodup_nil⟩)⟩)
 have he7 := Fr.eq (l := [(j0, (AObj.box 123 [(.v (.int .i64 vf_3.finder.at_)), (.v (.int .i64 vf_3.finder.e)), (.mp j0_2)])), (j0_2, (AObj.map .s (mpF check_finder_fail_in_check_solver_V0 (Mp.get v0_2_4)) (Mp.n v0_2_4)))]) hF hn6 (List.forall_mem_cons.2 ⟨⟨jl0, (Gx.back X0 hP (hF.lt jl0))⟩, (List.forall_mem_cons.2 ⟨⟨jl0_2, (Gx.back X0_2 hP (hF.lt jl0_2))⟩, (fun x hx => absurd hx (by simp))⟩)⟩)
 exact w_end (fun h => absurd rfl h) (xr (rs := #[]) trivial) ⟨[(j0, (AObj.box 123 [(.v (.int .i64 vf_3.finder.at_)), (.v (.int .i64 vf_3.finder.e)), (.mp j0_2)])), (j0_2, (AObj.map .s (mpF check_finder_fail_in_check_solver_V0 (Mp.get v0_2_4)) (Mp.n v0_2_4)))], hn6, (List.forall_mem_cons.2 ⟨⟨jl0, (ClO.bx (ClL.cons (Cn.cl (.v _) _) (ClL.cons (Cn.cl (.v _) _) (ClL.cons (Cl.mp jl0_2) ClL.nil))))⟩, (List.forall_mem_cons.2 ⟨⟨jl0_2, ((CnO.mp (fun _ => (.ag (CnL.cons (.v _) (CnL.cons (.v _) CnL.nil)))) _ _).cl _)⟩, (fun x hx => absurd hx (by simp))⟩)⟩), he7 ▸ hP, (.tu []), (.refl _), (.tu CnL.nil), hK⟩
end Go.Proofs.Ytohmmfimedgccaa.E
end
