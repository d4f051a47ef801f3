import Derived.Test.YtohmmfimedgccaaQN2
/- CheckNames returns true at every input. PART 4 OF 8: G43 G10 PA PB G49 G44 G45 G46 G47 G48 G90 -/
section
namespace Go.Proofs.Ytohmmfimedgccaa.E
set_option maxRecDepth 100000
set_option maxHeartbeats 4000000
set_option linter.unusedVariables false
set_option linter.unusedSimpArgs false
noncomputable def ref04_Expr_L0 (a0 : Expr) (f_ref04_Expr : Expr → Option Bool) : Int → Option (Int ⊕ (Bool ⊕ Unit))
 | v3_3 =>
  if (decide (v3_3 < ((List.length a0.args : Nat) : Int))) then
   ((getI a0.args v3_3).bind fun y9 =>
   (f_ref04_Expr y9).bind fun y11 =>
   if (!y11) then
    some (.inl false)
   else
    some (.inr ()) : Option (Bool ⊕ Unit)).bind fun x => match x with
   | .inl r => some (.inr (.inl r))
   | .inr _ =>
    some (.inl (IntKind.i64.wrap (v3_3 + (1 : Int))))
  else
   some (.inr (.inr ()))
noncomputable def B_ref04_Expr (f_ref03_Right : ByteArray → Option Bool) (f_ref04_number : Int → Int → Int → Option Bool) (f_ref04_Expr : Expr → Option Bool) (a0 : Expr) : Option Bool :=
 (iterO (ref04_Expr_L0 a0 f_ref04_Expr) (0 : Int) : Option (Bool ⊕ Unit)).bind fun x => match x with
 | .inl r => some r
 | .inr _ =>
  (if (decide (a0.kind = (1 : Int))) then
   (f_ref03_Right a0.name).bind fun y21 =>
   some (.inl ((y21 && (decide (((List.length a0.args : Nat) : Int) = (0 : Int)))) && ((decide (a0.n = (0 : Int))) && (decide (a0.d = (0 : Int))))))
  else
   if (decide (a0.kind = (2 : Int))) then
    (f_ref03_Right a0.name).bind fun y26 =>
    some (.inl (((y26 && (decide ((1 : Int) ≤ ((List.length a0.args : Nat) : Int)))) && (decide (((List.length a0.args : Nat) : Int) ≤ (6 : Int)))) && ((decide (a0.n = (0 : Int))) && (decide (a0.d = (0 : Int))))))
   else
    some (.inr ()) : Option (Bool ⊕ Unit)).bind fun x => match x with
  | .inl r => some r
  | .inr _ =>
   if (((!decide (((List.length a0.args : Nat) : Int) = (1 : Int))) || (!decide (a0.name = (⟨#[]⟩ : ByteArray)))) || ((!decide (a0.d = (0 : Int))) && (!decide (a0.kind = (5 : Int))))) then
    some false
   else
    ((if (decide (a0.kind = (3 : Int))) then
     some (decide (a0.kind = (3 : Int)))
    else
     some (decide (a0.kind = (4 : Int))) : Option Bool).bind fun v84_39 =>
    if v84_39 then
     (f_ref04_number a0.n (1 : Int) (100 : Int)).bind fun y42 =>
     some (.inl y42)
    else
     if (decide (a0.kind = (5 : Int))) then
      (f_ref04_number a0.n (0 : Int) (100 : Int)).bind fun y45 =>
      (if y45 then
       (f_ref04_number a0.d (1 : Int) (100 : Int)).bind fun y47 =>
       some y47
      else
       some false).bind fun w49 =>
      some (.inl (y45 && w49))
     else
      (if (decide (a0.kind = (6 : Int))) then
       some (decide (a0.kind = (6 : Int)))
      else
       some (decide (a0.kind = (8 : Int))) : Option Bool).bind fun v100_54 =>
      if v100_54 then
       (f_ref04_number a0.n (-1000000000 : Int) (1000000000 : Int)).bind fun y57 =>
       some (.inl y57)
      else
       some (.inr ()) : Option (Bool ⊕ Unit)).bind fun x => match x with
    | .inl r => some r
    | .inr _ =>
     some ((decide (a0.kind = (7 : Int))) && (decide (a0.n = (0 : Int))))
abbrev ref04_Expr_A0 (a0 : Expr) : List PV := [(.v (.int .i64 a0.kind)), (.v (.string a0.name)), (.v (.int .i64 a0.n)), (.v (.int .i64 a0.d)), (.sl (Expr.rows a0.args)), (.v (.int .i64 a0.at_))]
theorem W_ref04_Expr (f_ref03_Right : ByteArray → Option Bool) (f_ref04_number : Int → Int → Int → Option Bool) (f_ref04_Expr : Expr → Option Bool) (S_ref03_Right : Sat_ref03_Right f_ref03_Right) (S_ref04_number : Sat_ref04_number f_ref04_number) (S_ref04_Expr : Sat_ref04_Expr f_ref04_Expr) : Sat_ref04_Expr (B_ref04_Expr f_ref03_Right f_ref04_number f_ref04_Expr) := by
 intro a0 r h σ K hK
 refine w_fp Try.func43 rfl rfl (by kernel_rfl) ?_
 unfold B_ref04_Expr at h
 have hP := Pre.refl σ
 have E0 : argE [(.ag (ref04_Expr_A0 a0))] 0 = (.ag (ref04_Expr_A0 a0)) := rfl
 have TT := cj6 Expr.rlen T_2 T_3 T_37 T_39 T_9
 refine w_sa (fun e s => ∃ i1 : Nat, Bx σ s i1 39 (ref04_Expr_A0 a0) ∧ e 1 = (.pt i1 0) ∧ Pre σ s) ?_ fun e s hI => ?_
 ·refine w_x (cj2 E0 TT) (k := ?_)
  exact cw_n ⟨_, WkE.refl _, σ.length, (Bx.new hP 39 (ref04_Expr_A0 a0)), (xv (cj2 E0 TT)), (hP.app _)⟩
 obtain ⟨i1, X1, E1, hP⟩ := hI
 refine w_assoc ?_
 refine w_sa (fun e s => Bx σ s i1 39 (ref04_Expr_A0 a0) ∧ e 1 = (.pt i1 0) ∧ e 3 = (.v (.int .i64 (0 : Int))) ∧ Pre σ s) ?_ fun e s hI => ?_
 ·refine w_x (cj3 E1 X1.get TT) (k := ?_)
  exact cw_n ⟨_, WkE.refl _, X1, (xv (cj3 E1 X1.get TT)), (xv (cj3 E1 X1.get TT)), hP⟩
 obtain ⟨X1, E1, E3, hP⟩ := hI
 obtain ⟨x1, h2, h⟩ := bnd_some h
 refine w_sa (fun e s => .inr () = x1 ∧ Bx σ s i1 39 (ref04_Expr_A0 a0) ∧ e 1 = (.pt i1 0) ∧ Pre σ s) ?_ fun e s hI => ?_
 ·refine w_block ?_
  refine w_iter h2 (fun v e s => ∃ v3_3 : Int, v3_3 = v ∧ Bx σ s i1 39 (ref04_Expr_A0 a0) ∧ e 1 = (.pt i1 0) ∧ e 3 = (.v (.int .i64 v3_3)) ∧ Pre σ s) ⟨_, WkE.refl _, _, rfl, X1, (xv (cj2 E1 E3)), (xv (cj2 E1 E3)), hP⟩ fun v x4 e s hf5 hI => ?_
  obtain ⟨v3_3, rfl, X1, E1, E3, hP⟩ := hI
  unfold ref04_Expr_L0 at hf5
  try dsimp only at hf5
  refine w_assoc ?_
  refine w_sa (fun e s => Bx σ s i1 39 (ref04_Expr_A0 a0) ∧ e 1 = (.pt i1 0) ∧ e 3 = (.v (.int .i64 v3_3)) ∧ e 9 = (.v (.bool (decide (v3_3 < ((List.length a0.args : Nat) : Int))))) ∧ Pre σ s) ?_ fun e s hI => ?_
  ·refine w_x (cj4 E1 E3 X1.get TT) (k := ?_)
   have q1 := cj4 E1 E3 X1.get TT
   exact cw_n ⟨_, WkE.refl _, X1, (xv q1), (xv q1), (xv q1), hP⟩
  obtain ⟨X1, E1, E3, E9, hP⟩ := hI
  refine w_seq ?_
  rcases ite_some hf5 with ⟨hb6, hf5⟩ | ⟨hb6, hf5⟩
  ·refine xt (cj4 E1 E3 E9 hb6) ?_
   refine w_skip ?_
   refine w_sq ?_
   obtain ⟨x7, h8, hf5⟩ := bnd_some hf5
   refine w_sa (fun e s => .inr () = x7 ∧ Bx σ s i1 39 (ref04_Expr_A0 a0) ∧ e 1 = (.pt i1 0) ∧ e 3 = (.v (.int .i64 v3_3)) ∧ Pre σ s) ?_ fun e s hI => ?_
   ·refine w_block ?_
    obtain ⟨y9, h10, h8⟩ := bnd_some h8
    obtain ⟨y11, h12, h8⟩ := bnd_some h8
    refine w_sa (fun e s => Bx σ s i1 39 (ref04_Expr_A0 a0) ∧ e 1 = (.pt i1 0) ∧ e 3 = (.v (.int .i64 v3_3)) ∧ e 18 = (.v (.bool (!y11))) ∧ Pre σ s) ?_ fun e s hI => ?_
    ·have R13 : (Expr.rows a0.args)[(v3_3).toNat]? = some [(.v (.int .i64 y9.kind)), (.v (.string y9.name)), (.v (.int .i64 y9.n)), (.v (.int .i64 y9.d)), (.sl (Expr.rows y9.args)), (.v (.int .i64 y9.at_))] := Expr.rget (getI_some h10).2
     refine w_x (cj7 E1 E3 E9 X1.get R13 (getI_some h10).1 TT) (k := ?_)
     refine EC.wka (.cons (.refl _) .nil) (S_ref04_Expr _ _ h12 _ _  ?_)
     refine w_y (cj7 E1 E3 E9 X1.get R13 (getI_some h10).1 TT) (k := ?_)
     have q2 := cj7 E1 E3 E9 X1.get R13 (getI_some h10).1 TT
     exact cw_n ⟨_, WkE.refl _, X1, (xv q2), (xv q2), (xv q2), hP⟩
    obtain ⟨X1, E1, E3, E18, hP⟩ := hI
    rcases ite_some h8 with ⟨hb14, h8⟩ | ⟨hb14, h8⟩
    ·refine xt (cj4 E1 E3 E18 hb14) ?_
     refine w_sa (fun e s => e 2 = (.v (.bool false)) ∧ Pre σ s) ?_ fun e s hI => ?_
     ·refine w_x (cj5 E1 E3 E18 X1.get TT) (k := ?_)
      exact cw_n ⟨_, WkE.refl _, (xv (cj5 E1 E3 E18 X1.get TT)), hP⟩
     obtain ⟨E2, hP⟩ := hI
     refine w_ret ?_
     refine w_bkr ?_
     obtain rfl := some_inj h8
     refine cw_r ?_
     try dsimp only at hf5
     obtain rfl := some_inj hf5
     refine iq_r rfl fun hr15 => ?_
     obtain rfl := hr15
     refine w_bkr ?_
     refine cw_r ?_
     try dsimp only at h
     obtain rfl := some_inj h
     exact w_fin (fun _ => rfl) (xr (rs := #[.tmp 2]) E2) hP (r' := (.v (.bool false))) (.refl _) (.v _) hK
    ·refine xf (cj4 E1 E3 E18 hb14) ?_
     refine w_skip ?_
     refine w_bk ?_
     obtain rfl := some_inj h8
     exact cw_n ⟨_, WkE.refl _, rfl, X1, (xv (cj3 E1 E3 E18)), (xv (cj3 E1 E3 E18)), hP⟩
   obtain ⟨rfl, X1, E1, E3, hP⟩ := hI
   try dsimp only at hf5
   refine w_x (cj4 E1 E3 X1.get TT) (k := ?_)
   obtain rfl := some_inj hf5
   exact iq_n rfl ⟨_, WkE.refl _, _, rfl, X1, (xv (cj4 E1 E3 X1.get TT)), (xv (cj4 E1 E3 X1.get TT)), hP⟩
  ·refine xf (cj4 E1 E3 E9 hb6) ?_
   refine w_exit ?_
   refine w_sqx ?_
   obtain rfl := some_inj hf5
   refine iq_x rfl fun hr16 => ?_
   obtain rfl := hr16
   refine w_bkx ?_
   exact cw_n ⟨_, WkE.refl _, rfl, X1, (xv (cj3 E1 E3 E9)), hP⟩
 obtain ⟨rfl, X1, E1, hP⟩ := hI
 try dsimp only at h
 refine w_sa (fun e s => Bx σ s i1 39 (ref04_Expr_A0 a0) ∧ e 1 = (.pt i1 0) ∧ e 4 = (.v (.bool ((decide (a0.n = (0 : Int))) && (decide (a0.d = (0 : Int)))))) ∧ Pre σ s) ?_ fun e s hI => ?_
 ·cases hb17 : (decide (a0.n = (0 : Int)))
  ·refine w_x (cj4 E1 X1.get hb17 TT) (k := ?_)
   exact cw_n ⟨_, WkE.refl _, X1, (xv (cj4 E1 X1.get hb17 TT)), (xv (cj4 E1 X1.get hb17 TT)), hP⟩
  ·refine w_x (cj4 E1 X1.get hb17 TT) (k := ?_)
   exact cw_n ⟨_, WkE.refl _, X1, (xv (cj4 E1 X1.get hb17 TT)), (xv (cj4 E1 X1.get hb17 TT)), hP⟩
 obtain ⟨X1, E1, E4, hP⟩ := hI
 refine w_assoc ?_
 refine w_sa (fun e s => Bx σ s i1 39 (ref04_Expr_A0 a0) ∧ e 1 = (.pt i1 0) ∧ e 4 = (.v (.bool ((decide (a0.n = (0 : Int))) && (decide (a0.d = (0 : Int)))))) ∧ e 28 = (.v (.int .i64 a0.kind)) ∧ Pre σ s) ?_ fun e s hI => ?_
 ·refine w_x (cj4 E1 E4 X1.get TT) (k := ?_)
  have q3 := cj4 E1 E4 X1.get TT
  exact cw_n ⟨_, WkE.refl _, X1, (xv q3), (xv q3), (xv q3), hP⟩
 obtain ⟨X1, E1, E4, E28, hP⟩ := hI
 obtain ⟨x18, h19, h⟩ := bnd_some h
 refine w_sa (fun e s => .inr () = x18 ∧ Bx σ s i1 39 (ref04_Expr_A0 a0) ∧ e 1 = (.pt i1 0) ∧ Pre σ s) ?_ fun e s hI => ?_
 ·refine w_block ?_
  refine w_sa (fun e s => Bx σ s i1 39 (ref04_Expr_A0 a0) ∧ e 1 = (.pt i1 0) ∧ e 4 = (.v (.bool ((decide (a0.n = (0 : Int))) && (decide (a0.d = (0 : Int)))))) ∧ e 28 = (.v (.int .i64 a0.kind)) ∧ e 29 = (.v (.bool (decide (a0.kind = (1 : Int))))) ∧ Pre σ s) ?_ fun e s hI => ?_
  ·refine w_x (cj5 E1 E4 E28 X1.get TT) (k := ?_)
   have q4 := cj5 E1 E4 E28 X1.get TT
   exact cw_n ⟨_, WkE.refl _, X1, (xv q4), (xv q4), (xv q4), (xv q4), hP⟩
  obtain ⟨X1, E1, E4, E28, E29, hP⟩ := hI
  rcases ite_some h19 with ⟨hb20, h19⟩ | ⟨hb20, h19⟩
  ·refine xt (cj5 E1 E4 E28 E29 hb20) ?_
   obtain ⟨y21, h22, h19⟩ := bnd_some h19
   refine w_sa (fun e s => e 2 = (.v (.bool ((y21 && (decide (((List.length a0.args : Nat) : Int) = (0 : Int)))) && ((decide (a0.n = (0 : Int))) && (decide (a0.d = (0 : Int))))))) ∧ Pre σ s) ?_ fun e s hI => ?_
   ·cases hb23 : y21
    ·refine w_x (cj7 E1 E4 E28 E29 X1.get hb23 TT) (k := ?_)
     refine EC.wka (.cons (.refl _) .nil) (S_ref03_Right _ _ h22 _ _  ?_)
     refine w_y (cj7 E1 E4 E28 E29 X1.get hb23 TT) (k := ?_)
     exact cw_n ⟨_, WkE.refl _, (xv (cj7 E1 E4 E28 E29 X1.get hb23 TT)), hP⟩
    ·cases hb24 : (decide (((List.length a0.args : Nat) : Int) = (0 : Int)))
     ·refine w_x (cj8 E1 E4 E28 E29 X1.get hb23 hb24 TT) (k := ?_)
      refine EC.wka (.cons (.refl _) .nil) (S_ref03_Right _ _ h22 _ _  ?_)
      refine w_y (cj8 E1 E4 E28 E29 X1.get hb23 hb24 TT) (k := ?_)
      exact cw_n ⟨_, WkE.refl _, (xv (cj8 E1 E4 E28 E29 X1.get hb23 hb24 TT)), hP⟩
     ·refine w_x (cj8 E1 E4 E28 E29 X1.get hb23 hb24 TT) (k := ?_)
      refine EC.wka (.cons (.refl _) .nil) (S_ref03_Right _ _ h22 _ _  ?_)
      refine w_y (cj8 E1 E4 E28 E29 X1.get hb23 hb24 TT) (k := ?_)
      exact cw_n ⟨_, WkE.refl _, (xv (cj8 E1 E4 E28 E29 X1.get hb23 hb24 TT)), hP⟩
   obtain ⟨E2, hP⟩ := hI
   refine w_ret ?_
   refine w_bkr ?_
   obtain rfl := some_inj h19
   refine cw_r ?_
   try dsimp only at h
   obtain rfl := some_inj h
   exact w_fin (fun _ => rfl) (xr (rs := #[.tmp 2]) E2) hP (r' := (.v (.bool ((y21 && (decide (((List.length a0.args : Nat) : Int) = (0 : Int)))) && ((decide (a0.n = (0 : Int))) && (decide (a0.d = (0 : Int)))))))) (.refl _) (.v _) hK
  ·refine xf (cj5 E1 E4 E28 E29 hb20) ?_
   refine w_sa (fun e s => Bx σ s i1 39 (ref04_Expr_A0 a0) ∧ e 1 = (.pt i1 0) ∧ e 4 = (.v (.bool ((decide (a0.n = (0 : Int))) && (decide (a0.d = (0 : Int)))))) ∧ e 43 = (.v (.bool (decide (a0.kind = (2 : Int))))) ∧ Pre σ s) ?_ fun e s hI => ?_
   ·refine w_x (cj6 E1 E4 E28 E29 X1.get TT) (k := ?_)
    have q5 := cj6 E1 E4 E28 E29 X1.get TT
    exact cw_n ⟨_, WkE.refl _, X1, (xv q5), (xv q5), (xv q5), hP⟩
   obtain ⟨X1, E1, E4, E43, hP⟩ := hI
   rcases ite_some h19 with ⟨hb25, h19⟩ | ⟨hb25, h19⟩
   ·refine xt (cj4 E1 E4 E43 hb25) ?_
    obtain ⟨y26, h27, h19⟩ := bnd_some h19
    refine w_sa (fun e s => e 2 = (.v (.bool (((y26 && (decide ((1 : Int) ≤ ((List.length a0.args : Nat) : Int)))) && (decide (((List.length a0.args : Nat) : Int) ≤ (6 : Int)))) && ((decide (a0.n = (0 : Int))) && (decide (a0.d = (0 : Int))))))) ∧ Pre σ s) ?_ fun e s hI => ?_
    ·cases hb28 : y26
     ·refine w_x (cj6 E1 E4 E43 X1.get hb28 TT) (k := ?_)
      refine EC.wka (.cons (.refl _) .nil) (S_ref03_Right _ _ h27 _ _  ?_)
      refine w_y (cj6 E1 E4 E43 X1.get hb28 TT) (k := ?_)
      exact cw_n ⟨_, WkE.refl _, (xv (cj6 E1 E4 E43 X1.get hb28 TT)), hP⟩
     ·cases hb29 : (decide ((1 : Int) ≤ ((List.length a0.args : Nat) : Int)))
      ·refine w_x (cj7 E1 E4 E43 X1.get hb28 hb29 TT) (k := ?_)
       refine EC.wka (.cons (.refl _) .nil) (S_ref03_Right _ _ h27 _ _  ?_)
       refine w_y (cj7 E1 E4 E43 X1.get hb28 hb29 TT) (k := ?_)
       exact cw_n ⟨_, WkE.refl _, (xv (cj7 E1 E4 E43 X1.get hb28 hb29 TT)), hP⟩
      ·cases hb30 : (decide (((List.length a0.args : Nat) : Int) ≤ (6 : Int)))
       ·refine w_x (cj8 E1 E4 E43 X1.get hb28 hb29 hb30 TT) (k := ?_)
        refine EC.wka (.cons (.refl _) .nil) (S_ref03_Right _ _ h27 _ _  ?_)
        refine w_y (cj8 E1 E4 E43 X1.get hb28 hb29 hb30 TT) (k := ?_)
        exact cw_n ⟨_, WkE.refl _, (xv (cj8 E1 E4 E43 X1.get hb28 hb29 hb30 TT)), hP⟩
       ·refine w_x (cj8 E1 E4 E43 X1.get hb28 hb29 hb30 TT) (k := ?_)
        refine EC.wka (.cons (.refl _) .nil) (S_ref03_Right _ _ h27 _ _  ?_)
        refine w_y (cj8 E1 E4 E43 X1.get hb28 hb29 hb30 TT) (k := ?_)
        exact cw_n ⟨_, WkE.refl _, (xv (cj8 E1 E4 E43 X1.get hb28 hb29 hb30 TT)), hP⟩
    obtain ⟨E2, hP⟩ := hI
    refine w_ret ?_
    refine w_bkr ?_
    obtain rfl := some_inj h19
    refine cw_r ?_
    try dsimp only at h
    obtain rfl := some_inj h
    exact w_fin (fun _ => rfl) (xr (rs := #[.tmp 2]) E2) hP (r' := (.v (.bool (((y26 && (decide ((1 : Int) ≤ ((List.length a0.args : Nat) : Int)))) && (decide (((List.length a0.args : Nat) : Int) ≤ (6 : Int)))) && ((decide (a0.n = (0 : Int))) && (decide (a0.d = (0 : Int)))))))) (.refl _) (.v _) hK
   ·refine xf (cj4 E1 E4 E43 hb25) ?_
    refine w_skip ?_
    refine w_bk ?_
    obtain rfl := some_inj h19
    exact cw_n ⟨_, WkE.refl _, rfl, X1, (xv (cj3 E1 E4 E43)), hP⟩
 obtain ⟨rfl, X1, E1, hP⟩ := hI
 try dsimp only at h
 refine w_assoc ?_
 refine w_sa (fun e s => Bx σ s i1 39 (ref04_Expr_A0 a0) ∧ e 1 = (.pt i1 0) ∧ e 81 = (.v (.bool (((!decide (((List.length a0.args : Nat) : Int) = (1 : Int))) || (!decide (a0.name = (⟨#[]⟩ : ByteArray)))) || ((!decide (a0.d = (0 : Int))) && (!decide (a0.kind = (5 : Int))))))) ∧ Pre σ s) ?_ fun e s hI => ?_
 ·cases hb31 : (!decide (((List.length a0.args : Nat) : Int) = (1 : Int)))
  ·cases hb32 : (!decide (a0.name = (⟨#[]⟩ : ByteArray)))
   ·cases hb33 : (!decide (a0.d = (0 : Int)))
    ·refine w_x (cj6 E1 X1.get hb31 hb32 hb33 TT) (k := ?_)
     have q6 := cj6 E1 X1.get hb31 hb32 hb33 TT
     exact cw_n ⟨_, WkE.refl _, X1, (xv q6), (xv q6), hP⟩
    ·refine w_x (cj6 E1 X1.get hb31 hb32 hb33 TT) (k := ?_)
     have q7 := cj6 E1 X1.get hb31 hb32 hb33 TT
     exact cw_n ⟨_, WkE.refl _, X1, (xv q7), (xv q7), hP⟩
   ·refine w_x (cj5 E1 X1.get hb31 hb32 TT) (k := ?_)
    exact cw_n ⟨_, WkE.refl _, X1, (xv (cj5 E1 X1.get hb31 hb32 TT)), (xv (cj5 E1 X1.get hb31 hb32 TT)), hP⟩
  ·refine w_x (cj4 E1 X1.get hb31 TT) (k := ?_)
   exact cw_n ⟨_, WkE.refl _, X1, (xv (cj4 E1 X1.get hb31 TT)), (xv (cj4 E1 X1.get hb31 TT)), hP⟩
 obtain ⟨X1, E1, E81, hP⟩ := hI
 refine w_seq ?_
 rcases ite_some h with ⟨hb34, h⟩ | ⟨hb34, h⟩
 ·refine xt (cj3 E1 E81 hb34) ?_
  refine w_sa (fun e s => e 2 = (.v (.bool false)) ∧ Pre σ s) ?_ fun e s hI => ?_
  ·refine w_x (cj4 E1 E81 X1.get TT) (k := ?_)
   exact cw_n ⟨_, WkE.refl _, (xv (cj4 E1 E81 X1.get TT)), hP⟩
  obtain ⟨E2, hP⟩ := hI
  refine w_ret ?_
  refine w_sqr ?_
  obtain rfl := some_inj h
  exact w_fin (fun _ => rfl) (xr (rs := #[.tmp 2]) E2) hP (r' := (.v (.bool false))) (.refl _) (.v _) hK
 ·refine xf (cj3 E1 E81 hb34) ?_
  refine w_skip ?_
  refine w_sq ?_
  refine w_assoc ?_
  refine w_sa (fun e s => Bx σ s i1 39 (ref04_Expr_A0 a0) ∧ e 1 = (.pt i1 0) ∧ e 83 = (.v (.int .i64 a0.kind)) ∧ Pre σ s) ?_ fun e s hI => ?_
  ·refine w_x (cj4 E1 E81 X1.get TT) (k := ?_)
   exact cw_n ⟨_, WkE.refl _, X1, (xv (cj4 E1 E81 X1.get TT)), (xv (cj4 E1 E81 X1.get TT)), hP⟩
  obtain ⟨X1, E1, E83, hP⟩ := hI
  obtain ⟨x35, h36, h⟩ := bnd_some h
  refine w_sa (fun e s => .inr () = x35 ∧ Bx σ s i1 39 (ref04_Expr_A0 a0) ∧ e 1 = (.pt i1 0) ∧ Pre σ s) ?_ fun e s hI => ?_
  ·refine w_block ?_
   refine w_assoc ?_
   refine w_sa (fun e s => Bx σ s i1 39 (ref04_Expr_A0 a0) ∧ e 1 = (.pt i1 0) ∧ e 83 = (.v (.int .i64 a0.kind)) ∧ e 84 = (.v (.bool (decide (a0.kind = (3 : Int))))) ∧ Pre σ s) ?_ fun e s hI => ?_
   ·refine w_x (cj4 E1 E83 X1.get TT) (k := ?_)
    have q8 := cj4 E1 E83 X1.get TT
    exact cw_n ⟨_, WkE.refl _, X1, (xv q8), (xv q8), (xv q8), hP⟩
   obtain ⟨X1, E1, E83, E84, hP⟩ := hI
   obtain ⟨x37, h38, h36⟩ := bnd_some h36
   refine w_sa (fun e s => ∃ v84_39 : Bool, v84_39 = x37 ∧ Bx σ s i1 39 (ref04_Expr_A0 a0) ∧ e 1 = (.pt i1 0) ∧ e 83 = (.v (.int .i64 a0.kind)) ∧ e 84 = (.v (.bool v84_39)) ∧ Pre σ s) ?_ fun e s hI => ?_
   ·rcases ite_some h38 with ⟨hb40, h38⟩ | ⟨hb40, h38⟩
    ·refine xt (cj4 E1 E83 E84 hb40) ?_
     refine w_skip ?_
     obtain rfl := some_inj h38
     have q9 := cj3 E1 E83 E84
     exact cw_n ⟨_, WkE.refl _, _, rfl, X1, (xv q9), (xv q9), (xv q9), hP⟩
    ·refine xf (cj4 E1 E83 E84 hb40) ?_
     refine w_x (cj5 E1 E83 E84 X1.get TT) (k := ?_)
     obtain rfl := some_inj h38
     have q10 := cj5 E1 E83 E84 X1.get TT
     exact cw_n ⟨_, WkE.refl _, _, rfl, X1, (xv q10), (xv q10), (xv q10), hP⟩
   obtain ⟨v84_39, rfl, X1, E1, E83, E84, hP⟩ := hI
   try dsimp only at h36
   rcases ite_some h36 with ⟨hb41, h36⟩ | ⟨hb41, h36⟩
   ·refine xt (cj4 E1 E83 E84 hb41) ?_
    obtain ⟨y42, h43, h36⟩ := bnd_some h36
    refine w_sa (fun e s => e 2 = (.v (.bool y42)) ∧ Pre σ s) ?_ fun e s hI => ?_
    ·refine w_x (cj5 E1 E83 E84 X1.get TT) (k := ?_)
     refine EC.wka (.cons (.refl _) (.cons (.refl _) (.cons (.refl _) .nil))) (S_ref04_number _ _ _ _ h43 _ _  ?_)
     refine w_y (cj5 E1 E83 E84 X1.get TT) (k := ?_)
     exact cw_n ⟨_, WkE.refl _, (xv (cj5 E1 E83 E84 X1.get TT)), hP⟩
    obtain ⟨E2, hP⟩ := hI
    refine w_ret ?_
    refine w_bkr ?_
    obtain rfl := some_inj h36
    refine cw_r ?_
    try dsimp only at h
    obtain rfl := some_inj h
    exact w_fin (fun _ => rfl) (xr (rs := #[.tmp 2]) E2) hP (r' := (.v (.bool y42))) (.refl _) (.v _) hK
   ·refine xf (cj4 E1 E83 E84 hb41) ?_
    refine w_sa (fun e s => Bx σ s i1 39 (ref04_Expr_A0 a0) ∧ e 1 = (.pt i1 0) ∧ e 83 = (.v (.int .i64 a0.kind)) ∧ e 90 = (.v (.bool (decide (a0.kind = (5 : Int))))) ∧ Pre σ s) ?_ fun e s hI => ?_
    ·refine w_x (cj5 E1 E83 E84 X1.get TT) (k := ?_)
     have q11 := cj5 E1 E83 E84 X1.get TT
     exact cw_n ⟨_, WkE.refl _, X1, (xv q11), (xv q11), (xv q11), hP⟩
    obtain ⟨X1, E1, E83, E90, hP⟩ := hI
    rcases ite_some h36 with ⟨hb44, h36⟩ | ⟨hb44, h36⟩
    ·refine xt (cj4 E1 E83 E90 hb44) ?_
     obtain ⟨y45, h46, h36⟩ := bnd_some h36
     obtain ⟨w49, h50, h36⟩ := bnd_some h36
     refine w_sa (fun e s => e 2 = (.v (.bool (y45 && w49))) ∧ Pre σ s) ?_ fun e s hI => ?_
     ·cases hb51 : y45
      ·replace h50 := ite_f (by simp only [hb51, Bool.or_true, Bool.true_or, Bool.or_false, Bool.false_or, Bool.and_true, Bool.true_and, Bool.and_false, Bool.false_and, Bool.not_true, Bool.not_false, cond_true, cond_false]) h50
       obtain rfl := some_inj h50
       refine w_x (cj6 E1 E83 E90 X1.get hb51 TT) (k := ?_)
       refine EC.wka (.cons (.refl _) (.cons (.refl _) (.cons (.refl _) .nil))) (S_ref04_number _ _ _ _ h46 _ _  ?_)
       refine w_y (cj6 E1 E83 E90 X1.get hb51 TT) (k := ?_)
       exact cw_n ⟨_, WkE.refl _, (xv (cj6 E1 E83 E90 X1.get hb51 TT)), hP⟩
      ·replace h50 := ite_t (by simp only [hb51, Bool.or_true, Bool.true_or, Bool.or_false, Bool.false_or, Bool.and_true, Bool.true_and, Bool.and_false, Bool.false_and, Bool.not_true, Bool.not_false, cond_true, cond_false]) h50
       obtain ⟨y47, h48, h50⟩ := bnd_some h50
       obtain rfl := some_inj h50
       refine w_x (cj6 E1 E83 E90 X1.get hb51 TT) (k := ?_)
       refine EC.wka (.cons (.refl _) (.cons (.refl _) (.cons (.refl _) .nil))) (S_ref04_number _ _ _ _ h46 _ _  ?_)
       refine w_y (cj6 E1 E83 E90 X1.get hb51 TT) (k := ?_)
       refine EC.wka (.cons (.refl _) (.cons (.refl _) (.cons (.refl _) .nil))) (S_ref04_number _ _ _ _ h48 _ _  ?_)
       refine w_y (cj6 E1 E83 E90 X1.get hb51 TT) (k := ?_)
       exact cw_n ⟨_, WkE.refl _, (xv (cj6 E1 E83 E90 X1.get hb51 TT)), hP⟩
     obtain ⟨E2, hP⟩ := hI
     refine w_ret ?_
     refine w_bkr ?_
     obtain rfl := some_inj h36
     refine cw_r ?_
     try dsimp only at h
     obtain rfl := some_inj h
     exact w_fin (fun _ => rfl) (xr (rs := #[.tmp 2]) E2) hP (r' := (.v (.bool (y45 && w49)))) (.refl _) (.v _) hK
    ·refine xf (cj4 E1 E83 E90 hb44) ?_
     refine w_assoc ?_
     refine w_sa (fun e s => Bx σ s i1 39 (ref04_Expr_A0 a0) ∧ e 1 = (.pt i1 0) ∧ e 83 = (.v (.int .i64 a0.kind)) ∧ e 100 = (.v (.bool (decide (a0.kind = (6 : Int))))) ∧ Pre σ s) ?_ fun e s hI => ?_
     ·refine w_x (cj5 E1 E83 E90 X1.get TT) (k := ?_)
      have q12 := cj5 E1 E83 E90 X1.get TT
      exact cw_n ⟨_, WkE.refl _, X1, (xv q12), (xv q12), (xv q12), hP⟩
     obtain ⟨X1, E1, E83, E100, hP⟩ := hI
     obtain ⟨x52, h53, h36⟩ := bnd_some h36
     refine w_sa (fun e s => ∃ v100_54 : Bool, v100_54 = x52 ∧ Bx σ s i1 39 (ref04_Expr_A0 a0) ∧ e 1 = (.pt i1 0) ∧ e 100 = (.v (.bool v100_54)) ∧ Pre σ s) ?_ fun e s hI => ?_
     ·rcases ite_some h53 with ⟨hb55, h53⟩ | ⟨hb55, h53⟩
      ·refine xt (cj4 E1 E83 E100 hb55) ?_
       refine w_skip ?_
       obtain rfl := some_inj h53
       exact cw_n ⟨_, WkE.refl _, _, rfl, X1, (xv (cj3 E1 E83 E100)), (xv (cj3 E1 E83 E100)), hP⟩
      ·refine xf (cj4 E1 E83 E100 hb55) ?_
       refine w_x (cj5 E1 E83 E100 X1.get TT) (k := ?_)
       obtain rfl := some_inj h53
       exact cw_n ⟨_, WkE.refl _, _, rfl, X1, (xv (cj5 E1 E83 E100 X1.get TT)), (xv (cj5 E1 E83 E100 X1.get TT)), hP⟩
     obtain ⟨v100_54, rfl, X1, E1, E100, hP⟩ := hI
     try dsimp only at h36
     rcases ite_some h36 with ⟨hb56, h36⟩ | ⟨hb56, h36⟩
     ·refine xt (cj3 E1 E100 hb56) ?_
      obtain ⟨y57, h58, h36⟩ := bnd_some h36
      refine w_sa (fun e s => e 2 = (.v (.bool y57)) ∧ Pre σ s) ?_ fun e s hI => ?_
      ·refine w_x (cj4 E1 E100 X1.get TT) (k := ?_)
       refine EC.wka (.cons (.refl _) (.cons (.refl _) (.cons (.refl _) .nil))) (S_ref04_number _ _ _ _ h58 _ _  ?_)
       refine w_y (cj4 E1 E100 X1.get TT) (k := ?_)
       exact cw_n ⟨_, WkE.refl _, (xv (cj4 E1 E100 X1.get TT)), hP⟩
      obtain ⟨E2, hP⟩ := hI
      refine w_ret ?_
      refine w_bkr ?_
      obtain rfl := some_inj h36
      refine cw_r ?_
      try dsimp only at h
      obtain rfl := some_inj h
      exact w_fin (fun _ => rfl) (xr (rs := #[.tmp 2]) E2) hP (r' := (.v (.bool y57))) (.refl _) (.v _) hK
     ·refine xf (cj3 E1 E100 hb56) ?_
      refine w_skip ?_
      refine w_bk ?_
      obtain rfl := some_inj h36
      exact cw_n ⟨_, WkE.refl _, rfl, X1, (xv (cj2 E1 E100)), hP⟩
  obtain ⟨rfl, X1, E1, hP⟩ := hI
  try dsimp only at h
  refine w_sa (fun e s => e 2 = (.v (.bool ((decide (a0.kind = (7 : Int))) && (decide (a0.n = (0 : Int)))))) ∧ Pre σ s) ?_ fun e s hI => ?_
  ·cases hb59 : (decide (a0.kind = (7 : Int)))
   ·refine w_x (cj4 E1 X1.get hb59 TT) (k := ?_)
    exact cw_n ⟨_, WkE.refl _, (xv (cj4 E1 X1.get hb59 TT)), hP⟩
   ·refine w_x (cj4 E1 X1.get hb59 TT) (k := ?_)
    exact cw_n ⟨_, WkE.refl _, (xv (cj4 E1 X1.get hb59 TT)), hP⟩
  obtain ⟨E2, hP⟩ := hI
  refine w_ret ?_
  obtain rfl := some_inj h
  exact w_fin (fun _ => rfl) (xr (rs := #[.tmp 2]) E2) hP (r' := (.v (.bool ((decide (a0.kind = (7 : Int))) && (decide (a0.n = (0 : Int))))))) (.refl _) (.v _) hK
end Go.Proofs.Ytohmmfimedgccaa.E
end
section
namespace Go.Proofs.Ytohmmfimedgccaa.E
set_option maxRecDepth 100000
set_option maxHeartbeats 4000000
set_option linter.unusedVariables false
set_option linter.unusedSimpArgs false
noncomputable def ref04_Right_L4 (a0 : Program) (f_ref03_Right : ByteArray → Option Bool) (f_ref04_number : Int → Int → Int → Option Bool) : Int → Option (Int ⊕ (Bool ⊕ Unit))
 | v10_116 =>
  if (decide (v10_116 < ((List.length a0.outputs : Nat) : Int))) then
   ((getI a0.outputs v10_116).bind fun y122 =>
   (f_ref03_Right y122.name).bind fun y125 =>
   (if (!y125) then
    some false
   else
    (f_ref03_Right y122.flow).bind fun y127 =>
    some (!y127)).bind fun w129 =>
   (if ((!y125) || w129) then
    some false
   else
    (f_ref04_number y122.deadline (1 : Int) (1000 : Int)).bind fun y131 =>
    some (!y131)).bind fun w133 =>
   if (((!y125) || w129) || w133) then
    some (.inl false)
   else
    some (.inr ()) : Option (Bool ⊕ Unit)).bind fun x => match x with
   | .inl r => some (.inr (.inl r))
   | .inr _ =>
    some (.inl (IntKind.i64.wrap (v10_116 + (1 : Int))))
  else
   some (.inr (.inr ()))
noncomputable def ref04_Right_L3 (a0 : Program) (f_ref03_Right : ByteArray → Option Bool) (f_ref04_Depth : Expr → Int → Option Int) (f_ref04_Expr : Expr → Option Bool) (f_ref04_Size : Expr → Int → Option Int) : Int → Option (Int ⊕ (Bool ⊕ Unit))
 | v8_85 =>
  if (decide (v8_85 < ((List.length a0.flows : Nat) : Int))) then
   ((getI a0.flows v8_85).bind fun y91 =>
   (f_ref03_Right y91.name).bind fun y94 =>
   (if (!y94) then
    some false
   else
    (f_ref04_Size y91.e (100 : Int)).bind fun y96 =>
    some (decide ((100 : Int) < y96))).bind fun w98 =>
   (if ((!y94) || w98) then
    some false
   else
    (f_ref04_Depth y91.e (30 : Int)).bind fun y100 =>
    some (decide ((20 : Int) < y100))).bind fun w102 =>
   (if (((!y94) || w98) || w102) then
    some false
   else
    (f_ref04_Expr y91.e).bind fun y104 =>
    some (!y104)).bind fun w106 =>
   if ((((!y94) || w98) || w102) || w106) then
    some (.inl false)
   else
    some (.inr ()) : Option (Bool ⊕ Unit)).bind fun x => match x with
   | .inl r => some (.inr (.inl r))
   | .inr _ =>
    some (.inl (IntKind.i64.wrap (v8_85 + (1 : Int))))
  else
   some (.inr (.inr ()))
noncomputable def ref04_Right_L2 (a0 : Program) (f_ref03_Right : ByteArray → Option Bool) (f_ref04_number : Int → Int → Int → Option Bool) : Int → Option (Int ⊕ (Bool ⊕ Unit))
 | v6_59 =>
  if (decide (v6_59 < ((List.length a0.inputs : Nat) : Int))) then
   ((getI a0.inputs v6_59).bind fun y65 =>
   (f_ref03_Right y65.name).bind fun y68 =>
   (if (!y68) then
    some false
   else
    (f_ref04_number y65.period (1 : Int) (1000 : Int)).bind fun y70 =>
    some (!y70)).bind fun w72 =>
   (if ((!y68) || w72) then
    some false
   else
    (f_ref04_number y65.phase (0 : Int) (1000 : Int)).bind fun y74 =>
    some (!y74)).bind fun w76 =>
   if (((!y68) || w72) || w76) then
    some (.inl false)
   else
    some (.inr ()) : Option (Bool ⊕ Unit)).bind fun x => match x with
   | .inl r => some (.inr (.inl r))
   | .inr _ =>
    some (.inl (IntKind.i64.wrap (v6_59 + (1 : Int))))
  else
   some (.inr (.inr ()))
noncomputable def ref04_Right_L1 (y10 : Node) (f_ref03_Right : ByteArray → Option Bool) : Int → Option (Int ⊕ (Bool ⊕ Unit))
 | v5_41 =>
  if (decide (v5_41 < ((List.length y10.params : Nat) : Int))) then
   ((getI y10.params v5_41).bind fun y47 =>
   (f_ref03_Right y47).bind fun y49 =>
   if (!y49) then
    some (.inl false)
   else
    some (.inr ()) : Option (Bool ⊕ Unit)).bind fun x => match x with
   | .inl r => some (.inr (.inl r))
   | .inr _ =>
    some (.inl (IntKind.i64.wrap (v5_41 + (1 : Int))))
  else
   some (.inr (.inr ()))
noncomputable def ref04_Right_L0 (a0 : Program) (f_ref03_Right : ByteArray → Option Bool) (f_ref04_Body : Expr → Option Bool) (f_ref04_Depth : Expr → Int → Option Int) (f_ref04_Size : Expr → Int → Option Int) (f_ref04_number : Int → Int → Int → Option Bool) : Int → Option (Int ⊕ (Bool ⊕ Unit))
 | v3_4 =>
  if (decide (v3_4 < ((List.length a0.nodes : Nat) : Int))) then
   ((getI a0.nodes v3_4).bind fun y10 =>
   (f_ref03_Right y10.name).bind fun y13 =>
   (if (((!y13) || (decide (((List.length y10.params : Nat) : Int) < (1 : Int)))) || (decide ((6 : Int) < ((List.length y10.params : Nat) : Int)))) then
    some false
   else
    (f_ref04_number y10.budget (1 : Int) (1000 : Int)).bind fun y15 =>
    some (!y15)).bind fun w17 =>
   (if ((((!y13) || (decide (((List.length y10.params : Nat) : Int) < (1 : Int)))) || (decide ((6 : Int) < ((List.length y10.params : Nat) : Int)))) || w17) then
    some false
   else
    (f_ref04_Size y10.body (100 : Int)).bind fun y19 =>
    some (decide ((100 : Int) < y19))).bind fun w21 =>
   (if (((((!y13) || (decide (((List.length y10.params : Nat) : Int) < (1 : Int)))) || (decide ((6 : Int) < ((List.length y10.params : Nat) : Int)))) || w17) || w21) then
    some false
   else
    (f_ref04_Depth y10.body (30 : Int)).bind fun y23 =>
    some (decide ((20 : Int) < y23))).bind fun w25 =>
   (if ((((((!y13) || (decide (((List.length y10.params : Nat) : Int) < (1 : Int)))) || (decide ((6 : Int) < ((List.length y10.params : Nat) : Int)))) || w17) || w21) || w25) then
    some false
   else
    (f_ref04_Body y10.body).bind fun y27 =>
    some (!y27)).bind fun w29 =>
   if (((((((!y13) || (decide (((List.length y10.params : Nat) : Int) < (1 : Int)))) || (decide ((6 : Int) < ((List.length y10.params : Nat) : Int)))) || w17) || w21) || w25) || w29) then
    some (.inl false)
   else
    (iterO (ref04_Right_L1 y10 f_ref03_Right) (0 : Int) : Option (Bool ⊕ Unit)).bind fun x => match x with
    | .inl r => some (.inl r)
    | .inr _ =>
     some (.inr ()) : Option (Bool ⊕ Unit)).bind fun x => match x with
   | .inl r => some (.inr (.inl r))
   | .inr _ =>
    some (.inl (IntKind.i64.wrap (v3_4 + (1 : Int))))
  else
   some (.inr (.inr ()))
noncomputable def B_ref04_Right (f_ref03_Right : ByteArray → Option Bool) (f_ref04_number : Int → Int → Int → Option Bool) (f_ref04_Size : Expr → Int → Option Int) (f_ref04_Depth : Expr → Int → Option Int) (f_ref04_Body : Expr → Option Bool) (f_ref04_Expr : Expr → Option Bool) (a0 : Program) : Option Bool :=
 if (decide ((40 : Int) < (IntKind.i64.wrap ((IntKind.i64.wrap ((IntKind.i64.wrap (((List.length a0.nodes : Nat) : Int) + ((List.length a0.inputs : Nat) : Int))) + ((List.length a0.flows : Nat) : Int))) + ((List.length a0.outputs : Nat) : Int))))) then
  some false
 else
  (iterO (ref04_Right_L0 a0 f_ref03_Right f_ref04_Body f_ref04_Depth f_ref04_Size f_ref04_number) (0 : Int) : Option (Bool ⊕ Unit)).bind fun x => match x with
  | .inl r => some r
  | .inr _ =>
   (iterO (ref04_Right_L2 a0 f_ref03_Right f_ref04_number) (0 : Int) : Option (Bool ⊕ Unit)).bind fun x => match x with
   | .inl r => some r
   | .inr _ =>
    (iterO (ref04_Right_L3 a0 f_ref03_Right f_ref04_Depth f_ref04_Expr f_ref04_Size) (0 : Int) : Option (Bool ⊕ Unit)).bind fun x => match x with
    | .inl r => some r
    | .inr _ =>
     (iterO (ref04_Right_L4 a0 f_ref03_Right f_ref04_number) (0 : Int) : Option (Bool ⊕ Unit)).bind fun x => match x with
     | .inl r => some r
     | .inr _ =>
      some true
abbrev ref04_Right_A0 (a0 : Program) : List PV := [(.sl (List.map Node.cl a0.nodes)), (.sl (List.map Input.cl a0.inputs)), (.sl (List.map Flow.cl a0.flows)), (.sl (List.map Output.cl a0.outputs))]
theorem W_ref04_Right (f_ref03_Right : ByteArray → Option Bool) (f_ref04_number : Int → Int → Int → Option Bool) (f_ref04_Size : Expr → Int → Option Int) (f_ref04_Depth : Expr → Int → Option Int) (f_ref04_Body : Expr → Option Bool) (f_ref04_Expr : Expr → Option Bool) (S_ref03_Right : Sat_ref03_Right f_ref03_Right) (S_ref04_number : Sat_ref04_number f_ref04_number) (S_ref04_Size : Sat_ref04_Size f_ref04_Size) (S_ref04_Depth : Sat_ref04_Depth f_ref04_Depth) (S_ref04_Body : Sat_ref04_Body f_ref04_Body) (S_ref04_Expr : Sat_ref04_Expr f_ref04_Expr) : Sat_ref04_Right (B_ref04_Right f_ref03_Right f_ref04_number f_ref04_Size f_ref04_Depth f_ref04_Body f_ref04_Expr) := by
 intro a0 r h σ K hK
 refine w_fp Try.func10 rfl rfl (by kernel_rfl) ?_
 unfold B_ref04_Right at h
 have hP := Pre.refl σ
 have E0 : argE [(.ag (ref04_Right_A0 a0))] 0 = (.ag (ref04_Right_A0 a0)) := rfl
 have TT := cj16 Expr.rlen T_2 T_22 T_23 T_24 T_25 T_27 T_3 T_37 T_39 T_41 T_65 T_9 T_96 T_97 T_99
 refine w_sa (fun e s => ∃ i1 : Nat, Bx σ s i1 27 (ref04_Right_A0 a0) ∧ e 1 = (.pt i1 0) ∧ Pre σ s) ?_ fun e s hI => ?_
 ·refine w_x (cj2 E0 TT) (k := ?_)
  exact cw_n ⟨_, WkE.refl _, σ.length, (Bx.new hP 27 (ref04_Right_A0 a0)), (xv (cj2 E0 TT)), (hP.app _)⟩
 obtain ⟨i1, X1, E1, hP⟩ := hI
 refine w_assoc ?_
 refine w_sa (fun e s => Bx σ s i1 27 (ref04_Right_A0 a0) ∧ e 1 = (.pt i1 0) ∧ e 27 = (.v (.bool (decide ((40 : Int) < (IntKind.i64.wrap ((IntKind.i64.wrap ((IntKind.i64.wrap (((List.length a0.nodes : Nat) : Int) + ((List.length a0.inputs : Nat) : Int))) + ((List.length a0.flows : Nat) : Int))) + ((List.length a0.outputs : Nat) : Int))))))) ∧ Pre σ s) ?_ fun e s hI => ?_
 ·refine w_x (cj3 E1 X1.get TT) (k := ?_)
  exact cw_n ⟨_, WkE.refl _, X1, (xv (cj3 E1 X1.get TT)), (xv (cj3 E1 X1.get TT)), hP⟩
 obtain ⟨X1, E1, E27, hP⟩ := hI
 refine w_seq ?_
 rcases ite_some h with ⟨hb1, h⟩ | ⟨hb1, h⟩
 ·refine xt (cj3 E1 E27 hb1) ?_
  refine w_sa (fun e s => e 2 = (.v (.bool false)) ∧ Pre σ s) ?_ fun e s hI => ?_
  ·refine w_x (cj4 E1 E27 X1.get TT) (k := ?_)
   exact cw_n ⟨_, WkE.refl _, (xv (cj4 E1 E27 X1.get TT)), hP⟩
  obtain ⟨E2, hP⟩ := hI
  refine w_ret ?_
  refine w_sqr ?_
  obtain rfl := some_inj h
  exact w_fin (fun _ => rfl) (xr (rs := #[.tmp 2]) E2) hP (r' := (.v (.bool false))) (.refl _) (.v _) hK
 ·refine xf (cj3 E1 E27 hb1) ?_
  refine w_skip ?_
  refine w_sq ?_
  refine w_assoc ?_
  refine w_sa (fun e s => Bx σ s i1 27 (ref04_Right_A0 a0) ∧ e 1 = (.pt i1 0) ∧ e 3 = (.v (.int .i64 (0 : Int))) ∧ Pre σ s) ?_ fun e s hI => ?_
  ·refine w_x (cj4 E1 E27 X1.get TT) (k := ?_)
   exact cw_n ⟨_, WkE.refl _, X1, (xv (cj4 E1 E27 X1.get TT)), (xv (cj4 E1 E27 X1.get TT)), hP⟩
  obtain ⟨X1, E1, E3, hP⟩ := hI
  obtain ⟨x2, h3, h⟩ := bnd_some h
  refine w_sa (fun e s => .inr () = x2 ∧ Bx σ s i1 27 (ref04_Right_A0 a0) ∧ e 1 = (.pt i1 0) ∧ Pre σ s) ?_ fun e s hI => ?_
  ·refine w_block ?_
   refine w_iter h3 (fun v e s => ∃ v3_4 : Int, v3_4 = v ∧ Bx σ s i1 27 (ref04_Right_A0 a0) ∧ e 1 = (.pt i1 0) ∧ e 3 = (.v (.int .i64 v3_4)) ∧ Pre σ s) ⟨_, WkE.refl _, _, rfl, X1, (xv (cj2 E1 E3)), (xv (cj2 E1 E3)), hP⟩ fun v x5 e s hf6 hI => ?_
   obtain ⟨v3_4, rfl, X1, E1, E3, hP⟩ := hI
   unfold ref04_Right_L0 at hf6
   try dsimp only at hf6
   refine w_assoc ?_
   refine w_sa (fun e s => Bx σ s i1 27 (ref04_Right_A0 a0) ∧ e 1 = (.pt i1 0) ∧ e 3 = (.v (.int .i64 v3_4)) ∧ e 32 = (.v (.bool (decide (v3_4 < ((List.length a0.nodes : Nat) : Int))))) ∧ Pre σ s) ?_ fun e s hI => ?_
   ·refine w_x (cj4 E1 E3 X1.get TT) (k := ?_)
    have q1 := cj4 E1 E3 X1.get TT
    exact cw_n ⟨_, WkE.refl _, X1, (xv q1), (xv q1), (xv q1), hP⟩
   obtain ⟨X1, E1, E3, E32, hP⟩ := hI
   refine w_seq ?_
   rcases ite_some hf6 with ⟨hb7, hf6⟩ | ⟨hb7, hf6⟩
   ·refine xt (cj4 E1 E3 E32 hb7) ?_
    refine w_skip ?_
    refine w_sq ?_
    obtain ⟨x8, h9, hf6⟩ := bnd_some hf6
    refine w_sa (fun e s => .inr () = x8 ∧ Bx σ s i1 27 (ref04_Right_A0 a0) ∧ e 1 = (.pt i1 0) ∧ e 3 = (.v (.int .i64 v3_4)) ∧ Pre σ s) ?_ fun e s hI => ?_
    ·refine w_block ?_
     obtain ⟨y10, h11, h9⟩ := bnd_some h9
     refine w_sa (fun e s => ∃ i4 : Nat, Bx σ s i1 27 (ref04_Right_A0 a0) ∧ Bx σ s i4 99 [(.v (.string y10.name)), (.sl (List.map C_s y10.params)), (.v (.int .i64 y10.budget)), (.v (.int .i64 y10.body.kind)), (.v (.string y10.body.name)), (.v (.int .i64 y10.body.n)), (.v (.int .i64 y10.body.d)), (.sl (Expr.rows y10.body.args)), (.v (.int .i64 y10.body.at_)), (.v (.int .i64 y10.at_))] ∧ e 1 = (.pt i1 0) ∧ e 3 = (.v (.int .i64 v3_4)) ∧ e 4 = (.pt i4 0) ∧ Pre σ s) ?_ fun e s hI => ?_
     ·have R12 : (List.map Node.cl a0.nodes)[(v3_4).toNat]? = some [(.v (.string y10.name)), (.sl (List.map C_s y10.params)), (.v (.int .i64 y10.budget)), (.v (.int .i64 y10.body.kind)), (.v (.string y10.body.name)), (.v (.int .i64 y10.body.n)), (.v (.int .i64 y10.body.d)), (.sl (Expr.rows y10.body.args)), (.v (.int .i64 y10.body.at_)), (.v (.int .i64 y10.at_))] := map_get (getI_some h11).2
      refine w_x (cj9 E1 E3 E32 X1.get X1.any X1.any2 R12 (getI_some h11).1 TT) (k := ?_)
      have q2 := cj9 E1 E3 E32 X1.get X1.any X1.any2 R12 (getI_some h11).1 TT
      exact cw_n ⟨_, WkE.refl _, s.length, (X1.app [some (AObj.box 99 [(.v (.string y10.name)), (.sl (List.map C_s y10.params)), (.v (.int .i64 y10.budget)), (.v (.int .i64 y10.body.kind)), (.v (.string y10.body.name)), (.v (.int .i64 y10.body.n)), (.v (.int .i64 y10.body.d)), (.sl (Expr.rows y10.body.args)), (.v (.int .i64 y10.body.at_)), (.v (.int .i64 y10.at_))])]), (Bx.new hP 99 [(.v (.string y10.name)), (.sl (List.map C_s y10.params)), (.v (.int .i64 y10.budget)), (.v (.int .i64 y10.body.kind)), (.v (.string y10.body.name)), (.v (.int .i64 y10.body.n)), (.v (.int .i64 y10.body.d)), (.sl (Expr.rows y10.body.args)), (.v (.int .i64 y10.body.at_)), (.v (.int .i64 y10.at_))]), (xv q2), (xv q2), (xv q2), (hP.app _)⟩
     obtain ⟨i4, X1, X4, E1, E3, E4, hP⟩ := hI
     refine w_assoc ?_
     obtain ⟨y13, h14, h9⟩ := bnd_some h9
     obtain ⟨w17, h18, h9⟩ := bnd_some h9
     obtain ⟨w21, h22, h9⟩ := bnd_some h9
     obtain ⟨w25, h26, h9⟩ := bnd_some h9
     obtain ⟨w29, h30, h9⟩ := bnd_some h9
     refine w_sa (fun e s => Bx σ s i1 27 (ref04_Right_A0 a0) ∧ Bx σ s i4 99 [(.v (.string y10.name)), (.sl (List.map C_s y10.params)), (.v (.int .i64 y10.budget)), (.v (.int .i64 y10.body.kind)), (.v (.string y10.body.name)), (.v (.int .i64 y10.body.n)), (.v (.int .i64 y10.body.d)), (.sl (Expr.rows y10.body.args)), (.v (.int .i64 y10.body.at_)), (.v (.int .i64 y10.at_))] ∧ e 1 = (.pt i1 0) ∧ e 3 = (.v (.int .i64 v3_4)) ∧ e 4 = (.pt i4 0) ∧ e 79 = (.v (.bool (((((((!y13) || (decide (((List.length y10.params : Nat) : Int) < (1 : Int)))) || (decide ((6 : Int) < ((List.length y10.params : Nat) : Int)))) || w17) || w21) || w25) || w29))) ∧ Pre σ s) ?_ fun e s hI => ?_
     ·cases hb31 : (!y13)
      ·cases hb32 : (decide (((List.length y10.params : Nat) : Int) < (1 : Int)))
       ·cases hb33 : (decide ((6 : Int) < ((List.length y10.params : Nat) : Int)))
        ·replace h18 := ite_f (by simp only [hb31, hb32, hb33, Bool.or_true, Bool.true_or, Bool.or_false, Bool.false_or, Bool.and_true, Bool.true_and, Bool.and_false, Bool.false_and, Bool.not_true, Bool.not_false, cond_true, cond_false]) h18
         obtain ⟨y15, h16, h18⟩ := bnd_some h18
         obtain rfl := some_inj h18
         cases hb34 : (!y15)
         ·replace h22 := ite_f (by simp only [hb31, hb32, hb33, hb34, Bool.or_true, Bool.true_or, Bool.or_false, Bool.false_or, Bool.and_true, Bool.true_and, Bool.and_false, Bool.false_and, Bool.not_true, Bool.not_false, cond_true, cond_false]) h22
          obtain ⟨y19, h20, h22⟩ := bnd_some h22
          obtain rfl := some_inj h22
          cases hb35 : (decide ((100 : Int) < y19))
          ·replace h26 := ite_f (by simp only [hb31, hb32, hb33, hb34, hb35, Bool.or_true, Bool.true_or, Bool.or_false, Bool.false_or, Bool.and_true, Bool.true_and, Bool.and_false, Bool.false_and, Bool.not_true, Bool.not_false, cond_true, cond_false]) h26
           obtain ⟨y23, h24, h26⟩ := bnd_some h26
           obtain rfl := some_inj h26
           cases hb36 : (decide ((20 : Int) < y23))
           ·replace h30 := ite_f (by simp only [hb31, hb32, hb33, hb34, hb35, hb36, Bool.or_true, Bool.true_or, Bool.or_false, Bool.false_or, Bool.and_true, Bool.true_and, Bool.and_false, Bool.false_and, Bool.not_true, Bool.not_false, cond_true, cond_false]) h30
            obtain ⟨y27, h28, h30⟩ := bnd_some h30
            obtain rfl := some_inj h30
            refine w_x (cj12 E1 E3 E4 X1.get X4.get hb31 hb32 hb33 hb34 hb35 hb36 TT) (k := ?_)
            refine EC.wka (.cons (.refl _) .nil) (S_ref03_Right _ _ h14 _ _  ?_)
            refine w_y (cj12 E1 E3 E4 X1.get X4.get hb31 hb32 hb33 hb34 hb35 hb36 TT) (k := ?_)
            refine EC.wka (.cons (.refl _) (.cons (.refl _) (.cons (.refl _) .nil))) (S_ref04_number _ _ _ _ h16 _ _  ?_)
            refine w_y (cj12 E1 E3 E4 X1.get X4.get hb31 hb32 hb33 hb34 hb35 hb36 TT) (k := ?_)
            refine EC.wka (.cons (.refl _) (.cons (.refl _) .nil)) (S_ref04_Size _ _ _ h20 _ _  ?_)
            refine w_y (cj12 E1 E3 E4 X1.get X4.get hb31 hb32 hb33 hb34 hb35 hb36 TT) (k := ?_)
            refine EC.wka (.cons (.refl _) (.cons (.refl _) .nil)) (S_ref04_Depth _ _ _ h24 _ _  ?_)
            refine w_y (cj12 E1 E3 E4 X1.get X4.get hb31 hb32 hb33 hb34 hb35 hb36 TT) (k := ?_)
            refine EC.wka (.cons (.refl _) .nil) (S_ref04_Body _ _ h28 _ _  ?_)
            refine w_y (cj12 E1 E3 E4 X1.get X4.get hb31 hb32 hb33 hb34 hb35 hb36 TT) (k := ?_)
            have q3 := cj12 E1 E3 E4 X1.get X4.get hb31 hb32 hb33 hb34 hb35 hb36 TT
            exact cw_n ⟨_, WkE.refl _, X1, X4, (xv q3), (xv q3), (xv q3), (xv q3), hP⟩
           ·replace h30 := ite_t (by simp only [hb31, hb32, hb33, hb34, hb35, hb36, Bool.or_true, Bool.true_or, Bool.or_false, Bool.false_or, Bool.and_true, Bool.true_and, Bool.and_false, Bool.false_and, Bool.not_true, Bool.not_false, cond_true, cond_false]) h30
            obtain rfl := some_inj h30
            refine w_x (cj12 E1 E3 E4 X1.get X4.get hb31 hb32 hb33 hb34 hb35 hb36 TT) (k := ?_)
            refine EC.wka (.cons (.refl _) .nil) (S_ref03_Right _ _ h14 _ _  ?_)
            refine w_y (cj12 E1 E3 E4 X1.get X4.get hb31 hb32 hb33 hb34 hb35 hb36 TT) (k := ?_)
            refine EC.wka (.cons (.refl _) (.cons (.refl _) (.cons (.refl _) .nil))) (S_ref04_number _ _ _ _ h16 _ _  ?_)
            refine w_y (cj12 E1 E3 E4 X1.get X4.get hb31 hb32 hb33 hb34 hb35 hb36 TT) (k := ?_)
            refine EC.wka (.cons (.refl _) (.cons (.refl _) .nil)) (S_ref04_Size _ _ _ h20 _ _  ?_)
            refine w_y (cj12 E1 E3 E4 X1.get X4.get hb31 hb32 hb33 hb34 hb35 hb36 TT) (k := ?_)
            refine EC.wka (.cons (.refl _) (.cons (.refl _) .nil)) (S_ref04_Depth _ _ _ h24 _ _  ?_)
            refine w_y (cj12 E1 E3 E4 X1.get X4.get hb31 hb32 hb33 hb34 hb35 hb36 TT) (k := ?_)
            have q4 := cj12 E1 E3 E4 X1.get X4.get hb31 hb32 hb33 hb34 hb35 hb36 TT
            exact cw_n ⟨_, WkE.refl _, X1, X4, (xv q4), (xv q4), (xv q4), (xv q4), hP⟩
          ·replace h26 := ite_t (by simp only [hb31, hb32, hb33, hb34, hb35, Bool.or_true, Bool.true_or, Bool.or_false, Bool.false_or, Bool.and_true, Bool.true_and, Bool.and_false, Bool.false_and, Bool.not_true, Bool.not_false, cond_true, cond_false]) h26
           obtain rfl := some_inj h26
           replace h30 := ite_t (by simp only [hb31, hb32, hb33, hb34, hb35, Bool.or_true, Bool.true_or, Bool.or_false, Bool.false_or, Bool.and_true, Bool.true_and, Bool.and_false, Bool.false_and, Bool.not_true, Bool.not_false, cond_true, cond_false]) h30
           obtain rfl := some_inj h30
           refine w_x (cj11 E1 E3 E4 X1.get X4.get hb31 hb32 hb33 hb34 hb35 TT) (k := ?_)
           refine EC.wka (.cons (.refl _) .nil) (S_ref03_Right _ _ h14 _ _  ?_)
           refine w_y (cj11 E1 E3 E4 X1.get X4.get hb31 hb32 hb33 hb34 hb35 TT) (k := ?_)
           refine EC.wka (.cons (.refl _) (.cons (.refl _) (.cons (.refl _) .nil))) (S_ref04_number _ _ _ _ h16 _ _  ?_)
           refine w_y (cj11 E1 E3 E4 X1.get X4.get hb31 hb32 hb33 hb34 hb35 TT) (k := ?_)
           refine EC.wka (.cons (.refl _) (.cons (.refl _) .nil)) (S_ref04_Size _ _ _ h20 _ _  ?_)
           refine w_y (cj11 E1 E3 E4 X1.get X4.get hb31 hb32 hb33 hb34 hb35 TT) (k := ?_)
           have q5 := cj11 E1 E3 E4 X1.get X4.get hb31 hb32 hb33 hb34 hb35 TT
           exact cw_n ⟨_, WkE.refl _, X1, X4, (xv q5), (xv q5), (xv q5), (xv q5), hP⟩
         ·replace h22 := ite_t (by simp only [hb31, hb32, hb33, hb34, Bool.or_true, Bool.true_or, Bool.or_false, Bool.false_or, Bool.and_true, Bool.true_and, Bool.and_false, Bool.false_and, Bool.not_true, Bool.not_false, cond_true, cond_false]) h22
          obtain rfl := some_inj h22
          replace h26 := ite_t (by simp only [hb31, hb32, hb33, hb34, Bool.or_true, Bool.true_or, Bool.or_false, Bool.false_or, Bool.and_true, Bool.true_and, Bool.and_false, Bool.false_and, Bool.not_true, Bool.not_false, cond_true, cond_false]) h26
          obtain rfl := some_inj h26
          replace h30 := ite_t (by simp only [hb31, hb32, hb33, hb34, Bool.or_true, Bool.true_or, Bool.or_false, Bool.false_or, Bool.and_true, Bool.true_and, Bool.and_false, Bool.false_and, Bool.not_true, Bool.not_false, cond_true, cond_false]) h30
          obtain rfl := some_inj h30
          refine w_x (cj10 E1 E3 E4 X1.get X4.get hb31 hb32 hb33 hb34 TT) (k := ?_)
          refine EC.wka (.cons (.refl _) .nil) (S_ref03_Right _ _ h14 _ _  ?_)
          refine w_y (cj10 E1 E3 E4 X1.get X4.get hb31 hb32 hb33 hb34 TT) (k := ?_)
          refine EC.wka (.cons (.refl _) (.cons (.refl _) (.cons (.refl _) .nil))) (S_ref04_number _ _ _ _ h16 _ _  ?_)
          refine w_y (cj10 E1 E3 E4 X1.get X4.get hb31 hb32 hb33 hb34 TT) (k := ?_)
          have q6 := cj10 E1 E3 E4 X1.get X4.get hb31 hb32 hb33 hb34 TT
          exact cw_n ⟨_, WkE.refl _, X1, X4, (xv q6), (xv q6), (xv q6), (xv q6), hP⟩
        ·replace h18 := ite_t (by simp only [hb31, hb32, hb33, Bool.or_true, Bool.true_or, Bool.or_false, Bool.false_or, Bool.and_true, Bool.true_and, Bool.and_false, Bool.false_and, Bool.not_true, Bool.not_false, cond_true, cond_false]) h18
         obtain rfl := some_inj h18
         replace h22 := ite_t (by simp only [hb31, hb32, hb33, Bool.or_true, Bool.true_or, Bool.or_false, Bool.false_or, Bool.and_true, Bool.true_and, Bool.and_false, Bool.false_and, Bool.not_true, Bool.not_false, cond_true, cond_false]) h22
         obtain rfl := some_inj h22
         replace h26 := ite_t (by simp only [hb31, hb32, hb33, Bool.or_true, Bool.true_or, Bool.or_false, Bool.false_or, Bool.and_true, Bool.true_and, Bool.and_false, Bool.false_and, Bool.not_true, Bool.not_false, cond_true, cond_false]) h26
         obtain rfl := some_inj h26
         replace h30 := ite_t (by simp only [hb31, hb32, hb33, Bool.or_true, Bool.true_or, Bool.or_false, Bool.false_or, Bool.and_true, Bool.true_and, Bool.and_false, Bool.false_and, Bool.not_true, Bool.not_false, cond_true, cond_false]) h30
         obtain rfl := some_inj h30
         refine w_x (cj9 E1 E3 E4 X1.get X4.get hb31 hb32 hb33 TT) (k := ?_)
         refine EC.wka (.cons (.refl _) .nil) (S_ref03_Right _ _ h14 _ _  ?_)
         refine w_y (cj9 E1 E3 E4 X1.get X4.get hb31 hb32 hb33 TT) (k := ?_)
         have q7 := cj9 E1 E3 E4 X1.get X4.get hb31 hb32 hb33 TT
         exact cw_n ⟨_, WkE.refl _, X1, X4, (xv q7), (xv q7), (xv q7), (xv q7), hP⟩
       ·replace h18 := ite_t (by simp only [hb31, hb32, Bool.or_true, Bool.true_or, Bool.or_false, Bool.false_or, Bool.and_true, Bool.true_and, Bool.and_false, Bool.false_and, Bool.not_true, Bool.not_false, cond_true, cond_false]) h18
        obtain rfl := some_inj h18
        replace h22 := ite_t (by simp only [hb31, hb32, Bool.or_true, Bool.true_or, Bool.or_false, Bool.false_or, Bool.and_true, Bool.true_and, Bool.and_false, Bool.false_and, Bool.not_true, Bool.not_false, cond_true, cond_false]) h22
        obtain rfl := some_inj h22
        replace h26 := ite_t (by simp only [hb31, hb32, Bool.or_true, Bool.true_or, Bool.or_false, Bool.false_or, Bool.and_true, Bool.true_and, Bool.and_false, Bool.false_and, Bool.not_true, Bool.not_false, cond_true, cond_false]) h26
        obtain rfl := some_inj h26
        replace h30 := ite_t (by simp only [hb31, hb32, Bool.or_true, Bool.true_or, Bool.or_false, Bool.false_or, Bool.and_true, Bool.true_and, Bool.and_false, Bool.false_and, Bool.not_true, Bool.not_false, cond_true, cond_false]) h30
        obtain rfl := some_inj h30
        refine w_x (cj8 E1 E3 E4 X1.get X4.get hb31 hb32 TT) (k := ?_)
        refine EC.wka (.cons (.refl _) .nil) (S_ref03_Right _ _ h14 _ _  ?_)
        refine w_y (cj8 E1 E3 E4 X1.get X4.get hb31 hb32 TT) (k := ?_)
        have q8 := cj8 E1 E3 E4 X1.get X4.get hb31 hb32 TT
        exact cw_n ⟨_, WkE.refl _, X1, X4, (xv q8), (xv q8), (xv q8), (xv q8), hP⟩
      ·replace h18 := ite_t (by simp only [hb31, Bool.or_true, Bool.true_or, Bool.or_false, Bool.false_or, Bool.and_true, Bool.true_and, Bool.and_false, Bool.false_and, Bool.not_true, Bool.not_false, cond_true, cond_false]) h18
       obtain rfl := some_inj h18
       replace h22 := ite_t (by simp only [hb31, Bool.or_true, Bool.true_or, Bool.or_false, Bool.false_or, Bool.and_true, Bool.true_and, Bool.and_false, Bool.false_and, Bool.not_true, Bool.not_false, cond_true, cond_false]) h22
       obtain rfl := some_inj h22
       replace h26 := ite_t (by simp only [hb31, Bool.or_true, Bool.true_or, Bool.or_false, Bool.false_or, Bool.and_true, Bool.true_and, Bool.and_false, Bool.false_and, Bool.not_true, Bool.not_false, cond_true, cond_false]) h26
       obtain rfl := some_inj h26
       replace h30 := ite_t (by simp only [hb31, Bool.or_true, Bool.true_or, Bool.or_false, Bool.false_or, Bool.and_true, Bool.true_and, Bool.and_false, Bool.false_and, Bool.not_true, Bool.not_false, cond_true, cond_false]) h30
       obtain rfl := some_inj h30
       refine w_x (cj7 E1 E3 E4 X1.get X4.get hb31 TT) (k := ?_)
       refine EC.wka (.cons (.refl _) .nil) (S_ref03_Right _ _ h14 _ _  ?_)
       refine w_y (cj7 E1 E3 E4 X1.get X4.get hb31 TT) (k := ?_)
       have q9 := cj7 E1 E3 E4 X1.get X4.get hb31 TT
       exact cw_n ⟨_, WkE.refl _, X1, X4, (xv q9), (xv q9), (xv q9), (xv q9), hP⟩
     obtain ⟨X1, X4, E1, E3, E4, E79, hP⟩ := hI
     refine w_seq ?_
     rcases ite_some h9 with ⟨hb37, h9⟩ | ⟨hb37, h9⟩
     ·refine xt (cj5 E1 E3 E4 E79 hb37) ?_
      refine w_sa (fun e s => e 2 = (.v (.bool false)) ∧ Pre σ s) ?_ fun e s hI => ?_
      ·refine w_x (cj7 E1 E3 E4 E79 X1.get X4.get TT) (k := ?_)
       exact cw_n ⟨_, WkE.refl _, (xv (cj7 E1 E3 E4 E79 X1.get X4.get TT)), hP⟩
      obtain ⟨E2, hP⟩ := hI
      refine w_ret ?_
      refine w_sqr ?_
      refine w_bkr ?_
      obtain rfl := some_inj h9
      refine cw_r ?_
      try dsimp only at hf6
      obtain rfl := some_inj hf6
      refine iq_r rfl fun hr38 => ?_
      obtain rfl := hr38
      refine w_bkr ?_
      refine cw_r ?_
      try dsimp only at h
      obtain rfl := some_inj h
      exact w_fin (fun _ => rfl) (xr (rs := #[.tmp 2]) E2) hP (r' := (.v (.bool false))) (.refl _) (.v _) hK
     ·refine xf (cj5 E1 E3 E4 E79 hb37) ?_
      refine w_skip ?_
      refine w_sq ?_
      refine w_sa (fun e s => Bx σ s i1 27 (ref04_Right_A0 a0) ∧ Bx σ s i4 99 [(.v (.string y10.name)), (.sl (List.map C_s y10.params)), (.v (.int .i64 y10.budget)), (.v (.int .i64 y10.body.kind)), (.v (.string y10.body.name)), (.v (.int .i64 y10.body.n)), (.v (.int .i64 y10.body.d)), (.sl (Expr.rows y10.body.args)), (.v (.int .i64 y10.body.at_)), (.v (.int .i64 y10.at_))] ∧ e 1 = (.pt i1 0) ∧ e 3 = (.v (.int .i64 v3_4)) ∧ e 4 = (.pt i4 0) ∧ e 5 = (.v (.int .i64 (0 : Int))) ∧ Pre σ s) ?_ fun e s hI => ?_
      ·refine w_x (cj7 E1 E3 E4 E79 X1.get X4.get TT) (k := ?_)
       have q10 := cj7 E1 E3 E4 E79 X1.get X4.get TT
       exact cw_n ⟨_, WkE.refl _, X1, X4, (xv q10), (xv q10), (xv q10), (xv q10), hP⟩
      obtain ⟨X1, X4, E1, E3, E4, E5, hP⟩ := hI
      obtain ⟨x39, h40, h9⟩ := bnd_some h9
      refine w_an (fun e s => .inr () = x39 ∧ Bx σ s i1 27 (ref04_Right_A0 a0) ∧ e 1 = (.pt i1 0) ∧ e 3 = (.v (.int .i64 v3_4)) ∧ Pre σ s) ?_ fun e s hI => ?_
      ·refine w_block ?_
       have q11 := cj4 E1 E3 E4 E5
       refine w_iter h40 (fun v e s => ∃ v5_41 : Int, v5_41 = v ∧ Bx σ s i1 27 (ref04_Right_A0 a0) ∧ Bx σ s i4 99 [(.v (.string y10.name)), (.sl (List.map C_s y10.params)), (.v (.int .i64 y10.budget)), (.v (.int .i64 y10.body.kind)), (.v (.string y10.body.name)), (.v (.int .i64 y10.body.n)), (.v (.int .i64 y10.body.d)), (.sl (Expr.rows y10.body.args)), (.v (.int .i64 y10.body.at_)), (.v (.int .i64 y10.at_))] ∧ e 1 = (.pt i1 0) ∧ e 3 = (.v (.int .i64 v3_4)) ∧ e 4 = (.pt i4 0) ∧ e 5 = (.v (.int .i64 v5_41)) ∧ Pre σ s) ⟨_, WkE.refl _, _, rfl, X1, X4, (xv q11), (xv q11), (xv q11), (xv q11), hP⟩ fun v x42 e s hf43 hI => ?_
       obtain ⟨v5_41, rfl, X1, X4, E1, E3, E4, E5, hP⟩ := hI
       unfold ref04_Right_L1 at hf43
       try dsimp only at hf43
       refine w_assoc ?_
       refine w_sa (fun e s => Bx σ s i1 27 (ref04_Right_A0 a0) ∧ Bx σ s i4 99 [(.v (.string y10.name)), (.sl (List.map C_s y10.params)), (.v (.int .i64 y10.budget)), (.v (.int .i64 y10.body.kind)), (.v (.string y10.body.name)), (.v (.int .i64 y10.body.n)), (.v (.int .i64 y10.body.d)), (.sl (Expr.rows y10.body.args)), (.v (.int .i64 y10.body.at_)), (.v (.int .i64 y10.at_))] ∧ e 1 = (.pt i1 0) ∧ e 3 = (.v (.int .i64 v3_4)) ∧ e 4 = (.pt i4 0) ∧ e 5 = (.v (.int .i64 v5_41)) ∧ e 84 = (.v (.bool (decide (v5_41 < ((List.length y10.params : Nat) : Int))))) ∧ Pre σ s) ?_ fun e s hI => ?_
       ·refine w_x (cj7 E1 E3 E4 E5 X1.get X4.get TT) (k := ?_)
        have q12 := cj7 E1 E3 E4 E5 X1.get X4.get TT
        exact cw_n ⟨_, WkE.refl _, X1, X4, (xv q12), (xv q12), (xv q12), (xv q12), (xv q12), hP⟩
       obtain ⟨X1, X4, E1, E3, E4, E5, E84, hP⟩ := hI
       refine w_seq ?_
       rcases ite_some hf43 with ⟨hb44, hf43⟩ | ⟨hb44, hf43⟩
       ·refine xt (cj6 E1 E3 E4 E5 E84 hb44) ?_
        refine w_skip ?_
        refine w_sq ?_
        obtain ⟨x45, h46, hf43⟩ := bnd_some hf43
        refine w_sa (fun e s => .inr () = x45 ∧ Bx σ s i1 27 (ref04_Right_A0 a0) ∧ Bx σ s i4 99 [(.v (.string y10.name)), (.sl (List.map C_s y10.params)), (.v (.int .i64 y10.budget)), (.v (.int .i64 y10.body.kind)), (.v (.string y10.body.name)), (.v (.int .i64 y10.body.n)), (.v (.int .i64 y10.body.d)), (.sl (Expr.rows y10.body.args)), (.v (.int .i64 y10.body.at_)), (.v (.int .i64 y10.at_))] ∧ e 1 = (.pt i1 0) ∧ e 3 = (.v (.int .i64 v3_4)) ∧ e 4 = (.pt i4 0) ∧ e 5 = (.v (.int .i64 v5_41)) ∧ Pre σ s) ?_ fun e s hI => ?_
        ·refine w_block ?_
         obtain ⟨y47, h48, h46⟩ := bnd_some h46
         obtain ⟨y49, h50, h46⟩ := bnd_some h46
         refine w_sa (fun e s => Bx σ s i1 27 (ref04_Right_A0 a0) ∧ Bx σ s i4 99 [(.v (.string y10.name)), (.sl (List.map C_s y10.params)), (.v (.int .i64 y10.budget)), (.v (.int .i64 y10.body.kind)), (.v (.string y10.body.name)), (.v (.int .i64 y10.body.n)), (.v (.int .i64 y10.body.d)), (.sl (Expr.rows y10.body.args)), (.v (.int .i64 y10.body.at_)), (.v (.int .i64 y10.at_))] ∧ e 1 = (.pt i1 0) ∧ e 3 = (.v (.int .i64 v3_4)) ∧ e 4 = (.pt i4 0) ∧ e 5 = (.v (.int .i64 v5_41)) ∧ e 93 = (.v (.bool (!y49))) ∧ Pre σ s) ?_ fun e s hI => ?_
         ·have R51 : (List.map C_s y10.params)[(v5_41).toNat]? = some [(.v (.string y47))] := map_get (getI_some h48).2
          refine w_x (cj10 E1 E3 E4 E5 E84 X1.get X4.get R51 (getI_some h48).1 TT) (k := ?_)
          refine EC.wka (.cons (.refl _) .nil) (S_ref03_Right _ _ h50 _ _  ?_)
          refine w_y (cj10 E1 E3 E4 E5 E84 X1.get X4.get R51 (getI_some h48).1 TT) (k := ?_)
          have q13 := cj10 E1 E3 E4 E5 E84 X1.get X4.get R51 (getI_some h48).1 TT
          exact cw_n ⟨_, WkE.refl _, X1, X4, (xv q13), (xv q13), (xv q13), (xv q13), (xv q13), hP⟩
         obtain ⟨X1, X4, E1, E3, E4, E5, E93, hP⟩ := hI
         rcases ite_some h46 with ⟨hb52, h46⟩ | ⟨hb52, h46⟩
         ·refine xt (cj6 E1 E3 E4 E5 E93 hb52) ?_
          refine w_sa (fun e s => e 2 = (.v (.bool false)) ∧ Pre σ s) ?_ fun e s hI => ?_
          ·refine w_x (cj8 E1 E3 E4 E5 E93 X1.get X4.get TT) (k := ?_)
           exact cw_n ⟨_, WkE.refl _, (xv (cj8 E1 E3 E4 E5 E93 X1.get X4.get TT)), hP⟩
          obtain ⟨E2, hP⟩ := hI
          refine w_ret ?_
          refine w_bkr ?_
          obtain rfl := some_inj h46
          refine cw_r ?_
          try dsimp only at hf43
          obtain rfl := some_inj hf43
          refine iq_r rfl fun hr53 => ?_
          obtain rfl := hr53
          refine w_bkr ?_
          refine ct_r ?_
          try dsimp only at h9
          refine w_bkr ?_
          obtain rfl := some_inj h9
          refine cw_r ?_
          try dsimp only at hf6
          obtain rfl := some_inj hf6
          refine iq_r rfl fun hr54 => ?_
          obtain rfl := hr54
          refine w_bkr ?_
          refine cw_r ?_
          try dsimp only at h
          obtain rfl := some_inj h
          exact w_fin (fun _ => rfl) (xr (rs := #[.tmp 2]) E2) hP (r' := (.v (.bool false))) (.refl _) (.v _) hK
         ·refine xf (cj6 E1 E3 E4 E5 E93 hb52) ?_
          refine w_skip ?_
          refine w_bk ?_
          obtain rfl := some_inj h46
          have q14 := cj5 E1 E3 E4 E5 E93
          exact cw_n ⟨_, WkE.refl _, rfl, X1, X4, (xv q14), (xv q14), (xv q14), (xv q14), hP⟩
        obtain ⟨rfl, X1, X4, E1, E3, E4, E5, hP⟩ := hI
        try dsimp only at hf43
        refine w_x (cj7 E1 E3 E4 E5 X1.get X4.get TT) (k := ?_)
        obtain rfl := some_inj hf43
        have q15 := cj7 E1 E3 E4 E5 X1.get X4.get TT
        exact iq_n rfl ⟨_, WkE.refl _, _, rfl, X1, X4, (xv q15), (xv q15), (xv q15), (xv q15), hP⟩
       ·refine xf (cj6 E1 E3 E4 E5 E84 hb44) ?_
        refine w_exit ?_
        refine w_sqx ?_
        obtain rfl := some_inj hf43
        refine iq_x rfl fun hr55 => ?_
        obtain rfl := hr55
        refine w_bkx ?_
        exact ct_n ⟨rfl, X1, (xv (cj5 E1 E3 E4 E5 E84)), (xv (cj5 E1 E3 E4 E5 E84)), hP⟩
      obtain ⟨rfl, X1, E1, E3, hP⟩ := hI
      try dsimp only at h9
      refine w_bk ?_
      obtain rfl := some_inj h9
      exact cw_n ⟨_, WkE.refl _, rfl, X1, (xv (cj2 E1 E3)), (xv (cj2 E1 E3)), hP⟩
    obtain ⟨rfl, X1, E1, E3, hP⟩ := hI
    try dsimp only at hf6
    refine w_x (cj4 E1 E3 X1.get TT) (k := ?_)
    obtain rfl := some_inj hf6
    exact iq_n rfl ⟨_, WkE.refl _, _, rfl, X1, (xv (cj4 E1 E3 X1.get TT)), (xv (cj4 E1 E3 X1.get TT)), hP⟩
   ·refine xf (cj4 E1 E3 E32 hb7) ?_
    refine w_exit ?_
    refine w_sqx ?_
    obtain rfl := some_inj hf6
    refine iq_x rfl fun hr56 => ?_
    obtain rfl := hr56
    refine w_bkx ?_
    exact cw_n ⟨_, WkE.refl _, rfl, X1, (xv (cj3 E1 E3 E32)), hP⟩
  obtain ⟨rfl, X1, E1, hP⟩ := hI
  try dsimp only at h
  refine w_assoc ?_
  refine w_sa (fun e s => Bx σ s i1 27 (ref04_Right_A0 a0) ∧ e 1 = (.pt i1 0) ∧ e 6 = (.v (.int .i64 (0 : Int))) ∧ Pre σ s) ?_ fun e s hI => ?_
  ·refine w_x (cj3 E1 X1.get TT) (k := ?_)
   exact cw_n ⟨_, WkE.refl _, X1, (xv (cj3 E1 X1.get TT)), (xv (cj3 E1 X1.get TT)), hP⟩
  obtain ⟨X1, E1, E6, hP⟩ := hI
  obtain ⟨x57, h58, h⟩ := bnd_some h
  refine w_sa (fun e s => .inr () = x57 ∧ Bx σ s i1 27 (ref04_Right_A0 a0) ∧ e 1 = (.pt i1 0) ∧ Pre σ s) ?_ fun e s hI => ?_
  ·refine w_block ?_
   refine w_iter h58 (fun v e s => ∃ v6_59 : Int, v6_59 = v ∧ Bx σ s i1 27 (ref04_Right_A0 a0) ∧ e 1 = (.pt i1 0) ∧ e 6 = (.v (.int .i64 v6_59)) ∧ Pre σ s) ⟨_, WkE.refl _, _, rfl, X1, (xv (cj2 E1 E6)), (xv (cj2 E1 E6)), hP⟩ fun v x60 e s hf61 hI => ?_
   obtain ⟨v6_59, rfl, X1, E1, E6, hP⟩ := hI
   unfold ref04_Right_L2 at hf61
   try dsimp only at hf61
   refine w_assoc ?_
   refine w_sa (fun e s => Bx σ s i1 27 (ref04_Right_A0 a0) ∧ e 1 = (.pt i1 0) ∧ e 6 = (.v (.int .i64 v6_59)) ∧ e 98 = (.v (.bool (decide (v6_59 < ((List.length a0.inputs : Nat) : Int))))) ∧ Pre σ s) ?_ fun e s hI => ?_
   ·refine w_x (cj4 E1 E6 X1.get TT) (k := ?_)
    have q16 := cj4 E1 E6 X1.get TT
    exact cw_n ⟨_, WkE.refl _, X1, (xv q16), (xv q16), (xv q16), hP⟩
   obtain ⟨X1, E1, E6, E98, hP⟩ := hI
   refine w_seq ?_
   rcases ite_some hf61 with ⟨hb62, hf61⟩ | ⟨hb62, hf61⟩
   ·refine xt (cj4 E1 E6 E98 hb62) ?_
    refine w_skip ?_
    refine w_sq ?_
    obtain ⟨x63, h64, hf61⟩ := bnd_some hf61
    refine w_sa (fun e s => .inr () = x63 ∧ Bx σ s i1 27 (ref04_Right_A0 a0) ∧ e 1 = (.pt i1 0) ∧ e 6 = (.v (.int .i64 v6_59)) ∧ Pre σ s) ?_ fun e s hI => ?_
    ·refine w_block ?_
     obtain ⟨y65, h66, h64⟩ := bnd_some h64
     refine w_sa (fun e s => ∃ i7 : Nat, Bx σ s i1 27 (ref04_Right_A0 a0) ∧ Bx σ s i7 96 [(.v (.string y65.name)), (.v (.int .i64 y65.period)), (.v (.int .i64 y65.phase)), (.v (.int .i64 y65.at_))] ∧ e 1 = (.pt i1 0) ∧ e 6 = (.v (.int .i64 v6_59)) ∧ e 7 = (.pt i7 0) ∧ Pre σ s) ?_ fun e s hI => ?_
     ·have R67 : (List.map Input.cl a0.inputs)[(v6_59).toNat]? = some [(.v (.string y65.name)), (.v (.int .i64 y65.period)), (.v (.int .i64 y65.phase)), (.v (.int .i64 y65.at_))] := map_get (getI_some h66).2
      refine w_x (cj9 E1 E6 E98 X1.get X1.any X1.any2 R67 (getI_some h66).1 TT) (k := ?_)
      have q17 := cj9 E1 E6 E98 X1.get X1.any X1.any2 R67 (getI_some h66).1 TT
      exact cw_n ⟨_, WkE.refl _, s.length, (X1.app [some (AObj.box 96 [(.v (.string y65.name)), (.v (.int .i64 y65.period)), (.v (.int .i64 y65.phase)), (.v (.int .i64 y65.at_))])]), (Bx.new hP 96 [(.v (.string y65.name)), (.v (.int .i64 y65.period)), (.v (.int .i64 y65.phase)), (.v (.int .i64 y65.at_))]), (xv q17), (xv q17), (xv q17), (hP.app _)⟩
     obtain ⟨i7, X1, X7, E1, E6, E7, hP⟩ := hI
     obtain ⟨y68, h69, h64⟩ := bnd_some h64
     obtain ⟨w72, h73, h64⟩ := bnd_some h64
     obtain ⟨w76, h77, h64⟩ := bnd_some h64
     refine w_sa (fun e s => Bx σ s i1 27 (ref04_Right_A0 a0) ∧ e 1 = (.pt i1 0) ∧ e 6 = (.v (.int .i64 v6_59)) ∧ e 121 = (.v (.bool (((!y68) || w72) || w76))) ∧ Pre σ s) ?_ fun e s hI => ?_
     ·cases hb78 : (!y68)
      ·replace h73 := ite_f (by simp only [hb78, Bool.or_true, Bool.true_or, Bool.or_false, Bool.false_or, Bool.and_true, Bool.true_and, Bool.and_false, Bool.false_and, Bool.not_true, Bool.not_false, cond_true, cond_false]) h73
       obtain ⟨y70, h71, h73⟩ := bnd_some h73
       obtain rfl := some_inj h73
       cases hb79 : (!y70)
       ·replace h77 := ite_f (by simp only [hb78, hb79, Bool.or_true, Bool.true_or, Bool.or_false, Bool.false_or, Bool.and_true, Bool.true_and, Bool.and_false, Bool.false_and, Bool.not_true, Bool.not_false, cond_true, cond_false]) h77
        obtain ⟨y74, h75, h77⟩ := bnd_some h77
        obtain rfl := some_inj h77
        refine w_x (cj8 E1 E6 E7 X1.get X7.get hb78 hb79 TT) (k := ?_)
        refine EC.wka (.cons (.refl _) .nil) (S_ref03_Right _ _ h69 _ _  ?_)
        refine w_y (cj8 E1 E6 E7 X1.get X7.get hb78 hb79 TT) (k := ?_)
        refine EC.wka (.cons (.refl _) (.cons (.refl _) (.cons (.refl _) .nil))) (S_ref04_number _ _ _ _ h71 _ _  ?_)
        refine w_y (cj8 E1 E6 E7 X1.get X7.get hb78 hb79 TT) (k := ?_)
        refine EC.wka (.cons (.refl _) (.cons (.refl _) (.cons (.refl _) .nil))) (S_ref04_number _ _ _ _ h75 _ _  ?_)
        refine w_y (cj8 E1 E6 E7 X1.get X7.get hb78 hb79 TT) (k := ?_)
        have q18 := cj8 E1 E6 E7 X1.get X7.get hb78 hb79 TT
        exact cw_n ⟨_, WkE.refl _, X1, (xv q18), (xv q18), (xv q18), hP⟩
       ·replace h77 := ite_t (by simp only [hb78, hb79, Bool.or_true, Bool.true_or, Bool.or_false, Bool.false_or, Bool.and_true, Bool.true_and, Bool.and_false, Bool.false_and, Bool.not_true, Bool.not_false, cond_true, cond_false]) h77
        obtain rfl := some_inj h77
        refine w_x (cj8 E1 E6 E7 X1.get X7.get hb78 hb79 TT) (k := ?_)
        refine EC.wka (.cons (.refl _) .nil) (S_ref03_Right _ _ h69 _ _  ?_)
        refine w_y (cj8 E1 E6 E7 X1.get X7.get hb78 hb79 TT) (k := ?_)
        refine EC.wka (.cons (.refl _) (.cons (.refl _) (.cons (.refl _) .nil))) (S_ref04_number _ _ _ _ h71 _ _  ?_)
        refine w_y (cj8 E1 E6 E7 X1.get X7.get hb78 hb79 TT) (k := ?_)
        have q19 := cj8 E1 E6 E7 X1.get X7.get hb78 hb79 TT
        exact cw_n ⟨_, WkE.refl _, X1, (xv q19), (xv q19), (xv q19), hP⟩
      ·replace h73 := ite_t (by simp only [hb78, Bool.or_true, Bool.true_or, Bool.or_false, Bool.false_or, Bool.and_true, Bool.true_and, Bool.and_false, Bool.false_and, Bool.not_true, Bool.not_false, cond_true, cond_false]) h73
       obtain rfl := some_inj h73
       replace h77 := ite_t (by simp only [hb78, Bool.or_true, Bool.true_or, Bool.or_false, Bool.false_or, Bool.and_true, Bool.true_and, Bool.and_false, Bool.false_and, Bool.not_true, Bool.not_false, cond_true, cond_false]) h77
       obtain rfl := some_inj h77
       refine w_x (cj7 E1 E6 E7 X1.get X7.get hb78 TT) (k := ?_)
       refine EC.wka (.cons (.refl _) .nil) (S_ref03_Right _ _ h69 _ _  ?_)
       refine w_y (cj7 E1 E6 E7 X1.get X7.get hb78 TT) (k := ?_)
       have q20 := cj7 E1 E6 E7 X1.get X7.get hb78 TT
       exact cw_n ⟨_, WkE.refl _, X1, (xv q20), (xv q20), (xv q20), hP⟩
     obtain ⟨X1, E1, E6, E121, hP⟩ := hI
     rcases ite_some h64 with ⟨hb80, h64⟩ | ⟨hb80, h64⟩
     ·refine xt (cj4 E1 E6 E121 hb80) ?_
      refine w_sa (fun e s => e 2 = (.v (.bool false)) ∧ Pre σ s) ?_ fun e s hI => ?_
      ·refine w_x (cj5 E1 E6 E121 X1.get TT) (k := ?_)
       exact cw_n ⟨_, WkE.refl _, (xv (cj5 E1 E6 E121 X1.get TT)), hP⟩
      obtain ⟨E2, hP⟩ := hI
      refine w_ret ?_
      refine w_bkr ?_
      obtain rfl := some_inj h64
      refine cw_r ?_
      try dsimp only at hf61
      obtain rfl := some_inj hf61
      refine iq_r rfl fun hr81 => ?_
      obtain rfl := hr81
      refine w_bkr ?_
      refine cw_r ?_
      try dsimp only at h
      obtain rfl := some_inj h
      exact w_fin (fun _ => rfl) (xr (rs := #[.tmp 2]) E2) hP (r' := (.v (.bool false))) (.refl _) (.v _) hK
     ·refine xf (cj4 E1 E6 E121 hb80) ?_
      refine w_skip ?_
      refine w_bk ?_
      obtain rfl := some_inj h64
      exact cw_n ⟨_, WkE.refl _, rfl, X1, (xv (cj3 E1 E6 E121)), (xv (cj3 E1 E6 E121)), hP⟩
    obtain ⟨rfl, X1, E1, E6, hP⟩ := hI
    try dsimp only at hf61
    refine w_x (cj4 E1 E6 X1.get TT) (k := ?_)
    obtain rfl := some_inj hf61
    exact iq_n rfl ⟨_, WkE.refl _, _, rfl, X1, (xv (cj4 E1 E6 X1.get TT)), (xv (cj4 E1 E6 X1.get TT)), hP⟩
   ·refine xf (cj4 E1 E6 E98 hb62) ?_
    refine w_exit ?_
    refine w_sqx ?_
    obtain rfl := some_inj hf61
    refine iq_x rfl fun hr82 => ?_
    obtain rfl := hr82
    refine w_bkx ?_
    exact cw_n ⟨_, WkE.refl _, rfl, X1, (xv (cj3 E1 E6 E98)), hP⟩
  obtain ⟨rfl, X1, E1, hP⟩ := hI
  try dsimp only at h
  refine w_assoc ?_
  refine w_sa (fun e s => Bx σ s i1 27 (ref04_Right_A0 a0) ∧ e 1 = (.pt i1 0) ∧ e 8 = (.v (.int .i64 (0 : Int))) ∧ Pre σ s) ?_ fun e s hI => ?_
  ·refine w_x (cj3 E1 X1.get TT) (k := ?_)
   exact cw_n ⟨_, WkE.refl _, X1, (xv (cj3 E1 X1.get TT)), (xv (cj3 E1 X1.get TT)), hP⟩
  obtain ⟨X1, E1, E8, hP⟩ := hI
  obtain ⟨x83, h84, h⟩ := bnd_some h
  refine w_sa (fun e s => .inr () = x83 ∧ Bx σ s i1 27 (ref04_Right_A0 a0) ∧ e 1 = (.pt i1 0) ∧ Pre σ s) ?_ fun e s hI => ?_
  ·refine w_block ?_
   refine w_iter h84 (fun v e s => ∃ v8_85 : Int, v8_85 = v ∧ Bx σ s i1 27 (ref04_Right_A0 a0) ∧ e 1 = (.pt i1 0) ∧ e 8 = (.v (.int .i64 v8_85)) ∧ Pre σ s) ⟨_, WkE.refl _, _, rfl, X1, (xv (cj2 E1 E8)), (xv (cj2 E1 E8)), hP⟩ fun v x86 e s hf87 hI => ?_
   obtain ⟨v8_85, rfl, X1, E1, E8, hP⟩ := hI
   unfold ref04_Right_L3 at hf87
   try dsimp only at hf87
   refine w_assoc ?_
   refine w_sa (fun e s => Bx σ s i1 27 (ref04_Right_A0 a0) ∧ e 1 = (.pt i1 0) ∧ e 8 = (.v (.int .i64 v8_85)) ∧ e 126 = (.v (.bool (decide (v8_85 < ((List.length a0.flows : Nat) : Int))))) ∧ Pre σ s) ?_ fun e s hI => ?_
   ·refine w_x (cj4 E1 E8 X1.get TT) (k := ?_)
    have q21 := cj4 E1 E8 X1.get TT
    exact cw_n ⟨_, WkE.refl _, X1, (xv q21), (xv q21), (xv q21), hP⟩
   obtain ⟨X1, E1, E8, E126, hP⟩ := hI
   refine w_seq ?_
   rcases ite_some hf87 with ⟨hb88, hf87⟩ | ⟨hb88, hf87⟩
   ·refine xt (cj4 E1 E8 E126 hb88) ?_
    refine w_skip ?_
    refine w_sq ?_
    obtain ⟨x89, h90, hf87⟩ := bnd_some hf87
    refine w_sa (fun e s => .inr () = x89 ∧ Bx σ s i1 27 (ref04_Right_A0 a0) ∧ e 1 = (.pt i1 0) ∧ e 8 = (.v (.int .i64 v8_85)) ∧ Pre σ s) ?_ fun e s hI => ?_
    ·refine w_block ?_
     obtain ⟨y91, h92, h90⟩ := bnd_some h90
     refine w_sa (fun e s => ∃ i9 : Nat, Bx σ s i1 27 (ref04_Right_A0 a0) ∧ Bx σ s i9 41 [(.v (.string y91.name)), (.v (.int .i64 y91.e.kind)), (.v (.string y91.e.name)), (.v (.int .i64 y91.e.n)), (.v (.int .i64 y91.e.d)), (.sl (Expr.rows y91.e.args)), (.v (.int .i64 y91.e.at_)), (.v (.int .i64 y91.at_))] ∧ e 1 = (.pt i1 0) ∧ e 8 = (.v (.int .i64 v8_85)) ∧ e 9 = (.pt i9 0) ∧ Pre σ s) ?_ fun e s hI => ?_
     ·have R93 : (List.map Flow.cl a0.flows)[(v8_85).toNat]? = some [(.v (.string y91.name)), (.v (.int .i64 y91.e.kind)), (.v (.string y91.e.name)), (.v (.int .i64 y91.e.n)), (.v (.int .i64 y91.e.d)), (.sl (Expr.rows y91.e.args)), (.v (.int .i64 y91.e.at_)), (.v (.int .i64 y91.at_))] := map_get (getI_some h92).2
      refine w_x (cj9 E1 E8 E126 X1.get X1.any X1.any2 R93 (getI_some h92).1 TT) (k := ?_)
      have q22 := cj9 E1 E8 E126 X1.get X1.any X1.any2 R93 (getI_some h92).1 TT
      exact cw_n ⟨_, WkE.refl _, s.length, (X1.app [some (AObj.box 41 [(.v (.string y91.name)), (.v (.int .i64 y91.e.kind)), (.v (.string y91.e.name)), (.v (.int .i64 y91.e.n)), (.v (.int .i64 y91.e.d)), (.sl (Expr.rows y91.e.args)), (.v (.int .i64 y91.e.at_)), (.v (.int .i64 y91.at_))])]), (Bx.new hP 41 [(.v (.string y91.name)), (.v (.int .i64 y91.e.kind)), (.v (.string y91.e.name)), (.v (.int .i64 y91.e.n)), (.v (.int .i64 y91.e.d)), (.sl (Expr.rows y91.e.args)), (.v (.int .i64 y91.e.at_)), (.v (.int .i64 y91.at_))]), (xv q22), (xv q22), (xv q22), (hP.app _)⟩
     obtain ⟨i9, X1, X9, E1, E8, E9, hP⟩ := hI
     obtain ⟨y94, h95, h90⟩ := bnd_some h90
     obtain ⟨w98, h99, h90⟩ := bnd_some h90
     obtain ⟨w102, h103, h90⟩ := bnd_some h90
     obtain ⟨w106, h107, h90⟩ := bnd_some h90
     refine w_sa (fun e s => Bx σ s i1 27 (ref04_Right_A0 a0) ∧ e 1 = (.pt i1 0) ∧ e 8 = (.v (.int .i64 v8_85)) ∧ e 155 = (.v (.bool ((((!y94) || w98) || w102) || w106))) ∧ Pre σ s) ?_ fun e s hI => ?_
     ·cases hb108 : (!y94)
      ·replace h99 := ite_f (by simp only [hb108, Bool.or_true, Bool.true_or, Bool.or_false, Bool.false_or, Bool.and_true, Bool.true_and, Bool.and_false, Bool.false_and, Bool.not_true, Bool.not_false, cond_true, cond_false]) h99
       obtain ⟨y96, h97, h99⟩ := bnd_some h99
       obtain rfl := some_inj h99
       cases hb109 : (decide ((100 : Int) < y96))
       ·replace h103 := ite_f (by simp only [hb108, hb109, Bool.or_true, Bool.true_or, Bool.or_false, Bool.false_or, Bool.and_true, Bool.true_and, Bool.and_false, Bool.false_and, Bool.not_true, Bool.not_false, cond_true, cond_false]) h103
        obtain ⟨y100, h101, h103⟩ := bnd_some h103
        obtain rfl := some_inj h103
        cases hb110 : (decide ((20 : Int) < y100))
        ·replace h107 := ite_f (by simp only [hb108, hb109, hb110, Bool.or_true, Bool.true_or, Bool.or_false, Bool.false_or, Bool.and_true, Bool.true_and, Bool.and_false, Bool.false_and, Bool.not_true, Bool.not_false, cond_true, cond_false]) h107
         obtain ⟨y104, h105, h107⟩ := bnd_some h107
         obtain rfl := some_inj h107
         refine w_x (cj9 E1 E8 E9 X1.get X9.get hb108 hb109 hb110 TT) (k := ?_)
         refine EC.wka (.cons (.refl _) .nil) (S_ref03_Right _ _ h95 _ _  ?_)
         refine w_y (cj9 E1 E8 E9 X1.get X9.get hb108 hb109 hb110 TT) (k := ?_)
         refine EC.wka (.cons (.refl _) (.cons (.refl _) .nil)) (S_ref04_Size _ _ _ h97 _ _  ?_)
         refine w_y (cj9 E1 E8 E9 X1.get X9.get hb108 hb109 hb110 TT) (k := ?_)
         refine EC.wka (.cons (.refl _) (.cons (.refl _) .nil)) (S_ref04_Depth _ _ _ h101 _ _  ?_)
         refine w_y (cj9 E1 E8 E9 X1.get X9.get hb108 hb109 hb110 TT) (k := ?_)
         refine EC.wka (.cons (.refl _) .nil) (S_ref04_Expr _ _ h105 _ _  ?_)
         refine w_y (cj9 E1 E8 E9 X1.get X9.get hb108 hb109 hb110 TT) (k := ?_)
         have q23 := cj9 E1 E8 E9 X1.get X9.get hb108 hb109 hb110 TT
         exact cw_n ⟨_, WkE.refl _, X1, (xv q23), (xv q23), (xv q23), hP⟩
        ·replace h107 := ite_t (by simp only [hb108, hb109, hb110, Bool.or_true, Bool.true_or, Bool.or_false, Bool.false_or, Bool.and_true, Bool.true_and, Bool.and_false, Bool.false_and, Bool.not_true, Bool.not_false, cond_true, cond_false]) h107
         obtain rfl := some_inj h107
         refine w_x (cj9 E1 E8 E9 X1.get X9.get hb108 hb109 hb110 TT) (k := ?_)
         refine EC.wka (.cons (.refl _) .nil) (S_ref03_Right _ _ h95 _ _  ?_)
         refine w_y (cj9 E1 E8 E9 X1.get X9.get hb108 hb109 hb110 TT) (k := ?_)
         refine EC.wka (.cons (.refl _) (.cons (.refl _) .nil)) (S_ref04_Size _ _ _ h97 _ _  ?_)
         refine w_y (cj9 E1 E8 E9 X1.get X9.get hb108 hb109 hb110 TT) (k := ?_)
         refine EC.wka (.cons (.refl _) (.cons (.refl _) .nil)) (S_ref04_Depth _ _ _ h101 _ _  ?_)
         refine w_y (cj9 E1 E8 E9 X1.get X9.get hb108 hb109 hb110 TT) (k := ?_)
         have q24 := cj9 E1 E8 E9 X1.get X9.get hb108 hb109 hb110 TT
         exact cw_n ⟨_, WkE.refl _, X1, (xv q24), (xv q24), (xv q24), hP⟩
       ·replace h103 := ite_t (by simp only [hb108, hb109, Bool.or_true, Bool.true_or, Bool.or_false, Bool.false_or, Bool.and_true, Bool.true_and, Bool.and_false, Bool.false_and, Bool.not_true, Bool.not_false, cond_true, cond_false]) h103
        obtain rfl := some_inj h103
        replace h107 := ite_t (by simp only [hb108, hb109, Bool.or_true, Bool.true_or, Bool.or_false, Bool.false_or, Bool.and_true, Bool.true_and, Bool.and_false, Bool.false_and, Bool.not_true, Bool.not_false, cond_true, cond_false]) h107
        obtain rfl := some_inj h107
        refine w_x (cj8 E1 E8 E9 X1.get X9.get hb108 hb109 TT) (k := ?_)
        refine EC.wka (.cons (.refl _) .nil) (S_ref03_Right _ _ h95 _ _  ?_)
        refine w_y (cj8 E1 E8 E9 X1.get X9.get hb108 hb109 TT) (k := ?_)
        refine EC.wka (.cons (.refl _) (.cons (.refl _) .nil)) (S_ref04_Size _ _ _ h97 _ _  ?_)
        refine w_y (cj8 E1 E8 E9 X1.get X9.get hb108 hb109 TT) (k := ?_)
        have q25 := cj8 E1 E8 E9 X1.get X9.get hb108 hb109 TT
        exact cw_n ⟨_, WkE.refl _, X1, (xv q25), (xv q25), (xv q25), hP⟩
      ·replace h99 := ite_t (by simp only [hb108, Bool.or_true, Bool.true_or, Bool.or_false, Bool.false_or, Bool.and_true, Bool.true_and, Bool.and_false, Bool.false_and, Bool.not_true, Bool.not_false, cond_true, cond_false]) h99
       obtain rfl := some_inj h99
       replace h103 := ite_t (by simp only [hb108, Bool.or_true, Bool.true_or, Bool.or_false, Bool.false_or, Bool.and_true, Bool.true_and, Bool.and_false, Bool.false_and, Bool.not_true, Bool.not_false, cond_true, cond_false]) h103
       obtain rfl := some_inj h103
       replace h107 := ite_t (by simp only [hb108, Bool.or_true, Bool.true_or, Bool.or_false, Bool.false_or, Bool.and_true, Bool.true_and, Bool.and_false, Bool.false_and, Bool.not_true, Bool.not_false, cond_true, cond_false]) h107
       obtain rfl := some_inj h107
       refine w_x (cj7 E1 E8 E9 X1.get X9.get hb108 TT) (k := ?_)
       refine EC.wka (.cons (.refl _) .nil) (S_ref03_Right _ _ h95 _ _  ?_)
       refine w_y (cj7 E1 E8 E9 X1.get X9.get hb108 TT) (k := ?_)
       have q26 := cj7 E1 E8 E9 X1.get X9.get hb108 TT
       exact cw_n ⟨_, WkE.refl _, X1, (xv q26), (xv q26), (xv q26), hP⟩
     obtain ⟨X1, E1, E8, E155, hP⟩ := hI
     rcases ite_some h90 with ⟨hb111, h90⟩ | ⟨hb111, h90⟩
     ·refine xt (cj4 E1 E8 E155 hb111) ?_
      refine w_sa (fun e s => e 2 = (.v (.bool false)) ∧ Pre σ s) ?_ fun e s hI => ?_
      ·refine w_x (cj5 E1 E8 E155 X1.get TT) (k := ?_)
       exact cw_n ⟨_, WkE.refl _, (xv (cj5 E1 E8 E155 X1.get TT)), hP⟩
      obtain ⟨E2, hP⟩ := hI
      refine w_ret ?_
      refine w_bkr ?_
      obtain rfl := some_inj h90
      refine cw_r ?_
      try dsimp only at hf87
      obtain rfl := some_inj hf87
      refine iq_r rfl fun hr112 => ?_
      obtain rfl := hr112
      refine w_bkr ?_
      refine cw_r ?_
      try dsimp only at h
      obtain rfl := some_inj h
      exact w_fin (fun _ => rfl) (xr (rs := #[.tmp 2]) E2) hP (r' := (.v (.bool false))) (.refl _) (.v _) hK
     ·refine xf (cj4 E1 E8 E155 hb111) ?_
      refine w_skip ?_
      refine w_bk ?_
      obtain rfl := some_inj h90
      exact cw_n ⟨_, WkE.refl _, rfl, X1, (xv (cj3 E1 E8 E155)), (xv (cj3 E1 E8 E155)), hP⟩
    obtain ⟨rfl, X1, E1, E8, hP⟩ := hI
    try dsimp only at hf87
    refine w_x (cj4 E1 E8 X1.get TT) (k := ?_)
    obtain rfl := some_inj hf87
    exact iq_n rfl ⟨_, WkE.refl _, _, rfl, X1, (xv (cj4 E1 E8 X1.get TT)), (xv (cj4 E1 E8 X1.get TT)), hP⟩
   ·refine xf (cj4 E1 E8 E126 hb88) ?_
    refine w_exit ?_
    refine w_sqx ?_
    obtain rfl := some_inj hf87
    refine iq_x rfl fun hr113 => ?_
    obtain rfl := hr113
    refine w_bkx ?_
    exact cw_n ⟨_, WkE.refl _, rfl, X1, (xv (cj3 E1 E8 E126)), hP⟩
  obtain ⟨rfl, X1, E1, hP⟩ := hI
  try dsimp only at h
  refine w_assoc ?_
  refine w_sa (fun e s => Bx σ s i1 27 (ref04_Right_A0 a0) ∧ e 1 = (.pt i1 0) ∧ e 10 = (.v (.int .i64 (0 : Int))) ∧ Pre σ s) ?_ fun e s hI => ?_
  ·refine w_x (cj3 E1 X1.get TT) (k := ?_)
   exact cw_n ⟨_, WkE.refl _, X1, (xv (cj3 E1 X1.get TT)), (xv (cj3 E1 X1.get TT)), hP⟩
  obtain ⟨X1, E1, E10, hP⟩ := hI
  obtain ⟨x114, h115, h⟩ := bnd_some h
  refine w_sa (fun e s => .inr () = x114 ∧ Pre σ s) ?_ fun e s hI => ?_
  ·refine w_block ?_
   refine w_iter h115 (fun v e s => ∃ v10_116 : Int, v10_116 = v ∧ Bx σ s i1 27 (ref04_Right_A0 a0) ∧ e 1 = (.pt i1 0) ∧ e 10 = (.v (.int .i64 v10_116)) ∧ Pre σ s) ⟨_, WkE.refl _, _, rfl, X1, (xv (cj2 E1 E10)), (xv (cj2 E1 E10)), hP⟩ fun v x117 e s hf118 hI => ?_
   obtain ⟨v10_116, rfl, X1, E1, E10, hP⟩ := hI
   unfold ref04_Right_L4 at hf118
   try dsimp only at hf118
   refine w_assoc ?_
   refine w_sa (fun e s => Bx σ s i1 27 (ref04_Right_A0 a0) ∧ e 1 = (.pt i1 0) ∧ e 10 = (.v (.int .i64 v10_116)) ∧ e 160 = (.v (.bool (decide (v10_116 < ((List.length a0.outputs : Nat) : Int))))) ∧ Pre σ s) ?_ fun e s hI => ?_
   ·refine w_x (cj4 E1 E10 X1.get TT) (k := ?_)
    have q27 := cj4 E1 E10 X1.get TT
    exact cw_n ⟨_, WkE.refl _, X1, (xv q27), (xv q27), (xv q27), hP⟩
   obtain ⟨X1, E1, E10, E160, hP⟩ := hI
   refine w_seq ?_
   rcases ite_some hf118 with ⟨hb119, hf118⟩ | ⟨hb119, hf118⟩
   ·refine xt (cj4 E1 E10 E160 hb119) ?_
    refine w_skip ?_
    refine w_sq ?_
    obtain ⟨x120, h121, hf118⟩ := bnd_some hf118
    refine w_sa (fun e s => .inr () = x120 ∧ Bx σ s i1 27 (ref04_Right_A0 a0) ∧ e 1 = (.pt i1 0) ∧ e 10 = (.v (.int .i64 v10_116)) ∧ Pre σ s) ?_ fun e s hI => ?_
    ·refine w_block ?_
     obtain ⟨y122, h123, h121⟩ := bnd_some h121
     refine w_sa (fun e s => ∃ i11 : Nat, Bx σ s i1 27 (ref04_Right_A0 a0) ∧ Bx σ s i11 65 [(.v (.string y122.name)), (.v (.string y122.flow)), (.v (.int .i64 y122.deadline)), (.v (.int .i64 y122.at_))] ∧ e 1 = (.pt i1 0) ∧ e 10 = (.v (.int .i64 v10_116)) ∧ e 11 = (.pt i11 0) ∧ Pre σ s) ?_ fun e s hI => ?_
     ·have R124 : (List.map Output.cl a0.outputs)[(v10_116).toNat]? = some [(.v (.string y122.name)), (.v (.string y122.flow)), (.v (.int .i64 y122.deadline)), (.v (.int .i64 y122.at_))] := map_get (getI_some h123).2
      refine w_x (cj9 E1 E10 E160 X1.get X1.any X1.any2 R124 (getI_some h123).1 TT) (k := ?_)
      have q28 := cj9 E1 E10 E160 X1.get X1.any X1.any2 R124 (getI_some h123).1 TT
      exact cw_n ⟨_, WkE.refl _, s.length, (X1.app [some (AObj.box 65 [(.v (.string y122.name)), (.v (.string y122.flow)), (.v (.int .i64 y122.deadline)), (.v (.int .i64 y122.at_))])]), (Bx.new hP 65 [(.v (.string y122.name)), (.v (.string y122.flow)), (.v (.int .i64 y122.deadline)), (.v (.int .i64 y122.at_))]), (xv q28), (xv q28), (xv q28), (hP.app _)⟩
     obtain ⟨i11, X1, X11, E1, E10, E11, hP⟩ := hI
     obtain ⟨y125, h126, h121⟩ := bnd_some h121
     obtain ⟨w129, h130, h121⟩ := bnd_some h121
     obtain ⟨w133, h134, h121⟩ := bnd_some h121
     refine w_sa (fun e s => Bx σ s i1 27 (ref04_Right_A0 a0) ∧ e 1 = (.pt i1 0) ∧ e 10 = (.v (.int .i64 v10_116)) ∧ e 183 = (.v (.bool (((!y125) || w129) || w133))) ∧ Pre σ s) ?_ fun e s hI => ?_
     ·cases hb135 : (!y125)
      ·replace h130 := ite_f (by simp only [hb135, Bool.or_true, Bool.true_or, Bool.or_false, Bool.false_or, Bool.and_true, Bool.true_and, Bool.and_false, Bool.false_and, Bool.not_true, Bool.not_false, cond_true, cond_false]) h130
       obtain ⟨y127, h128, h130⟩ := bnd_some h130
       obtain rfl := some_inj h130
       cases hb136 : (!y127)
       ·replace h134 := ite_f (by simp only [hb135, hb136, Bool.or_true, Bool.true_or, Bool.or_false, Bool.false_or, Bool.and_true, Bool.true_and, Bool.and_false, Bool.false_and, Bool.not_true, Bool.not_false, cond_true, cond_false]) h134
        obtain ⟨y131, h132, h134⟩ := bnd_some h134
        obtain rfl := some_inj h134
        refine w_x (cj8 E1 E10 E11 X1.get X11.get hb135 hb136 TT) (k := ?_)
        refine EC.wka (.cons (.refl _) .nil) (S_ref03_Right _ _ h126 _ _  ?_)
        refine w_y (cj8 E1 E10 E11 X1.get X11.get hb135 hb136 TT) (k := ?_)
        refine EC.wka (.cons (.refl _) .nil) (S_ref03_Right _ _ h128 _ _  ?_)
        refine w_y (cj8 E1 E10 E11 X1.get X11.get hb135 hb136 TT) (k := ?_)
        refine EC.wka (.cons (.refl _) (.cons (.refl _) (.cons (.refl _) .nil))) (S_ref04_number _ _ _ _ h132 _ _  ?_)
        refine w_y (cj8 E1 E10 E11 X1.get X11.get hb135 hb136 TT) (k := ?_)
        have q29 := cj8 E1 E10 E11 X1.get X11.get hb135 hb136 TT
        exact cw_n ⟨_, WkE.refl _, X1, (xv q29), (xv q29), (xv q29), hP⟩
       ·replace h134 := ite_t (by simp only [hb135, hb136, Bool.or_true, Bool.true_or, Bool.or_false, Bool.false_or, Bool.and_true, Bool.true_and, Bool.and_false, Bool.false_and, Bool.not_true, Bool.not_false, cond_true, cond_false]) h134
        obtain rfl := some_inj h134
        refine w_x (cj8 E1 E10 E11 X1.get X11.get hb135 hb136 TT) (k := ?_)
        refine EC.wka (.cons (.refl _) .nil) (S_ref03_Right _ _ h126 _ _  ?_)
        refine w_y (cj8 E1 E10 E11 X1.get X11.get hb135 hb136 TT) (k := ?_)
        refine EC.wka (.cons (.refl _) .nil) (S_ref03_Right _ _ h128 _ _  ?_)
        refine w_y (cj8 E1 E10 E11 X1.get X11.get hb135 hb136 TT) (k := ?_)
        have q30 := cj8 E1 E10 E11 X1.get X11.get hb135 hb136 TT
        exact cw_n ⟨_, WkE.refl _, X1, (xv q30), (xv q30), (xv q30), hP⟩
      ·replace h130 := ite_t (by simp only [hb135, Bool.or_true, Bool.true_or, Bool.or_false, Bool.false_or, Bool.and_true, Bool.true_and, Bool.and_false, Bool.false_and, Bool.not_true, Bool.not_false, cond_true, cond_false]) h130
       obtain rfl := some_inj h130
       replace h134 := ite_t (by simp only [hb135, Bool.or_true, Bool.true_or, Bool.or_false, Bool.false_or, Bool.and_true, Bool.true_and, Bool.and_false, Bool.false_and, Bool.not_true, Bool.not_false, cond_true, cond_false]) h134
       obtain rfl := some_inj h134
       refine w_x (cj7 E1 E10 E11 X1.get X11.get hb135 TT) (k := ?_)
       refine EC.wka (.cons (.refl _) .nil) (S_ref03_Right _ _ h126 _ _  ?_)
       refine w_y (cj7 E1 E10 E11 X1.get X11.get hb135 TT) (k := ?_)
       have q31 := cj7 E1 E10 E11 X1.get X11.get hb135 TT
       exact cw_n ⟨_, WkE.refl _, X1, (xv q31), (xv q31), (xv q31), hP⟩
     obtain ⟨X1, E1, E10, E183, hP⟩ := hI
     rcases ite_some h121 with ⟨hb137, h121⟩ | ⟨hb137, h121⟩
     ·refine xt (cj4 E1 E10 E183 hb137) ?_
      refine w_sa (fun e s => e 2 = (.v (.bool false)) ∧ Pre σ s) ?_ fun e s hI => ?_
      ·refine w_x (cj5 E1 E10 E183 X1.get TT) (k := ?_)
       exact cw_n ⟨_, WkE.refl _, (xv (cj5 E1 E10 E183 X1.get TT)), hP⟩
      obtain ⟨E2, hP⟩ := hI
      refine w_ret ?_
      refine w_bkr ?_
      obtain rfl := some_inj h121
      refine cw_r ?_
      try dsimp only at hf118
      obtain rfl := some_inj hf118
      refine iq_r rfl fun hr138 => ?_
      obtain rfl := hr138
      refine w_bkr ?_
      refine cw_r ?_
      try dsimp only at h
      obtain rfl := some_inj h
      exact w_fin (fun _ => rfl) (xr (rs := #[.tmp 2]) E2) hP (r' := (.v (.bool false))) (.refl _) (.v _) hK
     ·refine xf (cj4 E1 E10 E183 hb137) ?_
      refine w_skip ?_
      refine w_bk ?_
      obtain rfl := some_inj h121
      exact cw_n ⟨_, WkE.refl _, rfl, X1, (xv (cj3 E1 E10 E183)), (xv (cj3 E1 E10 E183)), hP⟩
    obtain ⟨rfl, X1, E1, E10, hP⟩ := hI
    try dsimp only at hf118
    refine w_x (cj4 E1 E10 X1.get TT) (k := ?_)
    obtain rfl := some_inj hf118
    exact iq_n rfl ⟨_, WkE.refl _, _, rfl, X1, (xv (cj4 E1 E10 X1.get TT)), (xv (cj4 E1 E10 X1.get TT)), hP⟩
   ·refine xf (cj4 E1 E10 E160 hb119) ?_
    refine w_exit ?_
    refine w_sqx ?_
    obtain rfl := some_inj hf118
    refine iq_x rfl fun hr139 => ?_
    obtain rfl := hr139
    refine w_bkx ?_
    exact cw_n ⟨_, WkE.refl _, rfl, hP⟩
  obtain ⟨rfl, hP⟩ := hI
  try dsimp only at h
  refine w_sa (fun e s => e 2 = (.v (.bool true)) ∧ Pre σ s) ?_ fun e s hI => ?_
  ·refine w_x Expr.rlen (k := ?_)
   exact cw_n ⟨_, WkE.refl _, (xv Expr.rlen), hP⟩
  obtain ⟨E2, hP⟩ := hI
  refine w_ret ?_
  obtain rfl := some_inj h
  exact w_fin (fun _ => rfl) (xr (rs := #[.tmp 2]) E2) hP (r' := (.v (.bool true))) (.refl _) (.v _) hK
end Go.Proofs.Ytohmmfimedgccaa.E
end
section
namespace Go.Proofs.Ytohmmfimedgccaa.E
set_option linter.unusedVariables false
set_option linter.unusedSimpArgs false
set_option maxRecDepth 10000
noncomputable def m_small := B_ref03_small
noncomputable def m_digit := B_ref03_digit
noncomputable def m_words := B_lex_Words
noncomputable def m_word := B_ref03_Word m_words
noncomputable def m_right := B_ref03_Right m_small m_digit m_word
theorem s_small : Sat_ref03_small m_small := W_ref03_small
theorem s_digit : Sat_ref03_digit m_digit := W_ref03_digit
theorem s_words : Sat_lex_Words m_words := W_lex_Words
theorem s_word : Sat_ref03_Word m_word := W_ref03_Word _ s_words
theorem s_right : Sat_ref03_Right m_right := W_ref03_Right _ _ _ s_small s_digit s_word
theorem t_word (s : ByteArray) : ∃ b, m_word s = some b := by
  unfold m_word B_ref03_Word m_words B_lex_Words
  simp only [Option.bind_some]
  obtain ⟨r, h1, _⟩ := iter_idx (f := ref03_Word_L0 lex_Words_K0 s) (fun i v => v = (i : Int)) lex_Words_K0.length (fun _ => True) (fun i v hi hv => by
    subst hv
    unfold ref03_Word_L0
    simp only [dlt hi, if_true, getI_at hi, Option.bind_some]
    split
    · exact .inr ⟨_, rfl, trivial⟩
    · exact .inl ⟨_, rfl, winc hi (by unfold maxLen; decide)⟩) (fun v hv => by
    subst hv
    unfold ref03_Word_L0
    simp only [dge, Bool.false_eq_true, if_false]
    exact ⟨_, rfl, trivial⟩) (v0 := (0 : Int)) rfl
  rw [h1]
  cases r <;> exact ⟨_, rfl⟩
theorem t_right (s : ByteArray) (hs : s.size ≤ maxLen) : ∃ b, m_right s = some b := by
  unfold m_right B_ref03_Right
  obtain ⟨r, h1, _⟩ := iter_idx (f := ref03_Right_L0 s m_digit m_small) (fun i v => v = (i : Int)) s.size (fun _ => True) (fun i v hi hv => by
    subst hv
    unfold ref03_Right_L0
    obtain ⟨b, hb⟩ := getB_at hi
    simp only [dlt hi, if_true, hb, Option.bind_some, m_small, B_ref03_small, m_digit, B_ref03_digit]
    have hw := winc hi hs
    repeat' split
    all_goals simp only [Option.bind_some]
    all_goals repeat' split
    all_goals first
      | exact .inr ⟨_, rfl, trivial⟩
      | exact .inl ⟨_, rfl, hw⟩) (fun v hv => by
    subst hv
    unfold ref03_Right_L0
    simp only [dge, Bool.false_eq_true, if_false]
    exact ⟨_, rfl, trivial⟩) (v0 := (0 : Int)) rfl
  obtain ⟨w, hw⟩ := t_word s
  rw [h1]
  cases r with
  | inl r => exact ⟨_, rfl⟩
  | inr _ =>
    simp only [Option.bind_some, hw]
    split <;> exact ⟨_, rfl⟩
noncomputable def m_number := B_ref04_number
theorem s_number : Sat_ref04_number m_number := W_ref04_number
theorem v_number (n lo hi : Int) : m_number n lo hi = some (decide (lo ≤ n) && decide (n ≤ hi)) := rfl
mutual
def sizeE : Expr → Nat
  | ⟨_, _, _, _, xs, _⟩ => 1 + sizeL xs
def sizeL : List Expr → Nat
  | [] => 0
  | e :: l => sizeE e + sizeL l
end
theorem sizeE_eq (e : Expr) : sizeE e = 1 + sizeL e.args := by cases e; rw [sizeE]
theorem sizeL_app : ∀ (a b : List Expr), sizeL (a ++ b) = sizeL a + sizeL b
  | [], b => by simp [sizeL]
  | e :: l, b => by simp [sizeL, sizeL_app l b]; omega
theorem sizeL_take {l : List Expr} {i : Nat} (h : i < l.length) : sizeL (l.take (i + 1)) = sizeL (l.take i) + sizeE l[i] := by
  rw [List.take_succ_eq_append_getElem h, sizeL_app]
  simp [sizeL]
def pSize (x : Expr × Int) (r : Int) : Prop := Sp_ref04_Size x.1 x.2 r ∧ (0 ≤ x.2 → 1 ≤ r ∧ r ≤ x.2 + 1 ∧ (r ≤ x.2 → r = sizeE x.1))
noncomputable def m_size (e : Expr) (m : Int) : Option Int := pick pSize (e, m)
theorem s_size : Sat_ref04_Size m_size := fun _ _ _ h => (pick_spec h).1
theorem t_size (e : Expr) : e.ok → ∀ m : Int, 0 ≤ m → m ≤ 1000 → ∃ r, m_size e m = some r ∧ pSize (e, m) r := by
  induction e using Expr.induct with
  | h e ih =>
    intro hok m hm hm2
    refine pick_ex ?_
    obtain ⟨r, h1, h2⟩ := iter_idx (f := ref04_Size_L0 e m m_size) (fun i v => v.2 = (i : Int) ∧ 1 ≤ v.1 ∧ v.1 ≤ m + 1 ∧ (v.1 ≤ m → v.1 = 1 + sizeL (e.args.take i))) e.args.length (fun r => 1 ≤ r ∧ r ≤ m + 1 ∧ (r ≤ m → r = 1 + sizeL e.args)) (fun i v hi hv => by
      obtain ⟨n, k⟩ := v
      obtain ⟨rfl, h2, h3, h4⟩ := hv
      simp only at h2 h3 h4
      unfold ref04_Size_L0
      by_cases hn : n ≤ m
      · have hmem := List.getElem_mem hi
        obtain ⟨r, h5, _, h6⟩ := ih _ hmem (hok.arg _ hmem) (m - n) (by omega) (by omega)
        obtain ⟨h7, h8, h9⟩ := h6 (by simp; omega)
        simp only at h7 h8 h9
        simp only [dlt hi, decide_eq_true hn, Bool.and_self, if_true, getI_at hi, Option.bind_some]
        rw [wrap_i (by omega) (by omega), h5]
        simp only [Option.bind_some]
        refine .inl ⟨_, rfl, winc hi hok.len, ?_⟩
        simp only
        rw [wrap_i (by omega) (by omega)]
        refine ⟨by omega, by omega, fun hle => ?_⟩
        rw [sizeL_take hi]
        have := h4 hn
        have := h9 (by omega)
        omega
      · simp only [decide_eq_false hn, Bool.and_false, Bool.false_eq_true, if_false]
        exact .inr ⟨_, rfl, h2, h3, fun h => absurd h hn⟩) (fun v hv => by
      obtain ⟨n, k⟩ := v
      obtain ⟨rfl, h2, h3, h4⟩ := hv
      unfold ref04_Size_L0
      simp only [dge, Bool.false_and, Bool.false_eq_true, if_false]
      rw [List.take_length] at h4
      exact ⟨_, rfl, h2, h3, h4⟩) (v0 := ((1 : Int), (0 : Int))) ⟨rfl, by omega, by simp only; omega, fun _ => by simp [sizeL]⟩
    have hB : B_ref04_Size m_size e m = some r := by unfold B_ref04_Size; rw [h1]; rfl
    exact ⟨r, W_ref04_Size _ s_size _ _ _ hB, fun _ => ⟨h2.1, h2.2.1, fun h => by rw [h2.2.2 h, sizeE_eq]; simp⟩⟩
def pDepth (x : Expr × Int) (r : Int) : Prop := Sp_ref04_Depth x.1 x.2 r ∧ 0 ≤ r ∧ r ≤ x.2
noncomputable def m_depth (e : Expr) (m : Int) : Option Int := pick pDepth (e, m)
theorem s_depth : Sat_ref04_Depth m_depth := fun _ _ _ h => (pick_spec h).1
theorem t_depth (e : Expr) : e.ok → ∀ m : Int, 0 ≤ m → m ≤ 1000 → ∃ r, m_depth e m = some r ∧ pDepth (e, m) r := by
  induction e using Expr.induct with
  | h e ih =>
    intro hok m hm hm2
    refine pick_ex ?_
    by_cases h0 : m = 0
    · have hB : B_ref04_Depth m_depth e m = some 0 := by unfold B_ref04_Depth; simp [h0]
      exact ⟨0, W_ref04_Depth _ s_depth _ _ _ hB, by omega, by simp only; omega⟩
    · obtain ⟨r, h1, h2⟩ := iter_idx (f := ref04_Depth_L0 e m m_depth) (fun i v => v.2 = (i : Int) ∧ 0 ≤ v.1 ∧ v.1 ≤ m - 1) e.args.length (fun r => 0 ≤ r ∧ r ≤ m - 1) (fun i v hi hv => by
        obtain ⟨n, k⟩ := v
        obtain ⟨rfl, h2, h3⟩ := hv
        simp only at h2 h3
        unfold ref04_Depth_L0
        have hmem := List.getElem_mem hi
        obtain ⟨r, h5, _, h6, h7⟩ := ih _ hmem (hok.arg _ hmem) (m - 1) (by omega) (by omega)
        simp only at h6 h7
        simp only [dlt hi, if_true, getI_at hi, Option.bind_some]
        rw [wrap_i (n := m - 1) (by omega) (by omega), h5]
        simp only [Option.bind_some]
        refine .inl ⟨_, rfl, winc hi hok.len, ?_⟩
        simp only
        split <;> omega) (fun v hv => by
        obtain ⟨n, k⟩ := v
        obtain ⟨rfl, h2, h3⟩ := hv
        unfold ref04_Depth_L0
        simp only [dge, Bool.false_eq_true, if_false]
        exact ⟨_, rfl, h2, h3⟩) (v0 := ((0 : Int), (0 : Int))) ⟨rfl, by omega, by simp only; omega⟩
      have hB : B_ref04_Depth m_depth e m = some (r + 1) := by
        unfold B_ref04_Depth
        rw [decide_eq_false h0, h1]
        simp only [Bool.false_eq_true, if_false, Option.bind_some]
        rw [wrap_i (by omega) (by omega)]
      exact ⟨r + 1, W_ref04_Depth _ s_depth _ _ _ hB, by omega, by simp only; omega⟩
inductive Expr.bfit : Expr → Prop
  | mk {e : Expr} : (∀ x ∈ e.args, Expr.bfit x) → (e.kind = 11 → e.args = []) → Expr.bfit e
def pBody (e : Expr) (r : Bool) : Prop := Sp_ref04_Body e r ∧ (r = true → e.bfit)
noncomputable def m_body : Expr → Option Bool := pick pBody
theorem s_body : Sat_ref04_Body m_body := fun _ _ h => (pick_spec h).1
theorem t_body (e : Expr) : e.ok → ∃ r, m_body e = some r ∧ pBody e r := by
  induction e using Expr.induct with
  | h e ih =>
    intro hok
    refine pick_ex ?_
    obtain ⟨r, h1, h2⟩ := iter_idx (f := ref04_Body_L0 e m_body) (fun i v => v = (i : Int) ∧ ∀ j (hj : j < e.args.length), j < i → e.args[j].bfit) e.args.length (fun r => r = .inl false ∨ (r = .inr () ∧ ∀ x ∈ e.args, x.bfit)) (fun i v hi hv => by
      obtain ⟨rfl, h2⟩ := hv
      unfold ref04_Body_L0
      have hmem := List.getElem_mem hi
      obtain ⟨r, h5, _, h6⟩ := ih _ hmem (hok.arg _ hmem)
      simp only [dlt hi, if_true, getI_at hi, Option.bind_some, h5]
      cases r with
      | false => exact .inr ⟨_, rfl, .inl rfl⟩
      | true =>
        refine .inl ⟨_, rfl, winc hi hok.len, fun j hj hlt => ?_⟩
        by_cases hji : j = i
        · subst hji; exact h6 rfl
        · exact h2 j hj (by omega)) (fun v hv => by
      obtain ⟨rfl, h2⟩ := hv
      unfold ref04_Body_L0
      simp only [dge, Bool.false_eq_true, if_false]
      refine ⟨_, rfl, .inr ⟨rfl, fun x hx => ?_⟩⟩
      obtain ⟨j, hj, rfl⟩ := List.getElem_of_mem hx
      exact h2 j hj hj) (v0 := (0 : Int)) ⟨rfl, fun j _ h => by omega⟩
    obtain ⟨b, hb⟩ := t_right e.name hok.nm
    have hL1 : ∃ q, iterO (ref04_Body_L1 e) (0 : Int) = some q ∧ True := iter_idx (f := ref04_Body_L1 e) (fun i v => v = (i : Int)) ref04_Body_K0.length (fun _ => True) (fun i v hi hv => by
      subst hv
      unfold ref04_Body_L1
      simp only [dlt hi, if_true, getI_at hi, Option.bind_some]
      split
      · exact .inr ⟨_, rfl, trivial⟩
      · exact .inl ⟨_, rfl, winc hi (by unfold maxLen; decide)⟩) (fun v hv => by
      subst hv
      unfold ref04_Body_L1
      simp only [dge, Bool.false_eq_true, if_false]
      exact ⟨_, rfl, trivial⟩) (v0 := (0 : Int)) rfl
    obtain ⟨q, hq, _⟩ := hL1
    have hB : ∃ r, B_ref04_Body m_right m_number m_body e = some r ∧ (r = true → e.bfit) := by
      unfold B_ref04_Body
      rw [h1]
      rcases h2 with rfl | ⟨rfl, hall⟩
      · exact ⟨false, rfl, fun h => by cases h⟩
      · simp only [Option.bind_some, hb, v_number, hq]
        by_cases hd : e.d = 0
        · by_cases k11 : e.kind = 11
          · simp only [hd, k11, decide_true, Bool.not_true, Bool.false_eq_true, if_false, if_true, Option.bind_some]
            refine ⟨_, rfl, fun h => .mk hall fun _ => ?_⟩
            simp only [Bool.and_eq_true, decide_eq_true_eq] at h
            exact List.length_eq_zero_iff.1 (by omega)
          · have hfit : e.bfit := .mk hall fun h => absurd h k11
            simp only [hd, decide_true, Bool.not_true, Bool.false_eq_true, if_false, decide_eq_false k11]
            repeat' split
            all_goals simp only [Option.bind_some]
            all_goals repeat' split
            all_goals first
              | exact ⟨_, rfl, fun _ => hfit⟩
              | skip
        · simp only [decide_eq_false hd, Bool.not_false, if_true]
          exact ⟨_, rfl, fun h => by cases h⟩
    obtain ⟨r, hr, hf⟩ := hB
    exact ⟨r, W_ref04_Body _ _ _ s_right s_number s_body _ _ hr, hf⟩
end Go.Proofs.Ytohmmfimedgccaa.E
end
section
namespace Go.Proofs.Ytohmmfimedgccaa.E
set_option linter.unusedVariables false
set_option linter.unusedSimpArgs false
set_option maxRecDepth 10000
theorem iter_all {α : Type} {xs : List α} (hlen : xs.length ≤ maxLen) {f : Int → Option (Int ⊕ (Bool ⊕ Unit))} (Q : α → Prop)
    (step : ∀ i (hi : i < xs.length), f i = some (.inr (.inl false)) ∨ (f i = some (.inl (IntKind.i64.wrap ((i : Int) + 1))) ∧ Q xs[i])) (fin : f (xs.length : Int) = some (.inr (.inr ()))) : ∃ r, iterO f 0 = some r ∧ (r = .inl false ∨ (r = .inr () ∧ ∀ x ∈ xs, Q x)) := by
  refine iter_idx (v0 := (0 : Int)) (fun i v => v = (i : Int) ∧ ∀ j (hj : j < xs.length), j < i → Q xs[j]) xs.length (fun r : Bool ⊕ Unit => r = .inl false ∨ (r = .inr () ∧ ∀ x ∈ xs, Q x)) (fun i v hi hv => ?_) (fun v hv => ?_) ⟨rfl, fun j _ h => by omega⟩
  · obtain ⟨rfl, h2⟩ := hv
    rcases step i hi with h | ⟨h, hq⟩
    · exact .inr ⟨_, h, .inl rfl⟩
    · refine .inl ⟨_, h, winc hi hlen, fun j hj hlt => ?_⟩
      by_cases hji : j = i
      · subst hji; exact hq
      · exact h2 j hj (by omega)
  · obtain ⟨rfl, h2⟩ := hv
    refine ⟨_, fin, .inr ⟨rfl, fun x hx => ?_⟩⟩
    obtain ⟨j, hj, rfl⟩ := List.getElem_of_mem hx
    exact h2 j hj hj
inductive Expr.fit : Expr → Prop
  | mk {e : Expr} : (∀ x ∈ e.args, Expr.fit x) → ((e.kind = 1 ∧ e.args = []) ∨ (e.kind = 2 ∧ 1 ≤ e.args.length ∧ e.args.length ≤ 6) ∨ (e.args.length = 1 ∧ (((e.kind = 3 ∨ e.kind = 4) ∧ 1 ≤ e.n ∧ e.n ≤ 100) ∨ (e.kind = 5 ∧ 0 ≤ e.n ∧ e.n ≤ 100 ∧ 1 ≤ e.d ∧ e.d ≤ 100) ∨ e.kind = 6 ∨ e.kind = 7 ∨ e.kind = 8))) → Expr.fit e
theorem Expr.fit.arg {e : Expr} (h : e.fit) : ∀ x ∈ e.args, x.fit := by cases h; assumption
theorem Expr.fit.kinds {e : Expr} (h : e.fit) : (e.kind = 1 ∧ e.args = []) ∨ (e.kind = 2 ∧ 1 ≤ e.args.length ∧ e.args.length ≤ 6) ∨ (e.args.length = 1 ∧ (((e.kind = 3 ∨ e.kind = 4) ∧ 1 ≤ e.n ∧ e.n ≤ 100) ∨ (e.kind = 5 ∧ 0 ≤ e.n ∧ e.n ≤ 100 ∧ 1 ≤ e.d ∧ e.d ≤ 100) ∨ e.kind = 6 ∨ e.kind = 7 ∨ e.kind = 8)) := by cases h; assumption
theorem Expr.bfit.arg {e : Expr} (h : e.bfit) : ∀ x ∈ e.args, x.bfit := by cases h; assumption
theorem Expr.bfit.leaf {e : Expr} (h : e.bfit) : e.kind = 11 → e.args = [] := by cases h; assumption
def pExpr (e : Expr) (r : Bool) : Prop := Sp_ref04_Expr e r ∧ (r = true → e.fit)
noncomputable def m_expr : Expr → Option Bool := pick pExpr
theorem s_expr : Sat_ref04_Expr m_expr := fun _ _ h => (pick_spec h).1
theorem t_expr (e : Expr) : e.ok → ∃ r, m_expr e = some r ∧ pExpr e r := by
  induction e using Expr.induct with
  | h e ih =>
    intro hok
    refine pick_ex ?_
    obtain ⟨r, h1, h2⟩ := iter_all (xs := e.args) hok.len (f := ref04_Expr_L0 e m_expr) Expr.fit (fun i hi => by
      unfold ref04_Expr_L0
      have hmem := List.getElem_mem hi
      obtain ⟨r, h5, _, h6⟩ := ih _ hmem (hok.arg _ hmem)
      simp only [dlt hi, if_true, getI_at hi, Option.bind_some, h5]
      cases r with
      | false => exact .inl rfl
      | true => exact .inr ⟨rfl, h6 rfl⟩) (by
      unfold ref04_Expr_L0
      simp only [dge, Bool.false_eq_true, if_false])
    obtain ⟨b, hb⟩ := t_right e.name hok.nm
    have hB : ∃ r, B_ref04_Expr m_right m_number m_expr e = some r ∧ (r = true → e.fit) := by
      unfold B_ref04_Expr
      rw [h1]
      rcases h2 with rfl | ⟨rfl, hall⟩
      · exact ⟨false, rfl, fun h => by cases h⟩
      · simp only [Option.bind_some, hb, v_number]
        by_cases k1 : e.kind = 1
        · simp only [k1, decide_true, if_true, Option.bind_some]
          refine ⟨_, rfl, fun h => .mk hall (.inl ⟨k1, ?_⟩)⟩
          simp only [Bool.and_eq_true, decide_eq_true_eq] at h
          exact List.length_eq_zero_iff.1 (by omega)
        · by_cases k2 : e.kind = 2
          · simp only [k2, decide_true, if_true, Option.bind_some, Int.reduceEq, decide_false, Bool.false_eq_true, if_false]
            refine ⟨_, rfl, fun h => .mk hall (.inr (.inl ⟨k2, ?_⟩))⟩
            simp only [Bool.and_eq_true, decide_eq_true_eq] at h
            omega
          · simp only [decide_eq_false k1, decide_eq_false k2, Bool.false_eq_true, if_false, Option.bind_some]
            split
            · exact ⟨_, rfl, fun h => by cases h⟩
            · rename_i hc
              have hlen : e.args.length = 1 := by
                simp only [Bool.or_eq_true, Bool.not_eq_true', not_or, Bool.not_eq_false, decide_eq_true_eq] at hc
                omega
              have go : ∀ r : Bool, (r = true → ((e.kind = 3 ∨ e.kind = 4) ∧ 1 ≤ e.n ∧ e.n ≤ 100) ∨ (e.kind = 5 ∧ 0 ≤ e.n ∧ e.n ≤ 100 ∧ 1 ≤ e.d ∧ e.d ≤ 100) ∨ e.kind = 6 ∨ e.kind = 7 ∨ e.kind = 8) → (r = true → e.fit) := fun r hr h => .mk hall (.inr (.inr ⟨hlen, hr h⟩))
              by_cases k3 : e.kind = 3
              · simp only [k3, decide_true, if_true, Option.bind_some]
                exact ⟨_, rfl, go _ fun h => by simp only [Bool.and_eq_true, decide_eq_true_eq] at h; omega⟩
              by_cases k4 : e.kind = 4
              · simp only [k4, decide_true, if_true, Option.bind_some, Int.reduceEq, decide_false, Bool.false_eq_true, if_false]
                exact ⟨_, rfl, go _ fun h => by simp only [Bool.and_eq_true, decide_eq_true_eq] at h; omega⟩
              simp only [decide_eq_false k3, decide_eq_false k4, Bool.false_eq_true, if_false, Option.bind_some]
              by_cases k5 : e.kind = 5
              · simp only [k5, decide_true, if_true]
                split
                · rename_i hn
                  simp only [Option.bind_some]
                  exact ⟨_, rfl, go _ fun h => by simp only [Bool.and_eq_true, decide_eq_true_eq] at h; omega⟩
                · rename_i hn
                  simp only [Option.bind_some]
                  exact ⟨_, rfl, go _ fun h => by simp only [Bool.and_eq_true, decide_eq_true_eq] at h; exact absurd h.2 (by simp)⟩
              by_cases k6 : e.kind = 6
              · simp only [k6, Int.reduceEq, decide_false, decide_true, Bool.false_eq_true, if_false, if_true, Option.bind_some]
                exact ⟨_, rfl, go _ fun _ => by omega⟩
              by_cases k8 : e.kind = 8
              · simp only [k8, Int.reduceEq, decide_false, decide_true, Bool.false_eq_true, if_false, if_true, Option.bind_some]
                exact ⟨_, rfl, go _ fun _ => by omega⟩
              simp only [decide_eq_false k5, decide_eq_false k6, decide_eq_false k8, Bool.false_eq_true, if_false, Option.bind_some]
              exact ⟨_, rfl, go _ fun h => by simp only [Bool.and_eq_true, decide_eq_true_eq] at h; omega⟩
    obtain ⟨r, hr, hf⟩ := hB
    exact ⟨r, W_ref04_Expr _ _ _ s_right s_number s_expr _ _ hr, hf⟩
theorem Node.ok.nm {x : Node} (h : x.ok) : x.name.size ≤ maxLen := ml h.name
theorem Node.ok.plen {x : Node} (h : x.ok) : x.params.length ≤ maxLen := mlB h.params.1 (by omega)
theorem Node.ok.param {x : Node} (h : x.ok) : ∀ s ∈ x.params, s.size ≤ maxLen := fun s hs => ml (h.params.2 s hs)
structure Node.fit (x : Node) : Prop where
  params : 1 ≤ x.params.length ∧ x.params.length ≤ 6
  budget : 1 ≤ x.budget ∧ x.budget ≤ 1000
  size : sizeE x.body ≤ 100
  body : x.body.bfit
structure Flow.fit (x : Flow) : Prop where
  size : sizeE x.e ≤ 100
  e : x.e.fit
structure Program.fit (p : Program) : Prop where
  all : p.nodes.length + p.inputs.length + p.flows.length + p.outputs.length ≤ 40
  node : ∀ x ∈ p.nodes, x.fit
  input : ∀ x ∈ p.inputs, 1 ≤ x.period ∧ x.period ≤ 1000 ∧ 0 ≤ x.phase ∧ x.phase ≤ 1000
  flow : ∀ x ∈ p.flows, x.fit
  output : ∀ x ∈ p.outputs, 1 ≤ x.deadline ∧ x.deadline ≤ 1000
noncomputable def m_read := B_ref04_Right m_right m_number m_size m_depth m_body m_expr
theorem s_read : Sat_ref04_Right m_read := W_ref04_Right _ _ _ _ _ _ s_right s_number s_size s_depth s_body s_expr
theorem t_read (p : Program) (hok : p.ok) : ∃ r, m_read p = some r ∧ (r = true → p.fit) := by
  have w := hok.nodes.1; have w2 := hok.inputs.1; have w3 := hok.flows.1; have w4 := hok.outputs.1
  obtain ⟨r0, h0, g0⟩ := iter_all (xs := p.nodes) (mlB hok.nodes.1 (by omega)) (f := ref04_Right_L0 p m_right m_body m_depth m_size m_number) Node.fit (fun i hi => by
    unfold ref04_Right_L0
    have hmem := List.getElem_mem hi
    have hx := hok.nodes.2 _ hmem
    obtain ⟨b, hb⟩ := t_right _ (ml hx.name)
    obtain ⟨sz, hsz, _, gsz⟩ := t_size _ hx.body 100 (by omega) (by omega)
    obtain ⟨dp, hdp, _⟩ := t_depth _ hx.body 30 (by omega) (by omega)
    obtain ⟨bd, hbd, _, gbd⟩ := t_body _ hx.body
    obtain ⟨q, hq, gq⟩ := iter_all (xs := p.nodes[i].params) hx.plen (f := ref04_Right_L1 p.nodes[i] m_right) (fun _ => True) (fun k hk => by
      unfold ref04_Right_L1
      obtain ⟨c, hc⟩ := t_right _ (hx.param _ (List.getElem_mem hk))
      simp only [dlt hk, if_true, getI_at hk, Option.bind_some, hc]
      cases c
      · exact .inl rfl
      · exact .inr ⟨rfl, trivial⟩) (by
      unfold ref04_Right_L1
      simp only [dge, Bool.false_eq_true, if_false])
    obtain ⟨s1, s2, s3⟩ := gsz (by simp)
    simp only at s1 s2 s3
    simp only [dlt hi, if_true, getI_at hi, Option.bind_some, hb, v_number, hsz, hdp, hbd, hq]
    cases b with
    | false => exact .inl (by simp)
    | true =>
      by_cases p1 : ((p.nodes[i].params.length : Nat) : Int) < 1
      · exact .inl (by simp [p1])
      by_cases p2 : (6 : Int) < ((p.nodes[i].params.length : Nat) : Int)
      · exact .inl (by simp [p1, p2])
      by_cases b1 : 1 ≤ p.nodes[i].budget ∧ p.nodes[i].budget ≤ 1000
      · by_cases z1 : 100 < sz
        · exact .inl (by simp [p1, p2, b1, z1])
        by_cases d1 : 20 < dp
        · exact .inl (by simp [p1, p2, b1, z1, d1])
        cases bd with
        | false => exact .inl (by simp [p1, p2, b1, z1, d1])
        | true =>
          rcases gq with rfl | ⟨rfl, _⟩
          · exact .inl (by simp [p1, p2, b1, z1, d1])
          · exact .inr ⟨by simp [p1, p2, b1, z1, d1], ⟨by omega, by omega⟩, b1, by have := s3 (by omega); omega, gbd rfl⟩
      · refine .inl ?_
        have : (decide (1 ≤ p.nodes[i].budget) && decide (p.nodes[i].budget ≤ 1000)) = false := by simpa using b1
        simp [p1, p2, this]) (by
    unfold ref04_Right_L0
    simp only [dge, Bool.false_eq_true, if_false])
  obtain ⟨r2, h2, g2⟩ := iter_all (xs := p.inputs) (mlB hok.inputs.1 (by omega)) (f := ref04_Right_L2 p m_right m_number) (fun x => 1 ≤ x.period ∧ x.period ≤ 1000 ∧ 0 ≤ x.phase ∧ x.phase ≤ 1000) (fun i hi => by
    unfold ref04_Right_L2
    obtain ⟨b, hb⟩ := t_right _ (ml (hok.inputs.2 _ (List.getElem_mem hi)).name)
    simp only [dlt hi, if_true, getI_at hi, Option.bind_some, hb, v_number]
    cases b with
    | false => exact .inl (by simp)
    | true =>
      by_cases b1 : 1 ≤ p.inputs[i].period ∧ p.inputs[i].period ≤ 1000
      · by_cases b2 : 0 ≤ p.inputs[i].phase ∧ p.inputs[i].phase ≤ 1000
        · exact .inr ⟨by simp [b1, b2], b1.1, b1.2, b2⟩
        · refine .inl ?_
          have : (decide (0 ≤ p.inputs[i].phase) && decide (p.inputs[i].phase ≤ 1000)) = false := by simpa using b2
          simp [b1, this]
      · refine .inl ?_
        have : (decide (1 ≤ p.inputs[i].period) && decide (p.inputs[i].period ≤ 1000)) = false := by simpa using b1
        simp [this]) (by
    unfold ref04_Right_L2
    simp only [dge, Bool.false_eq_true, if_false])
  obtain ⟨r3, h3, g3⟩ := iter_all (xs := p.flows) (mlB hok.flows.1 (by omega)) (f := ref04_Right_L3 p m_right m_depth m_expr m_size) Flow.fit (fun i hi => by
    unfold ref04_Right_L3
    have hx := hok.flows.2 _ (List.getElem_mem hi)
    obtain ⟨b, hb⟩ := t_right _ (ml hx.name)
    obtain ⟨sz, hsz, _, gsz⟩ := t_size _ hx.e 100 (by omega) (by omega)
    obtain ⟨dp, hdp, _⟩ := t_depth _ hx.e 30 (by omega) (by omega)
    obtain ⟨bd, hbd, _, gbd⟩ := t_expr _ hx.e
    obtain ⟨s1, s2, s3⟩ := gsz (by simp)
    simp only at s1 s2 s3
    simp only [dlt hi, if_true, getI_at hi, Option.bind_some, hb, hsz, hdp, hbd]
    cases b with
    | false => exact .inl (by simp)
    | true =>
      by_cases z1 : 100 < sz
      · exact .inl (by simp [z1])
      by_cases d1 : 20 < dp
      · exact .inl (by simp [z1, d1])
      cases bd with
      | false => exact .inl (by simp [z1, d1])
      | true => exact .inr ⟨by simp [z1, d1], by have := s3 (by omega); omega, gbd rfl⟩) (by
    unfold ref04_Right_L3
    simp only [dge, Bool.false_eq_true, if_false])
  obtain ⟨r4, h4, g4⟩ := iter_all (xs := p.outputs) (mlB hok.outputs.1 (by omega)) (f := ref04_Right_L4 p m_right m_number) (fun x => 1 ≤ x.deadline ∧ x.deadline ≤ 1000) (fun i hi => by
    unfold ref04_Right_L4
    have hx := hok.outputs.2 _ (List.getElem_mem hi)
    obtain ⟨b, hb⟩ := t_right _ (ml hx.name)
    obtain ⟨c, hc⟩ := t_right _ (ml hx.flow)
    simp only [dlt hi, if_true, getI_at hi, Option.bind_some, hb, hc, v_number]
    cases b with
    | false => exact .inl (by simp)
    | true =>
      cases c with
      | false => exact .inl (by simp)
      | true =>
        by_cases b1 : 1 ≤ p.outputs[i].deadline ∧ p.outputs[i].deadline ≤ 1000
        · exact .inr ⟨by simp [b1], b1⟩
        · refine .inl ?_
          have : (decide (1 ≤ p.outputs[i].deadline) && decide (p.outputs[i].deadline ≤ 1000)) = false := by simpa using b1
          simp [this]) (by
    unfold ref04_Right_L4
    simp only [dge, Bool.false_eq_true, if_false])
  unfold m_read B_ref04_Right
  rw [wrap_i (n := (p.nodes.length : Int) + p.inputs.length) (by omega) (by omega), wrap_i (n := (p.nodes.length : Int) + p.inputs.length + p.flows.length) (by omega) (by omega), wrap_i (n := (p.nodes.length : Int) + p.inputs.length + p.flows.length + p.outputs.length) (by omega) (by omega)]
  by_cases hc : (40 : Int) < (p.nodes.length : Int) + p.inputs.length + p.flows.length + p.outputs.length
  · rw [if_pos (by simpa using hc)]
    exact ⟨false, rfl, fun h => by cases h⟩
  · rw [if_neg (by simpa using hc), h0]
    rcases g0 with rfl | ⟨rfl, g0⟩
    · exact ⟨false, rfl, fun h => by cases h⟩
    simp only [Option.bind_some]
    rw [h2]
    rcases g2 with rfl | ⟨rfl, g2⟩
    · exact ⟨false, rfl, fun h => by cases h⟩
    simp only [Option.bind_some]
    rw [h3]
    rcases g3 with rfl | ⟨rfl, g3⟩
    · exact ⟨false, rfl, fun h => by cases h⟩
    simp only [Option.bind_some]
    rw [h4]
    rcases g4 with rfl | ⟨rfl, g4⟩
    · exact ⟨false, rfl, fun h => by cases h⟩
    exact ⟨true, rfl, fun _ => ⟨by omega, g0, g2, g3, g4⟩⟩
end Go.Proofs.Ytohmmfimedgccaa.E
end
section
namespace Go.Proofs.Ytohmmfimedgccaa.E
set_option maxRecDepth 100000
set_option maxHeartbeats 4000000
set_option linter.unusedVariables false
set_option linter.unusedSimpArgs false
noncomputable def B_check_finder_fail (a0 : check_finder) (a1 : Int) (a2 : Int) : Option (Unit × check_finder) :=
 (if (decide (a0.e = (0 : Int))) then
  some (check_finder.mk a1 a2)
 else
  some a0 : Option check_finder).bind fun vf_3 =>
 some ((), vf_3)
theorem W_check_finder_fail : Sat_check_finder_fail (B_check_finder_fail) := by
 intro a0 a1 a2 r h σ K j0 H0 hK
 refine w_fq (Q := fun r s => ∃ l : List (Nat × AObj), (l.map (·.1)).Nodup ∧ (∀ x ∈ l, x.1 < σ.length ∧ ClO σ.length x.2) ∧ Pq σ l K r s) Try.func49 rfl rfl (by kernel_rfl) (fun _ _ h => h) ?_
 unfold B_check_finder_fail at h
 have hP := Pre.refl σ
 have jl0 := H0.lt
 have hF := Fr.refl σ [j0]
 have E0 : argE [(.pt j0 0), (.v (.int .i64 a1)), (.v (.int .i64 a2))] 0 = (.pt j0 0) := rfl
 have E1 : argE [(.pt j0 0), (.v (.int .i64 a1)), (.v (.int .i64 a2))] 1 = (.v (.int .i64 a1)) := rfl
 have E2 : argE [(.pt j0 0), (.v (.int .i64 a1)), (.v (.int .i64 a2))] 2 = (.v (.int .i64 a2)) := rfl
 have TT := cj4 Expr.rlen T_106 T_3 T_30
 refine w_sa (fun e s => ∃ τ : Store, Gx s j0 (AObj.box 106 [(.v (.int .i64 a0.at_)), (.v (.int .i64 a0.e))]) ∧ e 0 = (.pt j0 0) ∧ e 1 = (.v (.int .i64 a1)) ∧ e 2 = (.v (.int .i64 a2)) ∧ e 10 = (.v (.bool (decide (a0.e = (0 : Int))))) ∧ Fr σ τ [j0] ∧ Pre τ s) ?_ fun e s hI => ?_
 ·refine w_x (cj5 E0 E1 E2 H0.get TT) (k := ?_)
  have q1 := cj5 E0 E1 E2 H0.get TT
  exact cw_n ⟨_, WkE.refl _, σ, H0, (xv q1), (xv q1), (xv q1), (xv q1), hF, hP⟩
 obtain ⟨τ, X0, E0, E1, E2, E10, hF, hP⟩ := hI
 obtain ⟨x1, h2, h⟩ := bnd_some h
 refine w_an (fun e s => ∃ vf_3 : check_finder, ∃ τ : Store, vf_3 = x1 ∧ Gx s j0 (AObj.box 106 [(.v (.int .i64 vf_3.at_)), (.v (.int .i64 vf_3.e))]) ∧ Fr σ τ [j0] ∧ Pre τ s) ?_ fun e s hI => ?_
 ·rcases ite_some h2 with ⟨hb4, h2⟩ | ⟨hb4, h2⟩
  ·refine xt (cj5 E0 E1 E2 E10 hb4) ?_
   have q2 := Gx.same X0 (AObj.box 106 [(.v (.int .i64 a1)), (.v (.int .i64 a0.e))])
   refine w_x (cj8 E0 E1 E2 E10 X0.get q2.get (Gx.same q2 (AObj.box 106 [(.v (.int .i64 a1)), (.v (.int .i64 a2))])).get TT) (k := ?_)
   obtain rfl := some_inj h2
   exact ct_n ⟨_, (List.set (List.set τ j0 (some (AObj.box 106 [(.v (.int .i64 a1)), (.v (.int .i64 a0.e))]))) j0 (some (AObj.box 106 [(.v (.int .i64 a1)), (.v (.int .i64 a2))]))), rfl, (Gx.same (Gx.same X0 (AObj.box 106 [(.v (.int .i64 a1)), (.v (.int .i64 a0.e))])) (AObj.box 106 [(.v (.int .i64 a1)), (.v (.int .i64 a2))])), ((hF.set (by simp) (some (AObj.box 106 [(.v (.int .i64 a1)), (.v (.int .i64 a0.e))]))).set (by simp) (some (AObj.box 106 [(.v (.int .i64 a1)), (.v (.int .i64 a2))]))), ((hP.setp (hF.lt jl0) (some (AObj.box 106 [(.v (.int .i64 a1)), (.v (.int .i64 a0.e))]))).setp ((hF.set (by simp) (some (AObj.box 106 [(.v (.int .i64 a1)), (.v (.int .i64 a0.e))]))).lt jl0) (some (AObj.box 106 [(.v (.int .i64 a1)), (.v (.int .i64 a2))])))⟩
  ·refine xf (cj5 E0 E1 E2 E10 hb4) ?_
   refine w_skip ?_
   obtain rfl := some_inj h2
   exact ct_n ⟨_, τ, rfl, X0, hF, hP⟩
 obtain ⟨vf_3, τ, rfl, X0, hF, hP⟩ := hI
 try dsimp only at h
 obtain rfl := some_inj h
 have hn5 : (List.map (·.1) ([(j0, (AObj.box 106 [(.v (.int .i64 vf_3.at_)), (.v (.int .i64 vf_3.e))]))] : List (Nat × AObj))).Nodup := (List.nodup_cons.2 ⟨(fun h => by simp at h), List.nodup_nil⟩)
 have he6 := Fr.eq (l := [(j0, (AObj.box 106 [(.v (.int .i64 vf_3.at_)), (.v (.int .i64 vf_3.e))]))]) hF hn5 (List.forall_mem_cons.2 ⟨⟨jl0, (Gx.back X0 hP (hF.lt jl0))⟩, (fun x hx => absurd hx (by simp))⟩)
 exact w_end (fun h => absurd rfl h) (xr (rs := #[]) trivial) ⟨[(j0, (AObj.box 106 [(.v (.int .i64 vf_3.at_)), (.v (.int .i64 vf_3.e))]))], hn5, (List.forall_mem_cons.2 ⟨⟨jl0, (ClO.bx (ClL.cons (Cn.cl (.v _) _) (ClL.cons (Cn.cl (.v _) _) ClL.nil)))⟩, (fun x hx => absurd hx (by simp))⟩), he6 ▸ hP, (.tu []), (.refl _), (.tu CnL.nil), hK⟩
end Go.Proofs.Ytohmmfimedgccaa.E
end
section
namespace Go.Proofs.Ytohmmfimedgccaa.E
set_option maxRecDepth 100000
set_option maxHeartbeats 4000000
set_option linter.unusedVariables false
set_option linter.unusedSimpArgs false
noncomputable def B_check_finder_fresh (f_check_finder_fail : check_finder → Int → Int → Option (Unit × check_finder)) (a0 : check_finder) (a1 : (Mp Int)) (a2 : ByteArray) (a3 : Int) : Option (Unit × check_finder × (Mp Int)) :=
 (putO a1 a2 (IntKind.i64.wrap ((Option.getD (Mp.get a1 a2) (0 : Int)) + (1 : Int)))).bind fun y1 =>
 (if (decide ((1 : Int) < (Option.getD (Mp.get y1 a2) (0 : Int)))) then
  (f_check_finder_fail a0 a3 (3 : Int)).bind fun y9 =>
  some y9.2
 else
  some a0 : Option check_finder).bind fun vf_7 =>
 some ((), vf_7, y1)
abbrev check_finder_fresh_V0 : Int → PV := fun v : Int => (PV.v (.int .i64 v))
theorem W_check_finder_fresh (f_check_finder_fail : check_finder → Int → Int → Option (Unit × check_finder)) (S_check_finder_fail : Sat_check_finder_fail f_check_finder_fail) : Sat_check_finder_fresh (B_check_finder_fresh f_check_finder_fail) := by
 intro a0 a1 a2 a3 r h σ K j0 j1 H0 H1 hK
 refine w_fq (Q := fun r s => ∃ l : List (Nat × AObj), (l.map (·.1)).Nodup ∧ (∀ x ∈ l, x.1 < σ.length ∧ ClO σ.length x.2) ∧ Pq σ l K r s) Try.func44 rfl rfl (by kernel_rfl) (fun _ _ h => h) ?_
 unfold B_check_finder_fresh at h
 have hP := Pre.refl σ
 have jl0 := H0.lt
 have jl1 := H1.lt
 have hF := Fr.refl σ [j0, j1]
 have E0 : argE [(.pt j0 0), (.mp j1), (.v (.string a2)), (.v (.int .i64 a3))] 0 = (.pt j0 0) := rfl
 have E1 : argE [(.pt j0 0), (.mp j1), (.v (.string a2)), (.v (.int .i64 a3))] 1 = (.mp j1) := rfl
 have E2 : argE [(.pt j0 0), (.mp j1), (.v (.string a2)), (.v (.int .i64 a3))] 2 = (.v (.string a2)) := rfl
 have E3 : argE [(.pt j0 0), (.mp j1), (.v (.string a2)), (.v (.int .i64 a3))] 3 = (.v (.int .i64 a3)) := rfl
 have TT := cj6 Expr.rlen T_104 T_107 T_3 T_30 T_9
 obtain ⟨y1, h2, h⟩ := bnd_some h
 refine w_sa (fun e s => ∃ τ : Store, Gx s j0 (AObj.box 106 [(.v (.int .i64 a0.at_)), (.v (.int .i64 a0.e))]) ∧ Gx s j1 (AObj.map .s (mpF check_finder_fresh_V0 (Mp.get y1)) (Mp.n y1)) ∧ e 0 = (.pt j0 0) ∧ e 1 = (.mp j1) ∧ e 2 = (.v (.string a2)) ∧ e 3 = (.v (.int .i64 a3)) ∧ Fr σ τ [j0, j1] ∧ Pre τ s) ?_ fun e s hI => ?_
 ·have R3 : Option.getD (Option.map check_finder_fresh_V0 (Mp.get a1 a2)) (.v (.int .i64 (0 : Int))) = (.v (.int .i64 (Option.getD (Mp.get a1 a2) (0 : Int)))) := by cases Mp.get a1 a2 <;> rfl
  refine w_x (cj11 E0 E1 E2 E3 H0.get H1.get R3 (putO_some h2).1 (H0.ne (Gx.apart H1 H0 (by intro h; cases h)) (some (AObj.map .s (upm (mpF check_finder_fresh_V0 (Mp.get a1)) (.string a2) (.v (.int .i64 (IntKind.i64.wrap ((Option.getD (Mp.get a1 a2) (0 : Int)) + (1 : Int)))))) (Mp.n a1 + 1)))).get (Gx.cast (Gx.same H1 (AObj.map .s (upm (mpF check_finder_fresh_V0 (Mp.get a1)) (.string a2) (.v (.int .i64 (IntKind.i64.wrap ((Option.getD (Mp.get a1 a2) (0 : Int)) + (1 : Int)))))) (Mp.n a1 + 1))) (mpF_put (f := check_finder_fresh_V0) h2)).get TT) (k := ?_)
  have q1 := Gx.apart H1 H0 (by intro h; cases h)
  have q2 := Gx.same H1 (AObj.map .s (upm (mpF check_finder_fresh_V0 (Mp.get a1)) (.string a2) (.v (.int .i64 (IntKind.i64.wrap ((Option.getD (Mp.get a1 a2) (0 : Int)) + (1 : Int)))))) (Mp.n a1 + 1))
  have q3 := Gx.cast q2 (mpF_put (f := check_finder_fresh_V0) h2)
  have q4 := cj11 E0 E1 E2 E3 H0.get H1.get R3 (putO_some h2).1 (H0.ne q1 (some (AObj.map .s (upm (mpF check_finder_fresh_V0 (Mp.get a1)) (.string a2) (.v (.int .i64 (IntKind.i64.wrap ((Option.getD (Mp.get a1 a2) (0 : Int)) + (1 : Int)))))) (Mp.n a1 + 1)))).get q3.get TT
  exact cw_n ⟨_, WkE.refl _, (List.set σ j1 (some (AObj.map .s (upm (mpF check_finder_fresh_V0 (Mp.get a1)) (.string a2) (.v (.int .i64 (IntKind.i64.wrap ((Option.getD (Mp.get a1 a2) (0 : Int)) + (1 : Int)))))) (Mp.n a1 + 1)))), (H0.ne q1 (some (AObj.map .s (upm (mpF check_finder_fresh_V0 (Mp.get a1)) (.string a2) (.v (.int .i64 (IntKind.i64.wrap ((Option.getD (Mp.get a1 a2) (0 : Int)) + (1 : Int)))))) (Mp.n a1 + 1)))), q3, (xv q4), (xv q4), (xv q4), (xv q4), (hF.set (by simp) (some (AObj.map .s (upm (mpF check_finder_fresh_V0 (Mp.get a1)) (.string a2) (.v (.int .i64 (IntKind.i64.wrap ((Option.getD (Mp.get a1 a2) (0 : Int)) + (1 : Int)))))) (Mp.n a1 + 1)))), (hP.setp (hF.lt jl1) (some (AObj.map .s (upm (mpF check_finder_fresh_V0 (Mp.get a1)) (.string a2) (.v (.int .i64 (IntKind.i64.wrap ((Option.getD (Mp.get a1 a2) (0 : Int)) + (1 : Int)))))) (Mp.n a1 + 1))))⟩
 obtain ⟨τ, X0, X1, E0, E1, E2, E3, hF, hP⟩ := hI
 refine w_sa (fun e s => ∃ τ : Store, Gx s j0 (AObj.box 106 [(.v (.int .i64 a0.at_)), (.v (.int .i64 a0.e))]) ∧ Gx s j1 (AObj.map .s (mpF check_finder_fresh_V0 (Mp.get y1)) (Mp.n y1)) ∧ e 0 = (.pt j0 0) ∧ e 3 = (.v (.int .i64 a3)) ∧ e 15 = (.v (.bool (decide ((1 : Int) < (Option.getD (Mp.get y1 a2) (0 : Int)))))) ∧ Fr σ τ [j0, j1] ∧ Pre τ s) ?_ fun e s hI => ?_
 ·have R4 : Option.getD (Option.map check_finder_fresh_V0 (Mp.get y1 a2)) (.v (.int .i64 (0 : Int))) = (.v (.int .i64 (Option.getD (Mp.get y1 a2) (0 : Int)))) := by cases Mp.get y1 a2 <;> rfl
  refine w_x (cj8 E0 E1 E2 E3 X0.get X1.get R4 TT) (k := ?_)
  have q5 := cj8 E0 E1 E2 E3 X0.get X1.get R4 TT
  exact cw_n ⟨_, WkE.refl _, τ, X0, X1, (xv q5), (xv q5), (xv q5), hF, hP⟩
 obtain ⟨τ, X0, X1, E0, E3, E15, hF, hP⟩ := hI
 obtain ⟨x5, h6, h⟩ := bnd_some h
 refine w_an (fun e s => ∃ vf_7 : check_finder, ∃ τ : Store, vf_7 = x5 ∧ Gx s j0 (AObj.box 106 [(.v (.int .i64 vf_7.at_)), (.v (.int .i64 vf_7.e))]) ∧ Gx s j1 (AObj.map .s (mpF check_finder_fresh_V0 (Mp.get y1)) (Mp.n y1)) ∧ Fr σ τ [j0, j1] ∧ Pre τ s) ?_ fun e s hI => ?_
 ·rcases ite_some h6 with ⟨hb8, h6⟩ | ⟨hb8, h6⟩
  ·refine xt (cj4 E0 E3 E15 hb8) ?_
   obtain ⟨y9, h10, h6⟩ := bnd_some h6
   refine w_x (cj8 E0 E3 E15 X0.get X1.get (Gx.same X0 (AObj.box 106 [(.v (.int .i64 y9.2.at_)), (.v (.int .i64 y9.2.e))])).get (X1.ne (Gx.apart X0 X1 (by intro h; cases h)) (some (AObj.box 106 [(.v (.int .i64 y9.2.at_)), (.v (.int .i64 y9.2.e))]))).get TT) (k := ?_)
   refine EC.wka (.cons (.refl _) (.cons (.refl _) (.cons (.refl _) .nil))) (S_check_finder_fail _ _ _ _ h10 _ _ _ X0 ?_)
   refine w_y (cj8 E0 E3 E15 X0.get X1.get (Gx.same X0 (AObj.box 106 [(.v (.int .i64 y9.2.at_)), (.v (.int .i64 y9.2.e))])).get (X1.ne (Gx.apart X0 X1 (by intro h; cases h)) (some (AObj.box 106 [(.v (.int .i64 y9.2.at_)), (.v (.int .i64 y9.2.e))]))).get TT) (k := ?_)
   obtain rfl := some_inj h6
   exact ct_n ⟨_, (List.set τ j0 (some (AObj.box 106 [(.v (.int .i64 y9.2.at_)), (.v (.int .i64 y9.2.e))]))), rfl, (Gx.same X0 (AObj.box 106 [(.v (.int .i64 y9.2.at_)), (.v (.int .i64 y9.2.e))])), (X1.ne (Gx.apart X0 X1 (by intro h; cases h)) (some (AObj.box 106 [(.v (.int .i64 y9.2.at_)), (.v (.int .i64 y9.2.e))]))), (hF.set (by simp) (some (AObj.box 106 [(.v (.int .i64 y9.2.at_)), (.v (.int .i64 y9.2.e))]))), (hP.setp (hF.lt jl0) (some (AObj.box 106 [(.v (.int .i64 y9.2.at_)), (.v (.int .i64 y9.2.e))])))⟩
  ·refine xf (cj4 E0 E3 E15 hb8) ?_
   refine w_skip ?_
   obtain rfl := some_inj h6
   exact ct_n ⟨_, τ, rfl, X0, X1, hF, hP⟩
 obtain ⟨vf_7, τ, rfl, X0, X1, hF, hP⟩ := hI
 try dsimp only at h
 obtain rfl := some_inj h
 have hn11 : (List.map (·.1) ([(j0, (AObj.box 106 [(.v (.int .i64 vf_7.at_)), (.v (.int .i64 vf_7.e))])), (j1, (AObj.map .s (mpF check_finder_fresh_V0 (Mp.get y1)) (Mp.n y1)))] : List (Nat × AObj))).Nodup := (List.nodup_cons.2 ⟨(by simp only [List.map_cons, List.map_nil, List.mem_cons, List.not_mem_nil, or_false, not_or]; exact (Gx.apart X0 X1 (by intro h; cases h))), (List.nodup_cons.2 ⟨(fun h => by simp at h), List.nodup_nil⟩)⟩)
 have he12 := Fr.eq (l := [(j0, (AObj.box 106 [(.v (.int .i64 vf_7.at_)), (.v (.int .i64 vf_7.e))])), (j1, (AObj.map .s (mpF check_finder_fresh_V0 (Mp.get y1)) (Mp.n y1)))]) hF hn11 (List.forall_mem_cons.2 ⟨⟨jl0, (Gx.back X0 hP (hF.lt jl0))⟩, (List.forall_mem_cons.2 ⟨⟨jl1, (Gx.back X1 hP (hF.lt jl1))⟩, (fun x hx => absurd hx (by simp))⟩)⟩)
 exact w_end (fun h => absurd rfl h) (xr (rs := #[]) trivial) ⟨[(j0, (AObj.box 106 [(.v (.int .i64 vf_7.at_)), (.v (.int .i64 vf_7.e))])), (j1, (AObj.map .s (mpF check_finder_fresh_V0 (Mp.get y1)) (Mp.n y1)))], hn11, (List.forall_mem_cons.2 ⟨⟨jl0, (ClO.bx (ClL.cons (Cn.cl (.v _) _) (ClL.cons (Cn.cl (.v _) _) ClL.nil)))⟩, (List.forall_mem_cons.2 ⟨⟨jl1, ((CnO.mp (fun _ => (.v _)) _ _).cl _)⟩, (fun x hx => absurd hx (by simp))⟩)⟩), he12 ▸ hP, (.tu []), (.refl _), (.tu CnL.nil), hK⟩
end Go.Proofs.Ytohmmfimedgccaa.E
end
section
namespace Go.Proofs.Ytohmmfimedgccaa.E
set_option maxRecDepth 100000
set_option maxHeartbeats 4000000
set_option linter.unusedVariables false
set_option linter.unusedSimpArgs false
noncomputable def check_finder_node_L1 (v9_4 : (Mp Int)) (y21 : (List Expr)) (f_check_finder_fail : check_finder → Int → Int → Option (Unit × check_finder)) : (Int × check_finder) → Option ((Int × check_finder) ⊕ check_finder)
 | (v28_26, vf_27) =>
  if (decide (v28_26 < ((List.length y21 : Nat) : Int))) then
   ((getI y21 v28_26).bind fun y34 =>
   (if (decide ((Option.getD (Mp.get v9_4 y34.name) (0 : Int)) = (0 : Int))) then
    (f_check_finder_fail vf_27 y34.at_ (3 : Int)).bind fun y42 =>
    some y42.2
   else
    some vf_27 : Option check_finder).bind fun vf_40 =>
   some vf_40 : Option check_finder).bind fun vf_33 =>
   some (.inl ((IntKind.i64.wrap (v28_26 + (1 : Int))), vf_33))
  else
   some (.inr vf_27)
noncomputable def check_finder_node_L0 (a1 : Node) (f_check_finder_fresh : check_finder → (Mp Int) → ByteArray → Int → Option (Unit × check_finder × (Mp Int))) : (Int × check_finder × (Mp Int)) → Option ((Int × check_finder × (Mp Int)) ⊕ (check_finder × (Mp Int)))
 | (v13_5, vf_6, v9_7) =>
  if (decide (v13_5 < ((List.length a1.params : Nat) : Int))) then
   ((getI a1.params v13_5).bind fun y15 =>
   (f_check_finder_fresh vf_6 v9_7 y15 a1.at_).bind fun y18 =>
   some (y18.2.1, y18.2.2) : Option (check_finder × (Mp Int))).bind fun (vf_13, v9_14) =>
   some (.inl ((IntKind.i64.wrap (v13_5 + (1 : Int))), vf_13, v9_14))
  else
   some (.inr (vf_6, v9_7))
noncomputable def B_check_finder_node (f_check_finder_fresh : check_finder → (Mp Int) → ByteArray → Int → Option (Unit × check_finder × (Mp Int))) (f_check_finder_fail : check_finder → Int → Int → Option (Unit × check_finder)) (f_body_Names : Expr → Option (List Expr)) (a0 : check_finder) (a1 : Node) : Option (Unit × check_finder) :=
 (iterO (check_finder_node_L0 a1 f_check_finder_fresh) ((0 : Int), a0, (Mp.emp : Mp Int)) : Option (check_finder × (Mp Int))).bind fun (vf_3, v9_4) =>
 (f_body_Names a1.body).bind fun y21 =>
 (iterO (check_finder_node_L1 v9_4 y21 f_check_finder_fail) ((0 : Int), vf_3) : Option check_finder).bind fun vf_25 =>
 some ((), vf_25)
abbrev check_finder_node_V0 : Int → PV := fun v : Int => (PV.v (.int .i64 v))
abbrev check_finder_node_A0 (a1 : Node) : List PV := [(.v (.string a1.name)), (.sl (List.map C_s a1.params)), (.v (.int .i64 a1.budget)), (.v (.int .i64 a1.body.kind)), (.v (.string a1.body.name)), (.v (.int .i64 a1.body.n)), (.v (.int .i64 a1.body.d)), (.sl (Expr.rows a1.body.args)), (.v (.int .i64 a1.body.at_)), (.v (.int .i64 a1.at_))]
theorem W_check_finder_node (f_check_finder_fresh : check_finder → (Mp Int) → ByteArray → Int → Option (Unit × check_finder × (Mp Int))) (f_check_finder_fail : check_finder → Int → Int → Option (Unit × check_finder)) (f_body_Names : Expr → Option (List Expr)) (S_check_finder_fresh : Sat_check_finder_fresh f_check_finder_fresh) (S_check_finder_fail : Sat_check_finder_fail f_check_finder_fail) (S_body_Names : Sat_body_Names f_body_Names) : Sat_check_finder_node (B_check_finder_node f_check_finder_fresh f_check_finder_fail f_body_Names) := by
 intro a0 a1 r h σ K j0 H0 hK
 refine w_fq (Q := fun r s => ∃ l : List (Nat × AObj), (l.map (·.1)).Nodup ∧ (∀ x ∈ l, x.1 < σ.length ∧ ClO σ.length x.2) ∧ Pq σ l K r s) Try.func45 rfl rfl (by kernel_rfl) (fun _ _ h => h) ?_
 unfold B_check_finder_node at h
 have hP := Pre.refl σ
 have jl0 := H0.lt
 have hF := Fr.refl σ [j0]
 have E0 : argE [(.pt j0 0), (.ag (check_finder_node_A0 a1))] 0 = (.pt j0 0) := rfl
 have E1 : argE [(.pt j0 0), (.ag (check_finder_node_A0 a1))] 1 = (.ag (check_finder_node_A0 a1)) := rfl
 have TT := cj11 Expr.rlen T_104 T_107 T_2 T_3 T_30 T_37 T_39 T_9 T_97 T_99
 refine w_sa (fun e s => ∃ i3 : Nat, ∃ τ : Store, Gx s j0 (AObj.box 106 [(.v (.int .i64 a0.at_)), (.v (.int .i64 a0.e))]) ∧ Bx σ s i3 99 (check_finder_node_A0 a1) ∧ e 0 = (.pt j0 0) ∧ e 3 = (.pt i3 0) ∧ j0 ≠ i3 ∧ Fr σ τ [j0] ∧ Pre τ s) ?_ fun e s hI => ?_
 ·refine w_x (cj6 E0 E1 H0.get H0.any H0.any2 TT) (k := ?_)
  have q1 := cj6 E0 E1 H0.get H0.any H0.any2 TT
  exact cw_n ⟨_, WkE.refl _, σ.length, σ, (H0.app [some (AObj.box 99 (check_finder_node_A0 a1))]), (Bx.newf hF hP 99 (check_finder_node_A0 a1)), (xv q1), (xv q1), (Nat.ne_of_lt H0.lt), hF, (hP.app _)⟩
 obtain ⟨i3, τ, X0, X3, E0, E3, N0__3, hF, hP⟩ := hI
 refine w_sa (fun e s => ∃ i9 : Nat, ∃ τ : Store, Gx s j0 (AObj.box 106 [(.v (.int .i64 a0.at_)), (.v (.int .i64 a0.e))]) ∧ Bx σ s i3 99 (check_finder_node_A0 a1) ∧ Gx s i9 (AObj.map .s (mpF check_finder_node_V0 (Mp.get (Mp.emp : Mp Int))) (Mp.n (Mp.emp : Mp Int))) ∧ σ.length ≤ i9 ∧ e 0 = (.pt j0 0) ∧ e 3 = (.pt i3 0) ∧ e 4 = (.mp i9) ∧ j0 ≠ i3 ∧ Fr σ τ [j0] ∧ Pre τ s) ?_ fun e s hI => ?_
 ·refine w_x (cj9 E0 E3 X0.get X0.any X0.any2 X3.get X3.any X3.any2 TT) (k := ?_)
  have q2 := cj9 E0 E3 X0.get X0.any X0.any2 X3.get X3.any X3.any2 TT
  exact cw_n ⟨_, WkE.refl _, s.length, τ, (X0.app [some (AObj.map .s (fun _ => none) 0)]), (X3.app [some (AObj.map .s (fun _ => none) 0)]), (Gx.cast (Gx.new s (AObj.map .s (fun _ => none) 0)) (mpF_emp check_finder_node_V0)), (by have := (hP).le; rw [(hF).1] at this; exact this), (xv q2), (xv q2), (xv q2), N0__3, hF, (hP.app [some (AObj.map .s (fun _ => none) 0)])⟩
 obtain ⟨i9, τ, X0, X3, X9, L9, E0, E3, E4, N0__3, hF, hP⟩ := hI
 refine w_assoc ?_
 refine w_sa (fun e s => ∃ τ : Store, Gx s j0 (AObj.box 106 [(.v (.int .i64 a0.at_)), (.v (.int .i64 a0.e))]) ∧ Bx σ s i3 99 (check_finder_node_A0 a1) ∧ Gx s i9 (AObj.map .s (mpF check_finder_node_V0 (Mp.get (Mp.emp : Mp Int))) (Mp.n (Mp.emp : Mp Int))) ∧ σ.length ≤ i9 ∧ e 0 = (.pt j0 0) ∧ e 3 = (.pt i3 0) ∧ e 4 = (.mp i9) ∧ e 11 = (.sl (List.map C_s a1.params)) ∧ e 12 = (.v (.int .i64 ((List.length a1.params : Nat) : Int))) ∧ e 13 = (.v (.int .i64 (0 : Int))) ∧ j0 ≠ i3 ∧ Fr σ τ [j0] ∧ Pre τ s) ?_ fun e s hI => ?_
 ·refine w_x (cj7 E0 E3 E4 X0.get X3.get X9.get TT) (k := ?_)
  have q3 := cj7 E0 E3 E4 X0.get X3.get X9.get TT
  exact cw_n ⟨_, WkE.refl _, τ, X0, X3, X9, L9, (xv q3), (xv q3), (xv q3), (xv q3), (xv q3), (xv q3), N0__3, hF, hP⟩
 obtain ⟨τ, X0, X3, X9, L9, E0, E3, E4, E11, E12, E13, N0__3, hF, hP⟩ := hI
 obtain ⟨x1, h2, h⟩ := bnd_some h
 refine w_sa (fun e s => ∃ vf_3 : check_finder, ∃ v9_4 : (Mp Int), ∃ τ : Store, (vf_3, v9_4) = x1 ∧ Gx s j0 (AObj.box 106 [(.v (.int .i64 vf_3.at_)), (.v (.int .i64 vf_3.e))]) ∧ Bx σ s i3 99 (check_finder_node_A0 a1) ∧ Gx s i9 (AObj.map .s (mpF check_finder_node_V0 (Mp.get v9_4)) (Mp.n v9_4)) ∧ σ.length ≤ i9 ∧ e 0 = (.pt j0 0) ∧ e 3 = (.pt i3 0) ∧ e 4 = (.mp i9) ∧ j0 ≠ i3 ∧ Fr σ τ [j0] ∧ Pre τ s) ?_ fun e s hI => ?_
 ·refine w_block ?_
  have q4 := cj6 E0 E3 E4 E11 E12 E13
  refine w_iter h2 (fun v e s => ∃ v13_5 : Int, ∃ vf_6 : check_finder, ∃ v9_7 : (Mp Int), ∃ τ : Store, (v13_5, vf_6, v9_7) = v ∧ Gx s j0 (AObj.box 106 [(.v (.int .i64 vf_6.at_)), (.v (.int .i64 vf_6.e))]) ∧ Bx σ s i3 99 (check_finder_node_A0 a1) ∧ Gx s i9 (AObj.map .s (mpF check_finder_node_V0 (Mp.get v9_7)) (Mp.n v9_7)) ∧ σ.length ≤ i9 ∧ e 0 = (.pt j0 0) ∧ e 3 = (.pt i3 0) ∧ e 4 = (.mp i9) ∧ e 11 = (.sl (List.map C_s a1.params)) ∧ e 12 = (.v (.int .i64 ((List.length a1.params : Nat) : Int))) ∧ e 13 = (.v (.int .i64 v13_5)) ∧ j0 ≠ i3 ∧ Fr σ τ [j0] ∧ Pre τ s) ⟨_, WkE.refl _, _, _, _, τ, rfl, X0, X3, X9, L9, (xv q4), (xv q4), (xv q4), (xv q4), (xv q4), (xv q4), N0__3, hF, hP⟩ fun v x8 e s hf9 hI => ?_
  obtain ⟨v13_5, vf_6, v9_7, τ, rfl, X0, X3, X9, L9, E0, E3, E4, E11, E12, E13, N0__3, hF, hP⟩ := hI
  unfold check_finder_node_L0 at hf9
  try dsimp only at hf9
  refine w_sa (fun e s => ∃ τ : Store, Gx s j0 (AObj.box 106 [(.v (.int .i64 vf_6.at_)), (.v (.int .i64 vf_6.e))]) ∧ Bx σ s i3 99 (check_finder_node_A0 a1) ∧ Gx s i9 (AObj.map .s (mpF check_finder_node_V0 (Mp.get v9_7)) (Mp.n v9_7)) ∧ σ.length ≤ i9 ∧ e 0 = (.pt j0 0) ∧ e 3 = (.pt i3 0) ∧ e 4 = (.mp i9) ∧ e 11 = (.sl (List.map C_s a1.params)) ∧ e 12 = (.v (.int .i64 ((List.length a1.params : Nat) : Int))) ∧ e 13 = (.v (.int .i64 v13_5)) ∧ e 14 = (.v (.bool (decide (v13_5 < ((List.length a1.params : Nat) : Int))))) ∧ j0 ≠ i3 ∧ Fr σ τ [j0] ∧ Pre τ s) ?_ fun e s hI => ?_
  ·refine w_x (cj10 E0 E3 E4 E11 E12 E13 X0.get X3.get X9.get TT) (k := ?_)
   have q5 := cj10 E0 E3 E4 E11 E12 E13 X0.get X3.get X9.get TT
   exact cw_n ⟨_, WkE.refl _, τ, X0, X3, X9, L9, (xv q5), (xv q5), (xv q5), (xv q5), (xv q5), (xv q5), (xv q5), N0__3, hF, hP⟩
  obtain ⟨τ, X0, X3, X9, L9, E0, E3, E4, E11, E12, E13, E14, N0__3, hF, hP⟩ := hI
  refine w_seq ?_
  rcases ite_some hf9 with ⟨hb10, hf9⟩ | ⟨hb10, hf9⟩
  ·refine xt (cj8 E0 E3 E4 E11 E12 E13 E14 hb10) ?_
   refine w_skip ?_
   refine w_sq ?_
   obtain ⟨x11, h12, hf9⟩ := bnd_some hf9
   refine w_sa (fun e s => ∃ vf_13 : check_finder, ∃ v9_14 : (Mp Int), ∃ τ : Store, (vf_13, v9_14) = x11 ∧ Gx s j0 (AObj.box 106 [(.v (.int .i64 vf_13.at_)), (.v (.int .i64 vf_13.e))]) ∧ Bx σ s i3 99 (check_finder_node_A0 a1) ∧ Gx s i9 (AObj.map .s (mpF check_finder_node_V0 (Mp.get v9_14)) (Mp.n v9_14)) ∧ σ.length ≤ i9 ∧ e 0 = (.pt j0 0) ∧ e 3 = (.pt i3 0) ∧ e 4 = (.mp i9) ∧ e 11 = (.sl (List.map C_s a1.params)) ∧ e 12 = (.v (.int .i64 ((List.length a1.params : Nat) : Int))) ∧ e 13 = (.v (.int .i64 v13_5)) ∧ j0 ≠ i3 ∧ Fr σ τ [j0] ∧ Pre τ s) ?_ fun e s hI => ?_
   ·refine w_block ?_
    obtain ⟨y15, h16, h12⟩ := bnd_some h12
    refine w_sa (fun e s => ∃ τ : Store, Gx s j0 (AObj.box 106 [(.v (.int .i64 vf_6.at_)), (.v (.int .i64 vf_6.e))]) ∧ Bx σ s i3 99 (check_finder_node_A0 a1) ∧ Gx s i9 (AObj.map .s (mpF check_finder_node_V0 (Mp.get v9_7)) (Mp.n v9_7)) ∧ σ.length ≤ i9 ∧ e 0 = (.pt j0 0) ∧ e 3 = (.pt i3 0) ∧ e 4 = (.mp i9) ∧ e 6 = (.v (.string y15)) ∧ e 11 = (.sl (List.map C_s a1.params)) ∧ e 12 = (.v (.int .i64 ((List.length a1.params : Nat) : Int))) ∧ e 13 = (.v (.int .i64 v13_5)) ∧ j0 ≠ i3 ∧ Fr σ τ [j0] ∧ Pre τ s) ?_ fun e s hI => ?_
    ·have R17 : (List.map C_s a1.params)[(v13_5).toNat]? = some [(.v (.string y15))] := map_get (getI_some h16).2
     refine w_x (cj13 E0 E3 E4 E11 E12 E13 E14 X0.get X3.get X9.get R17 (getI_some h16).1 TT) (k := ?_)
     have q6 := cj13 E0 E3 E4 E11 E12 E13 E14 X0.get X3.get X9.get R17 (getI_some h16).1 TT
     exact cw_n ⟨_, WkE.refl _, τ, X0, X3, X9, L9, (xv q6), (xv q6), (xv q6), (xv q6), (xv q6), (xv q6), (xv q6), N0__3, hF, hP⟩
    obtain ⟨τ, X0, X3, X9, L9, E0, E3, E4, E6, E11, E12, E13, N0__3, hF, hP⟩ := hI
    obtain ⟨y18, h19, h12⟩ := bnd_some h12
    have q7 := Gx.apart X0 X9 (by intro h; cases h)
    have q8 := Gx.same X0 (AObj.box 106 [(.v (.int .i64 y18.2.1.at_)), (.v (.int .i64 y18.2.1.e))])
    have q9 := X9.ne q7 (some (AObj.box 106 [(.v (.int .i64 y18.2.1.at_)), (.v (.int .i64 y18.2.1.e))]))
    have q10 := X3.ne N0__3 (some (AObj.box 106 [(.v (.int .i64 y18.2.1.at_)), (.v (.int .i64 y18.2.1.e))]))
    refine w_x (cj17 E0 E3 E4 E6 E11 E12 E13 X0.get X3.get X9.get q8.get q10.get q9.get (q8.ne (Gx.apart q9 q8 (by intro h; cases h)) (some (AObj.map .s (mpF check_finder_node_V0 (Mp.get y18.2.2)) (Mp.n y18.2.2)))).get (q10.ne (Gx.apart q9 q10.gx (by intro h; cases h)) (some (AObj.map .s (mpF check_finder_node_V0 (Mp.get y18.2.2)) (Mp.n y18.2.2)))).get (Gx.same q9 (AObj.map .s (mpF check_finder_node_V0 (Mp.get y18.2.2)) (Mp.n y18.2.2))).get TT) (k := ?_)
    refine EC.wka (.cons (.refl _) (.cons (.refl _) (.cons (.refl _) (.cons (.refl _) .nil)))) (S_check_finder_fresh _ _ _ _ _ h19 _ _ _ _ X0 X9 ?_)
    have q11 := Gx.apart X0 X9 (by intro h; cases h)
    have q12 := Gx.same X0 (AObj.box 106 [(.v (.int .i64 y18.2.1.at_)), (.v (.int .i64 y18.2.1.e))])
    have q13 := X9.ne q11 (some (AObj.box 106 [(.v (.int .i64 y18.2.1.at_)), (.v (.int .i64 y18.2.1.e))]))
    have q14 := X3.ne N0__3 (some (AObj.box 106 [(.v (.int .i64 y18.2.1.at_)), (.v (.int .i64 y18.2.1.e))]))
    refine w_y (cj17 E0 E3 E4 E6 E11 E12 E13 X0.get X3.get X9.get q12.get q14.get q13.get (q12.ne (Gx.apart q13 q12 (by intro h; cases h)) (some (AObj.map .s (mpF check_finder_node_V0 (Mp.get y18.2.2)) (Mp.n y18.2.2)))).get (q14.ne (Gx.apart q13 q14.gx (by intro h; cases h)) (some (AObj.map .s (mpF check_finder_node_V0 (Mp.get y18.2.2)) (Mp.n y18.2.2)))).get (Gx.same q13 (AObj.map .s (mpF check_finder_node_V0 (Mp.get y18.2.2)) (Mp.n y18.2.2))).get TT) (k := ?_)
    refine w_bk ?_
    obtain rfl := some_inj h12
    have q15 := Gx.apart X0 X9 (by intro h; cases h)
    have q16 := Gx.same X0 (AObj.box 106 [(.v (.int .i64 y18.2.1.at_)), (.v (.int .i64 y18.2.1.e))])
    have q17 := X9.ne q15 (some (AObj.box 106 [(.v (.int .i64 y18.2.1.at_)), (.v (.int .i64 y18.2.1.e))]))
    have q18 := Gx.apart q17 q16 (by intro h; cases h)
    have q19 := X3.ne N0__3 (some (AObj.box 106 [(.v (.int .i64 y18.2.1.at_)), (.v (.int .i64 y18.2.1.e))]))
    have q20 := Gx.apart q17 q19.gx (by intro h; cases h)
    have q21 := Gx.same q17 (AObj.map .s (mpF check_finder_node_V0 (Mp.get y18.2.2)) (Mp.n y18.2.2))
    have q22 := cj17 E0 E3 E4 E6 E11 E12 E13 X0.get X3.get X9.get q16.get q19.get q17.get (q16.ne q18 (some (AObj.map .s (mpF check_finder_node_V0 (Mp.get y18.2.2)) (Mp.n y18.2.2)))).get (q19.ne q20 (some (AObj.map .s (mpF check_finder_node_V0 (Mp.get y18.2.2)) (Mp.n y18.2.2)))).get q21.get TT
    exact cw_n ⟨_, WkE.refl _, _, _, (List.set τ j0 (some (AObj.box 106 [(.v (.int .i64 y18.2.1.at_)), (.v (.int .i64 y18.2.1.e))]))), rfl, (q16.ne q18 (some (AObj.map .s (mpF check_finder_node_V0 (Mp.get y18.2.2)) (Mp.n y18.2.2)))), (q19.ne q20 (some (AObj.map .s (mpF check_finder_node_V0 (Mp.get y18.2.2)) (Mp.n y18.2.2)))), q21, L9, (xv q22), (xv q22), (xv q22), (xv q22), (xv q22), (xv q22), N0__3, (hF.set (by simp) (some (AObj.box 106 [(.v (.int .i64 y18.2.1.at_)), (.v (.int .i64 y18.2.1.e))]))), ((hP.setp (hF.lt jl0) (some (AObj.box 106 [(.v (.int .i64 y18.2.1.at_)), (.v (.int .i64 y18.2.1.e))]))).set ((hF.set (by simp) (some (AObj.box 106 [(.v (.int .i64 y18.2.1.at_)), (.v (.int .i64 y18.2.1.e))]))).ge L9) (some (AObj.map .s (mpF check_finder_node_V0 (Mp.get y18.2.2)) (Mp.n y18.2.2))))⟩
   obtain ⟨vf_13, v9_14, τ, rfl, X0, X3, X9, L9, E0, E3, E4, E11, E12, E13, N0__3, hF, hP⟩ := hI
   try dsimp only at hf9
   refine w_x (cj10 E0 E3 E4 E11 E12 E13 X0.get X3.get X9.get TT) (k := ?_)
   obtain rfl := some_inj hf9
   have q23 := cj10 E0 E3 E4 E11 E12 E13 X0.get X3.get X9.get TT
   exact iq_n rfl ⟨_, WkE.refl _, _, _, _, τ, rfl, X0, X3, X9, L9, (xv q23), (xv q23), (xv q23), (xv q23), (xv q23), (xv q23), N0__3, hF, hP⟩
  ·refine xf (cj8 E0 E3 E4 E11 E12 E13 E14 hb10) ?_
   refine w_exit ?_
   refine w_sqx ?_
   obtain rfl := some_inj hf9
   refine iq_x rfl fun hr20 => ?_
   obtain rfl := hr20
   refine w_bkx ?_
   have q24 := cj7 E0 E3 E4 E11 E12 E13 E14
   exact cw_n ⟨_, WkE.refl _, _, _, τ, rfl, X0, X3, X9, L9, (xv q24), (xv q24), (xv q24), N0__3, hF, hP⟩
 obtain ⟨vf_3, v9_4, τ, rfl, X0, X3, X9, L9, E0, E3, E4, N0__3, hF, hP⟩ := hI
 try dsimp only at h
 obtain ⟨y21, h22, h⟩ := bnd_some h
 refine w_sa (fun e s => ∃ τ : Store, Gx s j0 (AObj.box 106 [(.v (.int .i64 vf_3.at_)), (.v (.int .i64 vf_3.e))]) ∧ Gx s i9 (AObj.map .s (mpF check_finder_node_V0 (Mp.get v9_4)) (Mp.n v9_4)) ∧ σ.length ≤ i9 ∧ e 0 = (.pt j0 0) ∧ e 4 = (.mp i9) ∧ e 26 = (.sl (Expr.rows y21)) ∧ e 27 = (.v (.int .i64 ((List.length y21 : Nat) : Int))) ∧ e 28 = (.v (.int .i64 (0 : Int))) ∧ Fr σ τ [j0] ∧ Pre τ s) ?_ fun e s hI => ?_
 ·refine w_x (cj7 E0 E3 E4 X0.get X3.get X9.get TT) (k := ?_)
  refine EC.wka (.cons (.refl _) .nil) (S_body_Names _ _ h22 _ _  ?_)
  refine w_y (cj7 E0 E3 E4 X0.get X3.get X9.get TT) (k := ?_)
  have q25 := cj7 E0 E3 E4 X0.get X3.get X9.get TT
  exact cw_n ⟨_, WkE.refl _, τ, X0, X9, L9, (xv q25), (xv q25), (xv q25), (xv q25), (xv q25), hF, hP⟩
 obtain ⟨τ, X0, X9, L9, E0, E4, E26, E27, E28, hF, hP⟩ := hI
 obtain ⟨x23, h24, h⟩ := bnd_some h
 refine w_an (fun e s => ∃ vf_25 : check_finder, ∃ τ : Store, vf_25 = x23 ∧ Gx s j0 (AObj.box 106 [(.v (.int .i64 vf_25.at_)), (.v (.int .i64 vf_25.e))]) ∧ Fr σ τ [j0] ∧ Pre τ s) ?_ fun e s hI => ?_
 ·refine w_block ?_
  have q26 := cj5 E0 E4 E26 E27 E28
  refine w_iter h24 (fun v e s => ∃ v28_26 : Int, ∃ vf_27 : check_finder, ∃ τ : Store, (v28_26, vf_27) = v ∧ Gx s j0 (AObj.box 106 [(.v (.int .i64 vf_27.at_)), (.v (.int .i64 vf_27.e))]) ∧ Gx s i9 (AObj.map .s (mpF check_finder_node_V0 (Mp.get v9_4)) (Mp.n v9_4)) ∧ σ.length ≤ i9 ∧ e 0 = (.pt j0 0) ∧ e 4 = (.mp i9) ∧ e 26 = (.sl (Expr.rows y21)) ∧ e 27 = (.v (.int .i64 ((List.length y21 : Nat) : Int))) ∧ e 28 = (.v (.int .i64 v28_26)) ∧ Fr σ τ [j0] ∧ Pre τ s) ⟨_, WkE.refl _, _, _, τ, rfl, X0, X9, L9, (xv q26), (xv q26), (xv q26), (xv q26), (xv q26), hF, hP⟩ fun v x28 e s hf29 hI => ?_
  obtain ⟨v28_26, vf_27, τ, rfl, X0, X9, L9, E0, E4, E26, E27, E28, hF, hP⟩ := hI
  unfold check_finder_node_L1 at hf29
  try dsimp only at hf29
  refine w_sa (fun e s => ∃ τ : Store, Gx s j0 (AObj.box 106 [(.v (.int .i64 vf_27.at_)), (.v (.int .i64 vf_27.e))]) ∧ Gx s i9 (AObj.map .s (mpF check_finder_node_V0 (Mp.get v9_4)) (Mp.n v9_4)) ∧ σ.length ≤ i9 ∧ e 0 = (.pt j0 0) ∧ e 4 = (.mp i9) ∧ e 26 = (.sl (Expr.rows y21)) ∧ e 27 = (.v (.int .i64 ((List.length y21 : Nat) : Int))) ∧ e 28 = (.v (.int .i64 v28_26)) ∧ e 29 = (.v (.bool (decide (v28_26 < ((List.length y21 : Nat) : Int))))) ∧ Fr σ τ [j0] ∧ Pre τ s) ?_ fun e s hI => ?_
  ·refine w_x (cj8 E0 E4 E26 E27 E28 X0.get X9.get TT) (k := ?_)
   have q27 := cj8 E0 E4 E26 E27 E28 X0.get X9.get TT
   exact cw_n ⟨_, WkE.refl _, τ, X0, X9, L9, (xv q27), (xv q27), (xv q27), (xv q27), (xv q27), (xv q27), hF, hP⟩
  obtain ⟨τ, X0, X9, L9, E0, E4, E26, E27, E28, E29, hF, hP⟩ := hI
  refine w_seq ?_
  rcases ite_some hf29 with ⟨hb30, hf29⟩ | ⟨hb30, hf29⟩
  ·refine xt (cj7 E0 E4 E26 E27 E28 E29 hb30) ?_
   refine w_skip ?_
   refine w_sq ?_
   obtain ⟨x31, h32, hf29⟩ := bnd_some hf29
   refine w_sa (fun e s => ∃ vf_33 : check_finder, ∃ τ : Store, vf_33 = x31 ∧ Gx s j0 (AObj.box 106 [(.v (.int .i64 vf_33.at_)), (.v (.int .i64 vf_33.e))]) ∧ Gx s i9 (AObj.map .s (mpF check_finder_node_V0 (Mp.get v9_4)) (Mp.n v9_4)) ∧ σ.length ≤ i9 ∧ e 0 = (.pt j0 0) ∧ e 4 = (.mp i9) ∧ e 26 = (.sl (Expr.rows y21)) ∧ e 27 = (.v (.int .i64 ((List.length y21 : Nat) : Int))) ∧ e 28 = (.v (.int .i64 v28_26)) ∧ Fr σ τ [j0] ∧ Pre τ s) ?_ fun e s hI => ?_
   ·refine w_block ?_
    obtain ⟨y34, h35, h32⟩ := bnd_some h32
    refine w_sa (fun e s => ∃ i8 : Nat, ∃ τ : Store, Gx s j0 (AObj.box 106 [(.v (.int .i64 vf_27.at_)), (.v (.int .i64 vf_27.e))]) ∧ Bx σ s i8 39 [(.v (.int .i64 y34.kind)), (.v (.string y34.name)), (.v (.int .i64 y34.n)), (.v (.int .i64 y34.d)), (.sl (Expr.rows y34.args)), (.v (.int .i64 y34.at_))] ∧ Gx s i9 (AObj.map .s (mpF check_finder_node_V0 (Mp.get v9_4)) (Mp.n v9_4)) ∧ σ.length ≤ i9 ∧ e 0 = (.pt j0 0) ∧ e 4 = (.mp i9) ∧ e 8 = (.pt i8 0) ∧ e 26 = (.sl (Expr.rows y21)) ∧ e 27 = (.v (.int .i64 ((List.length y21 : Nat) : Int))) ∧ e 28 = (.v (.int .i64 v28_26)) ∧ j0 ≠ i8 ∧ Fr σ τ [j0] ∧ Pre τ s) ?_ fun e s hI => ?_
    ·have R36 : (Expr.rows y21)[(v28_26).toNat]? = some [(.v (.int .i64 y34.kind)), (.v (.string y34.name)), (.v (.int .i64 y34.n)), (.v (.int .i64 y34.d)), (.sl (Expr.rows y34.args)), (.v (.int .i64 y34.at_))] := Expr.rget (getI_some h35).2
     refine w_x (cj15 E0 E4 E26 E27 E28 E29 X0.get X0.any X0.any2 X9.get X9.any X9.any2 R36 (getI_some h35).1 TT) (k := ?_)
     have q28 := cj15 E0 E4 E26 E27 E28 E29 X0.get X0.any X0.any2 X9.get X9.any X9.any2 R36 (getI_some h35).1 TT
     exact cw_n ⟨_, WkE.refl _, s.length, τ, (X0.app [some (AObj.box 39 [(.v (.int .i64 y34.kind)), (.v (.string y34.name)), (.v (.int .i64 y34.n)), (.v (.int .i64 y34.d)), (.sl (Expr.rows y34.args)), (.v (.int .i64 y34.at_))])]), (Bx.newf hF hP 39 [(.v (.int .i64 y34.kind)), (.v (.string y34.name)), (.v (.int .i64 y34.n)), (.v (.int .i64 y34.d)), (.sl (Expr.rows y34.args)), (.v (.int .i64 y34.at_))]), (X9.app [some (AObj.box 39 [(.v (.int .i64 y34.kind)), (.v (.string y34.name)), (.v (.int .i64 y34.n)), (.v (.int .i64 y34.d)), (.sl (Expr.rows y34.args)), (.v (.int .i64 y34.at_))])]), L9, (xv q28), (xv q28), (xv q28), (xv q28), (xv q28), (xv q28), (Nat.ne_of_lt X0.lt), hF, (hP.app _)⟩
    obtain ⟨i8, τ, X0, X8, X9, L9, E0, E4, E8, E26, E27, E28, N0__8, hF, hP⟩ := hI
    refine w_sa (fun e s => ∃ τ : Store, Gx s j0 (AObj.box 106 [(.v (.int .i64 vf_27.at_)), (.v (.int .i64 vf_27.e))]) ∧ Bx σ s i8 39 [(.v (.int .i64 y34.kind)), (.v (.string y34.name)), (.v (.int .i64 y34.n)), (.v (.int .i64 y34.d)), (.sl (Expr.rows y34.args)), (.v (.int .i64 y34.at_))] ∧ Gx s i9 (AObj.map .s (mpF check_finder_node_V0 (Mp.get v9_4)) (Mp.n v9_4)) ∧ σ.length ≤ i9 ∧ e 0 = (.pt j0 0) ∧ e 4 = (.mp i9) ∧ e 8 = (.pt i8 0) ∧ e 26 = (.sl (Expr.rows y21)) ∧ e 27 = (.v (.int .i64 ((List.length y21 : Nat) : Int))) ∧ e 28 = (.v (.int .i64 v28_26)) ∧ e 36 = (.v (.bool (decide ((Option.getD (Mp.get v9_4 y34.name) (0 : Int)) = (0 : Int))))) ∧ j0 ≠ i8 ∧ Fr σ τ [j0] ∧ Pre τ s) ?_ fun e s hI => ?_
    ·have R37 : Option.getD (Option.map check_finder_node_V0 (Mp.get v9_4 y34.name)) (.v (.int .i64 (0 : Int))) = (.v (.int .i64 (Option.getD (Mp.get v9_4 y34.name) (0 : Int)))) := by cases Mp.get v9_4 y34.name <;> rfl
     refine w_x (cj11 E0 E4 E8 E26 E27 E28 X0.get X8.get X9.get R37 TT) (k := ?_)
     have q29 := cj11 E0 E4 E8 E26 E27 E28 X0.get X8.get X9.get R37 TT
     exact cw_n ⟨_, WkE.refl _, τ, X0, X8, X9, L9, (xv q29), (xv q29), (xv q29), (xv q29), (xv q29), (xv q29), (xv q29), N0__8, hF, hP⟩
    obtain ⟨τ, X0, X8, X9, L9, E0, E4, E8, E26, E27, E28, E36, N0__8, hF, hP⟩ := hI
    obtain ⟨x38, h39, h32⟩ := bnd_some h32
    refine w_an (fun e s => ∃ vf_40 : check_finder, ∃ τ : Store, vf_40 = x38 ∧ Gx s j0 (AObj.box 106 [(.v (.int .i64 vf_40.at_)), (.v (.int .i64 vf_40.e))]) ∧ Gx s i9 (AObj.map .s (mpF check_finder_node_V0 (Mp.get v9_4)) (Mp.n v9_4)) ∧ σ.length ≤ i9 ∧ e 0 = (.pt j0 0) ∧ e 4 = (.mp i9) ∧ e 26 = (.sl (Expr.rows y21)) ∧ e 27 = (.v (.int .i64 ((List.length y21 : Nat) : Int))) ∧ e 28 = (.v (.int .i64 v28_26)) ∧ Fr σ τ [j0] ∧ Pre τ s) ?_ fun e s hI => ?_
    ·rcases ite_some h39 with ⟨hb41, h39⟩ | ⟨hb41, h39⟩
     ·refine xt (cj8 E0 E4 E8 E26 E27 E28 E36 hb41) ?_
      obtain ⟨y42, h43, h39⟩ := bnd_some h39
      refine w_x (cj14 E0 E4 E8 E26 E27 E28 E36 X0.get X8.get X9.get (Gx.same X0 (AObj.box 106 [(.v (.int .i64 y42.2.at_)), (.v (.int .i64 y42.2.e))])).get (X8.ne N0__8 (some (AObj.box 106 [(.v (.int .i64 y42.2.at_)), (.v (.int .i64 y42.2.e))]))).get (X9.ne (Gx.apart X0 X9 (by intro h; cases h)) (some (AObj.box 106 [(.v (.int .i64 y42.2.at_)), (.v (.int .i64 y42.2.e))]))).get TT) (k := ?_)
      refine EC.wka (.cons (.refl _) (.cons (.refl _) (.cons (.refl _) .nil))) (S_check_finder_fail _ _ _ _ h43 _ _ _ X0 ?_)
      refine w_y (cj14 E0 E4 E8 E26 E27 E28 E36 X0.get X8.get X9.get (Gx.same X0 (AObj.box 106 [(.v (.int .i64 y42.2.at_)), (.v (.int .i64 y42.2.e))])).get (X8.ne N0__8 (some (AObj.box 106 [(.v (.int .i64 y42.2.at_)), (.v (.int .i64 y42.2.e))]))).get (X9.ne (Gx.apart X0 X9 (by intro h; cases h)) (some (AObj.box 106 [(.v (.int .i64 y42.2.at_)), (.v (.int .i64 y42.2.e))]))).get TT) (k := ?_)
      obtain rfl := some_inj h39
      have q30 := Gx.apart X0 X9 (by intro h; cases h)
      have q31 := Gx.same X0 (AObj.box 106 [(.v (.int .i64 y42.2.at_)), (.v (.int .i64 y42.2.e))])
      have q32 := X9.ne q30 (some (AObj.box 106 [(.v (.int .i64 y42.2.at_)), (.v (.int .i64 y42.2.e))]))
      have q33 := X8.ne N0__8 (some (AObj.box 106 [(.v (.int .i64 y42.2.at_)), (.v (.int .i64 y42.2.e))]))
      have q34 := cj14 E0 E4 E8 E26 E27 E28 E36 X0.get X8.get X9.get q31.get q33.get q32.get TT
      exact ct_n ⟨_, (List.set τ j0 (some (AObj.box 106 [(.v (.int .i64 y42.2.at_)), (.v (.int .i64 y42.2.e))]))), rfl, q31, q32, L9, (xv q34), (xv q34), (xv q34), (xv q34), (xv q34), (hF.set (by simp) (some (AObj.box 106 [(.v (.int .i64 y42.2.at_)), (.v (.int .i64 y42.2.e))]))), (hP.setp (hF.lt jl0) (some (AObj.box 106 [(.v (.int .i64 y42.2.at_)), (.v (.int .i64 y42.2.e))])))⟩
     ·refine xf (cj8 E0 E4 E8 E26 E27 E28 E36 hb41) ?_
      refine w_skip ?_
      obtain rfl := some_inj h39
      have q35 := cj7 E0 E4 E8 E26 E27 E28 E36
      exact ct_n ⟨_, τ, rfl, X0, X9, L9, (xv q35), (xv q35), (xv q35), (xv q35), (xv q35), hF, hP⟩
    obtain ⟨vf_40, τ, rfl, X0, X9, L9, E0, E4, E26, E27, E28, hF, hP⟩ := hI
    try dsimp only at h32
    refine w_bk ?_
    obtain rfl := some_inj h32
    have q36 := cj5 E0 E4 E26 E27 E28
    exact cw_n ⟨_, WkE.refl _, _, τ, rfl, X0, X9, L9, (xv q36), (xv q36), (xv q36), (xv q36), (xv q36), hF, hP⟩
   obtain ⟨vf_33, τ, rfl, X0, X9, L9, E0, E4, E26, E27, E28, hF, hP⟩ := hI
   try dsimp only at hf29
   refine w_x (cj8 E0 E4 E26 E27 E28 X0.get X9.get TT) (k := ?_)
   obtain rfl := some_inj hf29
   have q37 := cj8 E0 E4 E26 E27 E28 X0.get X9.get TT
   exact iq_n rfl ⟨_, WkE.refl _, _, _, τ, rfl, X0, X9, L9, (xv q37), (xv q37), (xv q37), (xv q37), (xv q37), hF, hP⟩
  ·refine xf (cj7 E0 E4 E26 E27 E28 E29 hb30) ?_
   refine w_exit ?_
   refine w_sqx ?_
   obtain rfl := some_inj hf29
   refine iq_x rfl fun hr44 => ?_
   obtain rfl := hr44
   refine w_bkx ?_
   exact ct_n ⟨_, τ, rfl, X0, hF, hP⟩
 obtain ⟨vf_25, τ, rfl, X0, hF, hP⟩ := hI
 try dsimp only at h
 obtain rfl := some_inj h
 have hn45 : (List.map (·.1) ([(j0, (AObj.box 106 [(.v (.int .i64 vf_25.at_)), (.v (.int .i64 vf_25.e))]))] : List (Nat × AObj))).Nodup := (List.nodup_cons.2 ⟨(fun h => by simp at h), List.nodup_nil⟩)
 have he46 := Fr.eq (l := [(j0, (AObj.box 106 [(.v (.int .i64 vf_25.at_)), (.v (.int .i64 vf_25.e))]))]) hF hn45 (List.forall_mem_cons.2 ⟨⟨jl0, (Gx.back X0 hP (hF.lt jl0))⟩, (fun x hx => absurd hx (by simp))⟩)
 exact w_end (fun h => absurd rfl h) (xr (rs := #[]) trivial) ⟨[(j0, (AObj.box 106 [(.v (.int .i64 vf_25.at_)), (.v (.int .i64 vf_25.e))]))], hn45, (List.forall_mem_cons.2 ⟨⟨jl0, (ClO.bx (ClL.cons (Cn.cl (.v _) _) (ClL.cons (Cn.cl (.v _) _) ClL.nil)))⟩, (fun x hx => absurd hx (by simp))⟩), he46 ▸ hP, (.tu []), (.refl _), (.tu CnL.nil), hK⟩
end Go.Proofs.Ytohmmfimedgccaa.E
end
section
namespace Go.Proofs.Ytohmmfimedgccaa.E
set_option maxRecDepth 100000
set_option maxHeartbeats 4000000
set_option linter.unusedVariables false
set_option linter.unusedSimpArgs false
noncomputable def check_finder_expr_L0 (a1 : Expr) (a2 : (Mp Int)) (a3 : (Mp Int)) (f_check_finder_expr : check_finder → Expr → (Mp Int) → (Mp Int) → Option (Unit × check_finder)) : (Int × check_finder) → Option ((Int × check_finder) ⊕ check_finder)
 | (v61_31, v0_32) =>
  if (decide (v61_31 < ((List.length a1.args : Nat) : Int))) then
   ((getI a1.args v61_31).bind fun y39 =>
   (f_check_finder_expr v0_32 y39 a2 a3).bind fun y42 =>
   some y42.2 : Option check_finder).bind fun v0_38 =>
   some (.inl ((IntKind.i64.wrap (v61_31 + (1 : Int))), v0_38))
  else
   some (.inr v0_32)
noncomputable def B_check_finder_expr (f_check_finder_expr : check_finder → Expr → (Mp Int) → (Mp Int) → Option (Unit × check_finder)) (f_check_finder_fail : check_finder → Int → Int → Option (Unit × check_finder)) (a0 : check_finder) (a1 : Expr) (a2 : (Mp Int)) (a3 : (Mp Int)) : Option (Unit × check_finder) :=
 ((if ((decide (a1.kind = (1 : Int))) && (decide ((Option.getD (Mp.get a2 a1.name) (0 : Int)) = (0 : Int)))) then
  (f_check_finder_fail a0 a1.at_ (3 : Int)).bind fun y10 =>
  some y10.2
 else
  (if ((decide (a1.kind = (2 : Int))) && (decide ((Option.getD (Mp.get a3 a1.name) (0 : Int)) = (0 : Int)))) then
   (f_check_finder_fail a0 a1.at_ (3 : Int)).bind fun y18 =>
   some y18.2
  else
   (if ((decide (a1.kind = (2 : Int))) && (!decide ((Option.getD (Mp.get a3 a1.name) (0 : Int)) = ((List.length a1.args : Nat) : Int)))) then
    (f_check_finder_fail a0 a1.at_ (4 : Int)).bind fun y26 =>
    some y26.2
   else
    some a0 : Option check_finder).bind fun v0_24 =>
   some v0_24 : Option check_finder).bind fun v0_16 =>
  some v0_16 : Option check_finder).bind fun v0_8 =>
 some v0_8 : Option check_finder).bind fun v0_3 =>
 (iterO (check_finder_expr_L0 a1 a2 a3 f_check_finder_expr) ((0 : Int), v0_3) : Option check_finder).bind fun v0_30 =>
 some ((), v0_30)
abbrev check_finder_expr_V0 : Int → PV := fun v : Int => (PV.v (.int .i64 v))
abbrev check_finder_expr_A0 (a1 : Expr) : List PV := [(.v (.int .i64 a1.kind)), (.v (.string a1.name)), (.v (.int .i64 a1.n)), (.v (.int .i64 a1.d)), (.sl (Expr.rows a1.args)), (.v (.int .i64 a1.at_))]
theorem W_check_finder_expr (f_check_finder_expr : check_finder → Expr → (Mp Int) → (Mp Int) → Option (Unit × check_finder)) (f_check_finder_fail : check_finder → Int → Int → Option (Unit × check_finder)) (S_check_finder_expr : Sat_check_finder_expr f_check_finder_expr) (S_check_finder_fail : Sat_check_finder_fail f_check_finder_fail) : Sat_check_finder_expr (B_check_finder_expr f_check_finder_expr f_check_finder_fail) := by
 intro a0 a1 a2 a3 r h σ K j0 j2 j3 H0 H2 H3 hK
 refine w_fq (Q := fun r s => ∃ l : List (Nat × AObj), (l.map (·.1)).Nodup ∧ (∀ x ∈ l, x.1 < σ.length ∧ ClO σ.length x.2) ∧ Pq σ l K r s) Try.func46 rfl rfl (by kernel_rfl) (fun _ _ h => h) ?_
 unfold B_check_finder_expr at h
 have hP := Pre.refl σ
 have jl0 := H0.lt
 have jl2 := H2.lt
 have jl3 := H3.lt
 have hF := Fr.refl σ [j0]
 have E0 : argE [(.pt j0 0), (.ag (check_finder_expr_A0 a1)), (.mp j2), (.mp j3)] 0 = (.pt j0 0) := rfl
 have E1 : argE [(.pt j0 0), (.ag (check_finder_expr_A0 a1)), (.mp j2), (.mp j3)] 1 = (.ag (check_finder_expr_A0 a1)) := rfl
 have E2 : argE [(.pt j0 0), (.ag (check_finder_expr_A0 a1)), (.mp j2), (.mp j3)] 2 = (.mp j2) := rfl
 have E3 : argE [(.pt j0 0), (.ag (check_finder_expr_A0 a1)), (.mp j2), (.mp j3)] 3 = (.mp j3) := rfl
 have TT := cj9 Expr.rlen T_104 T_107 T_2 T_3 T_30 T_37 T_39 T_9
 refine w_sa (fun e s => ∃ i5 : Nat, ∃ τ : Store, Gx s j0 (AObj.box 106 [(.v (.int .i64 a0.at_)), (.v (.int .i64 a0.e))]) ∧ Gx s j2 (AObj.map .s (mpF check_finder_expr_V0 (Mp.get a2)) (Mp.n a2)) ∧ Gx s j3 (AObj.map .s (mpF check_finder_expr_V0 (Mp.get a3)) (Mp.n a3)) ∧ Bx σ s i5 39 (check_finder_expr_A0 a1) ∧ e 0 = (.pt j0 0) ∧ e 2 = (.mp j2) ∧ e 3 = (.mp j3) ∧ e 5 = (.pt i5 0) ∧ j0 ≠ i5 ∧ Fr σ τ [j0] ∧ Pre τ s) ?_ fun e s hI => ?_
 ·refine w_x (cj14 E0 E1 E2 E3 H0.get H0.any H0.any2 H2.get H2.any H2.any2 H3.get H3.any H3.any2 TT) (k := ?_)
  have q1 := cj14 E0 E1 E2 E3 H0.get H0.any H0.any2 H2.get H2.any H2.any2 H3.get H3.any H3.any2 TT
  exact cw_n ⟨_, WkE.refl _, σ.length, σ, (H0.app [some (AObj.box 39 (check_finder_expr_A0 a1))]), (H2.app [some (AObj.box 39 (check_finder_expr_A0 a1))]), (H3.app [some (AObj.box 39 (check_finder_expr_A0 a1))]), (Bx.newf hF hP 39 (check_finder_expr_A0 a1)), (xv q1), (xv q1), (xv q1), (xv q1), (Nat.ne_of_lt H0.lt), hF, (hP.app _)⟩
 obtain ⟨i5, τ, X0, X2, X3, X5, E0, E2, E3, E5, N0__5, hF, hP⟩ := hI
 obtain ⟨x1, h2, h⟩ := bnd_some h
 refine w_sa (fun e s => ∃ v0_3 : check_finder, ∃ τ : Store, v0_3 = x1 ∧ Gx s j0 (AObj.box 106 [(.v (.int .i64 v0_3.at_)), (.v (.int .i64 v0_3.e))]) ∧ Gx s j2 (AObj.map .s (mpF check_finder_expr_V0 (Mp.get a2)) (Mp.n a2)) ∧ Gx s j3 (AObj.map .s (mpF check_finder_expr_V0 (Mp.get a3)) (Mp.n a3)) ∧ Bx σ s i5 39 (check_finder_expr_A0 a1) ∧ e 0 = (.pt j0 0) ∧ e 2 = (.mp j2) ∧ e 3 = (.mp j3) ∧ e 5 = (.pt i5 0) ∧ j0 ≠ i5 ∧ Fr σ τ [j0] ∧ Pre τ s) ?_ fun e s hI => ?_
 ·refine w_block ?_
  refine w_sa (fun e s => ∃ τ : Store, Gx s j0 (AObj.box 106 [(.v (.int .i64 a0.at_)), (.v (.int .i64 a0.e))]) ∧ Gx s j2 (AObj.map .s (mpF check_finder_expr_V0 (Mp.get a2)) (Mp.n a2)) ∧ Gx s j3 (AObj.map .s (mpF check_finder_expr_V0 (Mp.get a3)) (Mp.n a3)) ∧ Bx σ s i5 39 (check_finder_expr_A0 a1) ∧ e 0 = (.pt j0 0) ∧ e 2 = (.mp j2) ∧ e 3 = (.mp j3) ∧ e 5 = (.pt i5 0) ∧ e 10 = (.v (.bool ((decide (a1.kind = (1 : Int))) && (decide ((Option.getD (Mp.get a2 a1.name) (0 : Int)) = (0 : Int)))))) ∧ j0 ≠ i5 ∧ Fr σ τ [j0] ∧ Pre τ s) ?_ fun e s hI => ?_
  ·cases hb4 : (decide (a1.kind = (1 : Int)))
   ·refine w_x (cj10 E0 E2 E3 E5 X0.get X2.get X3.get X5.get hb4 TT) (k := ?_)
    have q2 := cj10 E0 E2 E3 E5 X0.get X2.get X3.get X5.get hb4 TT
    exact cw_n ⟨_, WkE.refl _, τ, X0, X2, X3, X5, (xv q2), (xv q2), (xv q2), (xv q2), (xv q2), N0__5, hF, hP⟩
   ·have R5 : Option.getD (Option.map check_finder_expr_V0 (Mp.get a2 a1.name)) (.v (.int .i64 (0 : Int))) = (.v (.int .i64 (Option.getD (Mp.get a2 a1.name) (0 : Int)))) := by cases Mp.get a2 a1.name <;> rfl
    refine w_x (cj11 E0 E2 E3 E5 X0.get X2.get X3.get X5.get hb4 R5 TT) (k := ?_)
    have q3 := cj11 E0 E2 E3 E5 X0.get X2.get X3.get X5.get hb4 R5 TT
    exact cw_n ⟨_, WkE.refl _, τ, X0, X2, X3, X5, (xv q3), (xv q3), (xv q3), (xv q3), (xv q3), N0__5, hF, hP⟩
  obtain ⟨τ, X0, X2, X3, X5, E0, E2, E3, E5, E10, N0__5, hF, hP⟩ := hI
  obtain ⟨x6, h7, h2⟩ := bnd_some h2
  refine w_an (fun e s => ∃ v0_8 : check_finder, ∃ τ : Store, v0_8 = x6 ∧ Gx s j0 (AObj.box 106 [(.v (.int .i64 v0_8.at_)), (.v (.int .i64 v0_8.e))]) ∧ Gx s j2 (AObj.map .s (mpF check_finder_expr_V0 (Mp.get a2)) (Mp.n a2)) ∧ Gx s j3 (AObj.map .s (mpF check_finder_expr_V0 (Mp.get a3)) (Mp.n a3)) ∧ Bx σ s i5 39 (check_finder_expr_A0 a1) ∧ e 0 = (.pt j0 0) ∧ e 2 = (.mp j2) ∧ e 3 = (.mp j3) ∧ e 5 = (.pt i5 0) ∧ j0 ≠ i5 ∧ Fr σ τ [j0] ∧ Pre τ s) ?_ fun e s hI => ?_
  ·rcases ite_some h7 with ⟨hb9, h7⟩ | ⟨hb9, h7⟩
   ·refine xt (cj6 E0 E2 E3 E5 E10 hb9) ?_
    obtain ⟨y10, h11, h7⟩ := bnd_some h7
    refine w_x (cj14 E0 E2 E3 E5 E10 X0.get X2.get X3.get X5.get (Gx.same X0 (AObj.box 106 [(.v (.int .i64 y10.2.at_)), (.v (.int .i64 y10.2.e))])).get (X2.ne (Gx.apart X0 X2 (by intro h; cases h)) (some (AObj.box 106 [(.v (.int .i64 y10.2.at_)), (.v (.int .i64 y10.2.e))]))).get (X3.ne (Gx.apart X0 X3 (by intro h; cases h)) (some (AObj.box 106 [(.v (.int .i64 y10.2.at_)), (.v (.int .i64 y10.2.e))]))).get (X5.ne N0__5 (some (AObj.box 106 [(.v (.int .i64 y10.2.at_)), (.v (.int .i64 y10.2.e))]))).get TT) (k := ?_)
    refine EC.wka (.cons (.refl _) (.cons (.refl _) (.cons (.refl _) .nil))) (S_check_finder_fail _ _ _ _ h11 _ _ _ X0 ?_)
    refine w_y (cj14 E0 E2 E3 E5 E10 X0.get X2.get X3.get X5.get (Gx.same X0 (AObj.box 106 [(.v (.int .i64 y10.2.at_)), (.v (.int .i64 y10.2.e))])).get (X2.ne (Gx.apart X0 X2 (by intro h; cases h)) (some (AObj.box 106 [(.v (.int .i64 y10.2.at_)), (.v (.int .i64 y10.2.e))]))).get (X3.ne (Gx.apart X0 X3 (by intro h; cases h)) (some (AObj.box 106 [(.v (.int .i64 y10.2.at_)), (.v (.int .i64 y10.2.e))]))).get (X5.ne N0__5 (some (AObj.box 106 [(.v (.int .i64 y10.2.at_)), (.v (.int .i64 y10.2.e))]))).get TT) (k := ?_)
    obtain rfl := some_inj h7
    have q4 := Gx.apart X0 X2 (by intro h; cases h)
    have q5 := Gx.apart X0 X3 (by intro h; cases h)
    have q6 := Gx.same X0 (AObj.box 106 [(.v (.int .i64 y10.2.at_)), (.v (.int .i64 y10.2.e))])
    have q7 := X2.ne q4 (some (AObj.box 106 [(.v (.int .i64 y10.2.at_)), (.v (.int .i64 y10.2.e))]))
    have q8 := X3.ne q5 (some (AObj.box 106 [(.v (.int .i64 y10.2.at_)), (.v (.int .i64 y10.2.e))]))
    have q9 := X5.ne N0__5 (some (AObj.box 106 [(.v (.int .i64 y10.2.at_)), (.v (.int .i64 y10.2.e))]))
    have q10 := cj14 E0 E2 E3 E5 E10 X0.get X2.get X3.get X5.get q6.get q7.get q8.get q9.get TT
    exact ct_n ⟨_, (List.set τ j0 (some (AObj.box 106 [(.v (.int .i64 y10.2.at_)), (.v (.int .i64 y10.2.e))]))), rfl, q6, q7, q8, q9, (xv q10), (xv q10), (xv q10), (xv q10), N0__5, (hF.set (by simp) (some (AObj.box 106 [(.v (.int .i64 y10.2.at_)), (.v (.int .i64 y10.2.e))]))), (hP.setp (hF.lt jl0) (some (AObj.box 106 [(.v (.int .i64 y10.2.at_)), (.v (.int .i64 y10.2.e))])))⟩
   ·refine xf (cj6 E0 E2 E3 E5 E10 hb9) ?_
    refine w_sa (fun e s => ∃ τ : Store, Gx s j0 (AObj.box 106 [(.v (.int .i64 a0.at_)), (.v (.int .i64 a0.e))]) ∧ Gx s j2 (AObj.map .s (mpF check_finder_expr_V0 (Mp.get a2)) (Mp.n a2)) ∧ Gx s j3 (AObj.map .s (mpF check_finder_expr_V0 (Mp.get a3)) (Mp.n a3)) ∧ Bx σ s i5 39 (check_finder_expr_A0 a1) ∧ e 0 = (.pt j0 0) ∧ e 2 = (.mp j2) ∧ e 3 = (.mp j3) ∧ e 5 = (.pt i5 0) ∧ e 25 = (.v (.bool ((decide (a1.kind = (2 : Int))) && (decide ((Option.getD (Mp.get a3 a1.name) (0 : Int)) = (0 : Int)))))) ∧ j0 ≠ i5 ∧ Fr σ τ [j0] ∧ Pre τ s) ?_ fun e s hI => ?_
    ·cases hb12 : (decide (a1.kind = (2 : Int)))
     ·refine w_x (cj11 E0 E2 E3 E5 E10 X0.get X2.get X3.get X5.get hb12 TT) (k := ?_)
      have q11 := cj11 E0 E2 E3 E5 E10 X0.get X2.get X3.get X5.get hb12 TT
      exact cw_n ⟨_, WkE.refl _, τ, X0, X2, X3, X5, (xv q11), (xv q11), (xv q11), (xv q11), (xv q11), N0__5, hF, hP⟩
     ·have R13 : Option.getD (Option.map check_finder_expr_V0 (Mp.get a3 a1.name)) (.v (.int .i64 (0 : Int))) = (.v (.int .i64 (Option.getD (Mp.get a3 a1.name) (0 : Int)))) := by cases Mp.get a3 a1.name <;> rfl
      refine w_x (cj12 E0 E2 E3 E5 E10 X0.get X2.get X3.get X5.get hb12 R13 TT) (k := ?_)
      have q12 := cj12 E0 E2 E3 E5 E10 X0.get X2.get X3.get X5.get hb12 R13 TT
      exact cw_n ⟨_, WkE.refl _, τ, X0, X2, X3, X5, (xv q12), (xv q12), (xv q12), (xv q12), (xv q12), N0__5, hF, hP⟩
    obtain ⟨τ, X0, X2, X3, X5, E0, E2, E3, E5, E25, N0__5, hF, hP⟩ := hI
    obtain ⟨x14, h15, h7⟩ := bnd_some h7
    refine w_an (fun e s => ∃ v0_16 : check_finder, ∃ τ : Store, v0_16 = x14 ∧ Gx s j0 (AObj.box 106 [(.v (.int .i64 v0_16.at_)), (.v (.int .i64 v0_16.e))]) ∧ Gx s j2 (AObj.map .s (mpF check_finder_expr_V0 (Mp.get a2)) (Mp.n a2)) ∧ Gx s j3 (AObj.map .s (mpF check_finder_expr_V0 (Mp.get a3)) (Mp.n a3)) ∧ Bx σ s i5 39 (check_finder_expr_A0 a1) ∧ e 0 = (.pt j0 0) ∧ e 2 = (.mp j2) ∧ e 3 = (.mp j3) ∧ e 5 = (.pt i5 0) ∧ j0 ≠ i5 ∧ Fr σ τ [j0] ∧ Pre τ s) ?_ fun e s hI => ?_
    ·rcases ite_some h15 with ⟨hb17, h15⟩ | ⟨hb17, h15⟩
     ·refine xt (cj6 E0 E2 E3 E5 E25 hb17) ?_
      obtain ⟨y18, h19, h15⟩ := bnd_some h15
      refine w_x (cj14 E0 E2 E3 E5 E25 X0.get X2.get X3.get X5.get (Gx.same X0 (AObj.box 106 [(.v (.int .i64 y18.2.at_)), (.v (.int .i64 y18.2.e))])).get (X2.ne (Gx.apart X0 X2 (by intro h; cases h)) (some (AObj.box 106 [(.v (.int .i64 y18.2.at_)), (.v (.int .i64 y18.2.e))]))).get (X3.ne (Gx.apart X0 X3 (by intro h; cases h)) (some (AObj.box 106 [(.v (.int .i64 y18.2.at_)), (.v (.int .i64 y18.2.e))]))).get (X5.ne N0__5 (some (AObj.box 106 [(.v (.int .i64 y18.2.at_)), (.v (.int .i64 y18.2.e))]))).get TT) (k := ?_)
      refine EC.wka (.cons (.refl _) (.cons (.refl _) (.cons (.refl _) .nil))) (S_check_finder_fail _ _ _ _ h19 _ _ _ X0 ?_)
      refine w_y (cj14 E0 E2 E3 E5 E25 X0.get X2.get X3.get X5.get (Gx.same X0 (AObj.box 106 [(.v (.int .i64 y18.2.at_)), (.v (.int .i64 y18.2.e))])).get (X2.ne (Gx.apart X0 X2 (by intro h; cases h)) (some (AObj.box 106 [(.v (.int .i64 y18.2.at_)), (.v (.int .i64 y18.2.e))]))).get (X3.ne (Gx.apart X0 X3 (by intro h; cases h)) (some (AObj.box 106 [(.v (.int .i64 y18.2.at_)), (.v (.int .i64 y18.2.e))]))).get (X5.ne N0__5 (some (AObj.box 106 [(.v (.int .i64 y18.2.at_)), (.v (.int .i64 y18.2.e))]))).get TT) (k := ?_)
      obtain rfl := some_inj h15
      have q13 := Gx.apart X0 X2 (by intro h; cases h)
      have q14 := Gx.apart X0 X3 (by intro h; cases h)
      have q15 := Gx.same X0 (AObj.box 106 [(.v (.int .i64 y18.2.at_)), (.v (.int .i64 y18.2.e))])
      have q16 := X2.ne q13 (some (AObj.box 106 [(.v (.int .i64 y18.2.at_)), (.v (.int .i64 y18.2.e))]))
      have q17 := X3.ne q14 (some (AObj.box 106 [(.v (.int .i64 y18.2.at_)), (.v (.int .i64 y18.2.e))]))
      have q18 := X5.ne N0__5 (some (AObj.box 106 [(.v (.int .i64 y18.2.at_)), (.v (.int .i64 y18.2.e))]))
      have q19 := cj14 E0 E2 E3 E5 E25 X0.get X2.get X3.get X5.get q15.get q16.get q17.get q18.get TT
      exact ct_n ⟨_, (List.set τ j0 (some (AObj.box 106 [(.v (.int .i64 y18.2.at_)), (.v (.int .i64 y18.2.e))]))), rfl, q15, q16, q17, q18, (xv q19), (xv q19), (xv q19), (xv q19), N0__5, (hF.set (by simp) (some (AObj.box 106 [(.v (.int .i64 y18.2.at_)), (.v (.int .i64 y18.2.e))]))), (hP.setp (hF.lt jl0) (some (AObj.box 106 [(.v (.int .i64 y18.2.at_)), (.v (.int .i64 y18.2.e))])))⟩
     ·refine xf (cj6 E0 E2 E3 E5 E25 hb17) ?_
      refine w_sa (fun e s => ∃ τ : Store, Gx s j0 (AObj.box 106 [(.v (.int .i64 a0.at_)), (.v (.int .i64 a0.e))]) ∧ Gx s j2 (AObj.map .s (mpF check_finder_expr_V0 (Mp.get a2)) (Mp.n a2)) ∧ Gx s j3 (AObj.map .s (mpF check_finder_expr_V0 (Mp.get a3)) (Mp.n a3)) ∧ Bx σ s i5 39 (check_finder_expr_A0 a1) ∧ e 0 = (.pt j0 0) ∧ e 2 = (.mp j2) ∧ e 3 = (.mp j3) ∧ e 5 = (.pt i5 0) ∧ e 40 = (.v (.bool ((decide (a1.kind = (2 : Int))) && (!decide ((Option.getD (Mp.get a3 a1.name) (0 : Int)) = ((List.length a1.args : Nat) : Int)))))) ∧ j0 ≠ i5 ∧ Fr σ τ [j0] ∧ Pre τ s) ?_ fun e s hI => ?_
      ·cases hb20 : (decide (a1.kind = (2 : Int)))
       ·refine w_x (cj11 E0 E2 E3 E5 E25 X0.get X2.get X3.get X5.get hb20 TT) (k := ?_)
        have q20 := cj11 E0 E2 E3 E5 E25 X0.get X2.get X3.get X5.get hb20 TT
        exact cw_n ⟨_, WkE.refl _, τ, X0, X2, X3, X5, (xv q20), (xv q20), (xv q20), (xv q20), (xv q20), N0__5, hF, hP⟩
       ·have R21 : Option.getD (Option.map check_finder_expr_V0 (Mp.get a3 a1.name)) (.v (.int .i64 (0 : Int))) = (.v (.int .i64 (Option.getD (Mp.get a3 a1.name) (0 : Int)))) := by cases Mp.get a3 a1.name <;> rfl
        refine w_x (cj12 E0 E2 E3 E5 E25 X0.get X2.get X3.get X5.get hb20 R21 TT) (k := ?_)
        have q21 := cj12 E0 E2 E3 E5 E25 X0.get X2.get X3.get X5.get hb20 R21 TT
        exact cw_n ⟨_, WkE.refl _, τ, X0, X2, X3, X5, (xv q21), (xv q21), (xv q21), (xv q21), (xv q21), N0__5, hF, hP⟩
      obtain ⟨τ, X0, X2, X3, X5, E0, E2, E3, E5, E40, N0__5, hF, hP⟩ := hI
      obtain ⟨x22, h23, h15⟩ := bnd_some h15
      refine w_an (fun e s => ∃ v0_24 : check_finder, ∃ τ : Store, v0_24 = x22 ∧ Gx s j0 (AObj.box 106 [(.v (.int .i64 v0_24.at_)), (.v (.int .i64 v0_24.e))]) ∧ Gx s j2 (AObj.map .s (mpF check_finder_expr_V0 (Mp.get a2)) (Mp.n a2)) ∧ Gx s j3 (AObj.map .s (mpF check_finder_expr_V0 (Mp.get a3)) (Mp.n a3)) ∧ Bx σ s i5 39 (check_finder_expr_A0 a1) ∧ e 0 = (.pt j0 0) ∧ e 2 = (.mp j2) ∧ e 3 = (.mp j3) ∧ e 5 = (.pt i5 0) ∧ j0 ≠ i5 ∧ Fr σ τ [j0] ∧ Pre τ s) ?_ fun e s hI => ?_
      ·rcases ite_some h23 with ⟨hb25, h23⟩ | ⟨hb25, h23⟩
       ·refine xt (cj6 E0 E2 E3 E5 E40 hb25) ?_
        obtain ⟨y26, h27, h23⟩ := bnd_some h23
        refine w_x (cj14 E0 E2 E3 E5 E40 X0.get X2.get X3.get X5.get (Gx.same X0 (AObj.box 106 [(.v (.int .i64 y26.2.at_)), (.v (.int .i64 y26.2.e))])).get (X2.ne (Gx.apart X0 X2 (by intro h; cases h)) (some (AObj.box 106 [(.v (.int .i64 y26.2.at_)), (.v (.int .i64 y26.2.e))]))).get (X3.ne (Gx.apart X0 X3 (by intro h; cases h)) (some (AObj.box 106 [(.v (.int .i64 y26.2.at_)), (.v (.int .i64 y26.2.e))]))).get (X5.ne N0__5 (some (AObj.box 106 [(.v (.int .i64 y26.2.at_)), (.v (.int .i64 y26.2.e))]))).get TT) (k := ?_)
        refine EC.wka (.cons (.refl _) (.cons (.refl _) (.cons (.refl _) .nil))) (S_check_finder_fail _ _ _ _ h27 _ _ _ X0 ?_)
        refine w_y (cj14 E0 E2 E3 E5 E40 X0.get X2.get X3.get X5.get (Gx.same X0 (AObj.box 106 [(.v (.int .i64 y26.2.at_)), (.v (.int .i64 y26.2.e))])).get (X2.ne (Gx.apart X0 X2 (by intro h; cases h)) (some (AObj.box 106 [(.v (.int .i64 y26.2.at_)), (.v (.int .i64 y26.2.e))]))).get (X3.ne (Gx.apart X0 X3 (by intro h; cases h)) (some (AObj.box 106 [(.v (.int .i64 y26.2.at_)), (.v (.int .i64 y26.2.e))]))).get (X5.ne N0__5 (some (AObj.box 106 [(.v (.int .i64 y26.2.at_)), (.v (.int .i64 y26.2.e))]))).get TT) (k := ?_)
        obtain rfl := some_inj h23
        have q22 := Gx.apart X0 X2 (by intro h; cases h)
        have q23 := Gx.apart X0 X3 (by intro h; cases h)
        have q24 := Gx.same X0 (AObj.box 106 [(.v (.int .i64 y26.2.at_)), (.v (.int .i64 y26.2.e))])
        have q25 := X2.ne q22 (some (AObj.box 106 [(.v (.int .i64 y26.2.at_)), (.v (.int .i64 y26.2.e))]))
        have q26 := X3.ne q23 (some (AObj.box 106 [(.v (.int .i64 y26.2.at_)), (.v (.int .i64 y26.2.e))]))
        have q27 := X5.ne N0__5 (some (AObj.box 106 [(.v (.int .i64 y26.2.at_)), (.v (.int .i64 y26.2.e))]))
        have q28 := cj14 E0 E2 E3 E5 E40 X0.get X2.get X3.get X5.get q24.get q25.get q26.get q27.get TT
        exact ct_n ⟨_, (List.set τ j0 (some (AObj.box 106 [(.v (.int .i64 y26.2.at_)), (.v (.int .i64 y26.2.e))]))), rfl, q24, q25, q26, q27, (xv q28), (xv q28), (xv q28), (xv q28), N0__5, (hF.set (by simp) (some (AObj.box 106 [(.v (.int .i64 y26.2.at_)), (.v (.int .i64 y26.2.e))]))), (hP.setp (hF.lt jl0) (some (AObj.box 106 [(.v (.int .i64 y26.2.at_)), (.v (.int .i64 y26.2.e))])))⟩
       ·refine xf (cj6 E0 E2 E3 E5 E40 hb25) ?_
        refine w_skip ?_
        obtain rfl := some_inj h23
        have q29 := cj5 E0 E2 E3 E5 E40
        exact ct_n ⟨_, τ, rfl, X0, X2, X3, X5, (xv q29), (xv q29), (xv q29), (xv q29), N0__5, hF, hP⟩
      obtain ⟨v0_24, τ, rfl, X0, X2, X3, X5, E0, E2, E3, E5, N0__5, hF, hP⟩ := hI
      try dsimp only at h15
      obtain rfl := some_inj h15
      have q30 := cj4 E0 E2 E3 E5
      exact ct_n ⟨_, τ, rfl, X0, X2, X3, X5, (xv q30), (xv q30), (xv q30), (xv q30), N0__5, hF, hP⟩
    obtain ⟨v0_16, τ, rfl, X0, X2, X3, X5, E0, E2, E3, E5, N0__5, hF, hP⟩ := hI
    try dsimp only at h7
    obtain rfl := some_inj h7
    have q31 := cj4 E0 E2 E3 E5
    exact ct_n ⟨_, τ, rfl, X0, X2, X3, X5, (xv q31), (xv q31), (xv q31), (xv q31), N0__5, hF, hP⟩
  obtain ⟨v0_8, τ, rfl, X0, X2, X3, X5, E0, E2, E3, E5, N0__5, hF, hP⟩ := hI
  try dsimp only at h2
  refine w_bk ?_
  obtain rfl := some_inj h2
  have q32 := cj4 E0 E2 E3 E5
  exact cw_n ⟨_, WkE.refl _, _, τ, rfl, X0, X2, X3, X5, (xv q32), (xv q32), (xv q32), (xv q32), N0__5, hF, hP⟩
 obtain ⟨v0_3, τ, rfl, X0, X2, X3, X5, E0, E2, E3, E5, N0__5, hF, hP⟩ := hI
 try dsimp only at h
 refine w_sa (fun e s => ∃ τ : Store, Gx s j0 (AObj.box 106 [(.v (.int .i64 v0_3.at_)), (.v (.int .i64 v0_3.e))]) ∧ Gx s j2 (AObj.map .s (mpF check_finder_expr_V0 (Mp.get a2)) (Mp.n a2)) ∧ Gx s j3 (AObj.map .s (mpF check_finder_expr_V0 (Mp.get a3)) (Mp.n a3)) ∧ e 0 = (.pt j0 0) ∧ e 2 = (.mp j2) ∧ e 3 = (.mp j3) ∧ e 59 = (.sl (Expr.rows a1.args)) ∧ e 60 = (.v (.int .i64 ((List.length a1.args : Nat) : Int))) ∧ e 61 = (.v (.int .i64 (0 : Int))) ∧ Fr σ τ [j0] ∧ Pre τ s) ?_ fun e s hI => ?_
 ·refine w_x (cj9 E0 E2 E3 E5 X0.get X2.get X3.get X5.get TT) (k := ?_)
  have q33 := cj9 E0 E2 E3 E5 X0.get X2.get X3.get X5.get TT
  exact cw_n ⟨_, WkE.refl _, τ, X0, X2, X3, (xv q33), (xv q33), (xv q33), (xv q33), (xv q33), (xv q33), hF, hP⟩
 obtain ⟨τ, X0, X2, X3, E0, E2, E3, E59, E60, E61, hF, hP⟩ := hI
 obtain ⟨x28, h29, h⟩ := bnd_some h
 refine w_an (fun e s => ∃ v0_30 : check_finder, ∃ τ : Store, v0_30 = x28 ∧ Gx s j0 (AObj.box 106 [(.v (.int .i64 v0_30.at_)), (.v (.int .i64 v0_30.e))]) ∧ Gx s j2 (AObj.map .s (mpF check_finder_expr_V0 (Mp.get a2)) (Mp.n a2)) ∧ Gx s j3 (AObj.map .s (mpF check_finder_expr_V0 (Mp.get a3)) (Mp.n a3)) ∧ Fr σ τ [j0] ∧ Pre τ s) ?_ fun e s hI => ?_
 ·refine w_block ?_
  have q34 := cj6 E0 E2 E3 E59 E60 E61
  refine w_iter h29 (fun v e s => ∃ v61_31 : Int, ∃ v0_32 : check_finder, ∃ τ : Store, (v61_31, v0_32) = v ∧ Gx s j0 (AObj.box 106 [(.v (.int .i64 v0_32.at_)), (.v (.int .i64 v0_32.e))]) ∧ Gx s j2 (AObj.map .s (mpF check_finder_expr_V0 (Mp.get a2)) (Mp.n a2)) ∧ Gx s j3 (AObj.map .s (mpF check_finder_expr_V0 (Mp.get a3)) (Mp.n a3)) ∧ e 0 = (.pt j0 0) ∧ e 2 = (.mp j2) ∧ e 3 = (.mp j3) ∧ e 59 = (.sl (Expr.rows a1.args)) ∧ e 60 = (.v (.int .i64 ((List.length a1.args : Nat) : Int))) ∧ e 61 = (.v (.int .i64 v61_31)) ∧ Fr σ τ [j0] ∧ Pre τ s) ⟨_, WkE.refl _, _, _, τ, rfl, X0, X2, X3, (xv q34), (xv q34), (xv q34), (xv q34), (xv q34), (xv q34), hF, hP⟩ fun v x33 e s hf34 hI => ?_
  obtain ⟨v61_31, v0_32, τ, rfl, X0, X2, X3, E0, E2, E3, E59, E60, E61, hF, hP⟩ := hI
  unfold check_finder_expr_L0 at hf34
  try dsimp only at hf34
  refine w_sa (fun e s => ∃ τ : Store, Gx s j0 (AObj.box 106 [(.v (.int .i64 v0_32.at_)), (.v (.int .i64 v0_32.e))]) ∧ Gx s j2 (AObj.map .s (mpF check_finder_expr_V0 (Mp.get a2)) (Mp.n a2)) ∧ Gx s j3 (AObj.map .s (mpF check_finder_expr_V0 (Mp.get a3)) (Mp.n a3)) ∧ e 0 = (.pt j0 0) ∧ e 2 = (.mp j2) ∧ e 3 = (.mp j3) ∧ e 59 = (.sl (Expr.rows a1.args)) ∧ e 60 = (.v (.int .i64 ((List.length a1.args : Nat) : Int))) ∧ e 61 = (.v (.int .i64 v61_31)) ∧ e 62 = (.v (.bool (decide (v61_31 < ((List.length a1.args : Nat) : Int))))) ∧ Fr σ τ [j0] ∧ Pre τ s) ?_ fun e s hI => ?_
  ·refine w_x (cj10 E0 E2 E3 E59 E60 E61 X0.get X2.get X3.get TT) (k := ?_)
   have q35 := cj10 E0 E2 E3 E59 E60 E61 X0.get X2.get X3.get TT
   exact cw_n ⟨_, WkE.refl _, τ, X0, X2, X3, (xv q35), (xv q35), (xv q35), (xv q35), (xv q35), (xv q35), (xv q35), hF, hP⟩
  obtain ⟨τ, X0, X2, X3, E0, E2, E3, E59, E60, E61, E62, hF, hP⟩ := hI
  refine w_seq ?_
  rcases ite_some hf34 with ⟨hb35, hf34⟩ | ⟨hb35, hf34⟩
  ·refine xt (cj8 E0 E2 E3 E59 E60 E61 E62 hb35) ?_
   refine w_skip ?_
   refine w_sq ?_
   obtain ⟨x36, h37, hf34⟩ := bnd_some hf34
   refine w_sa (fun e s => ∃ v0_38 : check_finder, ∃ τ : Store, v0_38 = x36 ∧ Gx s j0 (AObj.box 106 [(.v (.int .i64 v0_38.at_)), (.v (.int .i64 v0_38.e))]) ∧ Gx s j2 (AObj.map .s (mpF check_finder_expr_V0 (Mp.get a2)) (Mp.n a2)) ∧ Gx s j3 (AObj.map .s (mpF check_finder_expr_V0 (Mp.get a3)) (Mp.n a3)) ∧ e 0 = (.pt j0 0) ∧ e 2 = (.mp j2) ∧ e 3 = (.mp j3) ∧ e 59 = (.sl (Expr.rows a1.args)) ∧ e 60 = (.v (.int .i64 ((List.length a1.args : Nat) : Int))) ∧ e 61 = (.v (.int .i64 v61_31)) ∧ Fr σ τ [j0] ∧ Pre τ s) ?_ fun e s hI => ?_
   ·refine w_block ?_
    obtain ⟨y39, h40, h37⟩ := bnd_some h37
    refine w_sa (fun e s => ∃ i9 : Nat, ∃ τ : Store, Gx s j0 (AObj.box 106 [(.v (.int .i64 v0_32.at_)), (.v (.int .i64 v0_32.e))]) ∧ Gx s j2 (AObj.map .s (mpF check_finder_expr_V0 (Mp.get a2)) (Mp.n a2)) ∧ Gx s j3 (AObj.map .s (mpF check_finder_expr_V0 (Mp.get a3)) (Mp.n a3)) ∧ Bx σ s i9 39 [(.v (.int .i64 y39.kind)), (.v (.string y39.name)), (.v (.int .i64 y39.n)), (.v (.int .i64 y39.d)), (.sl (Expr.rows y39.args)), (.v (.int .i64 y39.at_))] ∧ e 0 = (.pt j0 0) ∧ e 2 = (.mp j2) ∧ e 3 = (.mp j3) ∧ e 9 = (.pt i9 0) ∧ e 59 = (.sl (Expr.rows a1.args)) ∧ e 60 = (.v (.int .i64 ((List.length a1.args : Nat) : Int))) ∧ e 61 = (.v (.int .i64 v61_31)) ∧ j0 ≠ i9 ∧ Fr σ τ [j0] ∧ Pre τ s) ?_ fun e s hI => ?_
    ·have R41 : (Expr.rows a1.args)[(v61_31).toNat]? = some [(.v (.int .i64 y39.kind)), (.v (.string y39.name)), (.v (.int .i64 y39.n)), (.v (.int .i64 y39.d)), (.sl (Expr.rows y39.args)), (.v (.int .i64 y39.at_))] := Expr.rget (getI_some h40).2
     refine w_x (cj19 E0 E2 E3 E59 E60 E61 E62 X0.get X0.any X0.any2 X2.get X2.any X2.any2 X3.get X3.any X3.any2 R41 (getI_some h40).1 TT) (k := ?_)
     have q36 := cj19 E0 E2 E3 E59 E60 E61 E62 X0.get X0.any X0.any2 X2.get X2.any X2.any2 X3.get X3.any X3.any2 R41 (getI_some h40).1 TT
     exact cw_n ⟨_, WkE.refl _, s.length, τ, (X0.app [some (AObj.box 39 [(.v (.int .i64 y39.kind)), (.v (.string y39.name)), (.v (.int .i64 y39.n)), (.v (.int .i64 y39.d)), (.sl (Expr.rows y39.args)), (.v (.int .i64 y39.at_))])]), (X2.app [some (AObj.box 39 [(.v (.int .i64 y39.kind)), (.v (.string y39.name)), (.v (.int .i64 y39.n)), (.v (.int .i64 y39.d)), (.sl (Expr.rows y39.args)), (.v (.int .i64 y39.at_))])]), (X3.app [some (AObj.box 39 [(.v (.int .i64 y39.kind)), (.v (.string y39.name)), (.v (.int .i64 y39.n)), (.v (.int .i64 y39.d)), (.sl (Expr.rows y39.args)), (.v (.int .i64 y39.at_))])]), (Bx.newf hF hP 39 [(.v (.int .i64 y39.kind)), (.v (.string y39.name)), (.v (.int .i64 y39.n)), (.v (.int .i64 y39.d)), (.sl (Expr.rows y39.args)), (.v (.int .i64 y39.at_))]), (xv q36), (xv q36), (xv q36), (xv q36), (xv q36), (xv q36), (xv q36), (Nat.ne_of_lt X0.lt), hF, (hP.app _)⟩
    obtain ⟨i9, τ, X0, X2, X3, X9, E0, E2, E3, E9, E59, E60, E61, N0__9, hF, hP⟩ := hI
    obtain ⟨y42, h43, h37⟩ := bnd_some h37
    refine w_x (cj16 E0 E2 E3 E9 E59 E60 E61 X0.get X2.get X3.get X9.get (Gx.same X0 (AObj.box 106 [(.v (.int .i64 y42.2.at_)), (.v (.int .i64 y42.2.e))])).get (X2.ne (Gx.apart X0 X2 (by intro h; cases h)) (some (AObj.box 106 [(.v (.int .i64 y42.2.at_)), (.v (.int .i64 y42.2.e))]))).get (X3.ne (Gx.apart X0 X3 (by intro h; cases h)) (some (AObj.box 106 [(.v (.int .i64 y42.2.at_)), (.v (.int .i64 y42.2.e))]))).get (X9.ne N0__9 (some (AObj.box 106 [(.v (.int .i64 y42.2.at_)), (.v (.int .i64 y42.2.e))]))).get TT) (k := ?_)
    refine EC.wka (.cons (.refl _) (.cons (.refl _) (.cons (.refl _) (.cons (.refl _) .nil)))) (S_check_finder_expr _ _ _ _ _ h43 _ _ _ _ _ X0 X2 X3 ?_)
    refine w_y (cj16 E0 E2 E3 E9 E59 E60 E61 X0.get X2.get X3.get X9.get (Gx.same X0 (AObj.box 106 [(.v (.int .i64 y42.2.at_)), (.v (.int .i64 y42.2.e))])).get (X2.ne (Gx.apart X0 X2 (by intro h; cases h)) (some (AObj.box 106 [(.v (.int .i64 y42.2.at_)), (.v (.int .i64 y42.2.e))]))).get (X3.ne (Gx.apart X0 X3 (by intro h; cases h)) (some (AObj.box 106 [(.v (.int .i64 y42.2.at_)), (.v (.int .i64 y42.2.e))]))).get (X9.ne N0__9 (some (AObj.box 106 [(.v (.int .i64 y42.2.at_)), (.v (.int .i64 y42.2.e))]))).get TT) (k := ?_)
    refine w_bk ?_
    obtain rfl := some_inj h37
    have q37 := Gx.apart X0 X2 (by intro h; cases h)
    have q38 := Gx.apart X0 X3 (by intro h; cases h)
    have q39 := Gx.same X0 (AObj.box 106 [(.v (.int .i64 y42.2.at_)), (.v (.int .i64 y42.2.e))])
    have q40 := X2.ne q37 (some (AObj.box 106 [(.v (.int .i64 y42.2.at_)), (.v (.int .i64 y42.2.e))]))
    have q41 := X3.ne q38 (some (AObj.box 106 [(.v (.int .i64 y42.2.at_)), (.v (.int .i64 y42.2.e))]))
    have q42 := X9.ne N0__9 (some (AObj.box 106 [(.v (.int .i64 y42.2.at_)), (.v (.int .i64 y42.2.e))]))
    have q43 := cj16 E0 E2 E3 E9 E59 E60 E61 X0.get X2.get X3.get X9.get q39.get q40.get q41.get q42.get TT
    exact cw_n ⟨_, WkE.refl _, _, (List.set τ j0 (some (AObj.box 106 [(.v (.int .i64 y42.2.at_)), (.v (.int .i64 y42.2.e))]))), rfl, q39, q40, q41, (xv q43), (xv q43), (xv q43), (xv q43), (xv q43), (xv q43), (hF.set (by simp) (some (AObj.box 106 [(.v (.int .i64 y42.2.at_)), (.v (.int .i64 y42.2.e))]))), (hP.setp (hF.lt jl0) (some (AObj.box 106 [(.v (.int .i64 y42.2.at_)), (.v (.int .i64 y42.2.e))])))⟩
   obtain ⟨v0_38, τ, rfl, X0, X2, X3, E0, E2, E3, E59, E60, E61, hF, hP⟩ := hI
   try dsimp only at hf34
   refine w_x (cj10 E0 E2 E3 E59 E60 E61 X0.get X2.get X3.get TT) (k := ?_)
   obtain rfl := some_inj hf34
   have q44 := cj10 E0 E2 E3 E59 E60 E61 X0.get X2.get X3.get TT
   exact iq_n rfl ⟨_, WkE.refl _, _, _, τ, rfl, X0, X2, X3, (xv q44), (xv q44), (xv q44), (xv q44), (xv q44), (xv q44), hF, hP⟩
  ·refine xf (cj8 E0 E2 E3 E59 E60 E61 E62 hb35) ?_
   refine w_exit ?_
   refine w_sqx ?_
   obtain rfl := some_inj hf34
   refine iq_x rfl fun hr44 => ?_
   obtain rfl := hr44
   refine w_bkx ?_
   exact ct_n ⟨_, τ, rfl, X0, X2, X3, hF, hP⟩
 obtain ⟨v0_30, τ, rfl, X0, X2, X3, hF, hP⟩ := hI
 try dsimp only at h
 obtain rfl := some_inj h
 have hn45 : (List.map (·.1) ([(j0, (AObj.box 106 [(.v (.int .i64 v0_30.at_)), (.v (.int .i64 v0_30.e))]))] : List (Nat × AObj))).Nodup := (List.nodup_cons.2 ⟨(fun h => by simp at h), List.nodup_nil⟩)
 have he46 := Fr.eq (l := [(j0, (AObj.box 106 [(.v (.int .i64 v0_30.at_)), (.v (.int .i64 v0_30.e))]))]) hF hn45 (List.forall_mem_cons.2 ⟨⟨jl0, (Gx.back X0 hP (hF.lt jl0))⟩, (fun x hx => absurd hx (by simp))⟩)
 exact w_end (fun h => absurd rfl h) (xr (rs := #[]) trivial) ⟨[(j0, (AObj.box 106 [(.v (.int .i64 v0_30.at_)), (.v (.int .i64 v0_30.e))]))], hn45, (List.forall_mem_cons.2 ⟨⟨jl0, (ClO.bx (ClL.cons (Cn.cl (.v _) _) (ClL.cons (Cn.cl (.v _) _) ClL.nil)))⟩, (fun x hx => absurd hx (by simp))⟩), he46 ▸ hP, (.tu []), (.refl _), (.tu CnL.nil), hK⟩
end Go.Proofs.Ytohmmfimedgccaa.E
end
section
namespace Go.Proofs.Ytohmmfimedgccaa.E
set_option maxRecDepth 100000
set_option maxHeartbeats 4000000
set_option linter.unusedVariables false
set_option linter.unusedSimpArgs false
noncomputable def B_slices_ContainsFunc_Flow (f_slices_IndexFunc_Flow : (List Flow) → (Flow → Option Bool) → Option Int) (a0 : (List Flow)) (a1 : (Flow → Option Bool)) : Option Bool :=
 (f_slices_IndexFunc_Flow a0 a1).bind fun y1 =>
 some (decide ((0 : Int) ≤ y1))
theorem W_slices_ContainsFunc_Flow (f_slices_IndexFunc_Flow : (List Flow) → (Flow → Option Bool) → Option Int) (S_slices_IndexFunc_Flow : Sat_slices_IndexFunc_Flow f_slices_IndexFunc_Flow) : Sat_slices_ContainsFunc_Flow (B_slices_ContainsFunc_Flow f_slices_IndexFunc_Flow) := by
 intro a0 a1 r h σ K fid1 caps1 hg1 hK
 refine w_fp Try.func47 rfl rfl (by kernel_rfl) ?_
 unfold B_slices_ContainsFunc_Flow at h
 have hP := Pre.refl σ
 have E0 : argE [(.sl (List.map Flow.cl a0)), (.fn fid1 [] caps1)] 0 = (.sl (List.map Flow.cl a0)) := rfl
 have E1 : argE [(.sl (List.map Flow.cl a0)), (.fn fid1 [] caps1)] 1 = (.fn fid1 [] caps1) := rfl
 have TT := cj5 Expr.rlen T_112 T_24 T_3 T_41
 refine w_sa (fun e s => e 0 = (.sl (List.map Flow.cl a0)) ∧ e 1 = (.fn fid1 [] caps1) ∧ Pre σ s) ?_ fun e s hI => ?_
 ·refine w_x (cj3 E0 E1 TT) (k := ?_)
  exact cw_n ⟨_, WkE.refl _, (xv (cj3 E0 E1 TT)), (xv (cj3 E0 E1 TT)), hP⟩
 obtain ⟨E0, E1, hP⟩ := hI
 obtain ⟨y1, h2, h⟩ := bnd_some h
 refine w_sa (fun e s => e 4 = (.v (.bool (decide ((0 : Int) ≤ y1)))) ∧ Pre σ s) ?_ fun e s hI => ?_
 ·refine w_x (cj3 E0 E1 TT) (k := ?_)
  refine EC.wka (.cons (.refl _) (.cons (.refl _) .nil)) (S_slices_IndexFunc_Flow _ _ _ h2 _ _ _ _ (fun z0 b hg s' K hq hk => hg1 z0 b hg s' K (hP.trans hq) hk) ?_)
  refine w_y (cj3 E0 E1 TT) (k := ?_)
  exact cw_n ⟨_, WkE.refl _, (xv (cj3 E0 E1 TT)), hP⟩
 obtain ⟨E4, hP⟩ := hI
 refine w_ret ?_
 obtain rfl := some_inj h
 exact w_fin (fun _ => rfl) (xr (rs := #[.tmp 4]) E4) hP (r' := (.v (.bool (decide ((0 : Int) ≤ y1))))) (.refl _) (.v _) hK
end Go.Proofs.Ytohmmfimedgccaa.E
end
section
namespace Go.Proofs.Ytohmmfimedgccaa.E
set_option maxRecDepth 100000
set_option maxHeartbeats 4000000
set_option linter.unusedVariables false
set_option linter.unusedSimpArgs false
noncomputable def B_check_Names_c1 (a0 : Flow) (a1 : Output) : Option Bool :=
 some (decide (a0.name = a1.flow))
abbrev check_Names_c1_A0 (a0 : Flow) : List PV := [(.v (.string a0.name)), (.v (.int .i64 a0.e.kind)), (.v (.string a0.e.name)), (.v (.int .i64 a0.e.n)), (.v (.int .i64 a0.e.d)), (.sl (Expr.rows a0.e.args)), (.v (.int .i64 a0.e.at_)), (.v (.int .i64 a0.at_))]
theorem W_check_Names_c1 : Sat_check_Names_c1 (B_check_Names_c1) := by
 intro a0 a1 r h σ K j1 H1 hK
 refine w_fp Try.func48 rfl rfl (by kernel_rfl) ?_
 unfold B_check_Names_c1 at h
 have hP := Pre.refl σ
 have jl1 := H1.lt
 have E0 : argE [(.ag (check_Names_c1_A0 a0)), (.pt j1 0)] 0 = (.ag (check_Names_c1_A0 a0)) := rfl
 have E1 : argE [(.ag (check_Names_c1_A0 a0)), (.pt j1 0)] 1 = (.pt j1 0) := rfl
 have TT := cj7 Expr.rlen T_2 T_3 T_39 T_41 T_65 T_9
 refine w_sa (fun e s => ∃ i2 : Nat, Gx s j1 (AObj.box 65 [(.v (.string a1.name)), (.v (.string a1.flow)), (.v (.int .i64 a1.deadline)), (.v (.int .i64 a1.at_))]) ∧ Bx σ s i2 41 (check_Names_c1_A0 a0) ∧ e 1 = (.pt j1 0) ∧ e 2 = (.pt i2 0) ∧ Pre σ s) ?_ fun e s hI => ?_
 ·refine w_x (cj6 E0 E1 H1.get H1.any H1.any2 TT) (k := ?_)
  have q1 := cj6 E0 E1 H1.get H1.any H1.any2 TT
  exact cw_n ⟨_, WkE.refl _, σ.length, (H1.app [some (AObj.box 41 (check_Names_c1_A0 a0))]), (Bx.new hP 41 (check_Names_c1_A0 a0)), (xv q1), (xv q1), (hP.app _)⟩
 obtain ⟨i2, X1, X2, E1, E2, hP⟩ := hI
 refine w_sa (fun e s => e 3 = (.v (.bool (decide (a0.name = a1.flow)))) ∧ Pre σ s) ?_ fun e s hI => ?_
 ·refine w_x (cj5 E1 E2 X1.get X2.get TT) (k := ?_)
  exact cw_n ⟨_, WkE.refl _, (xv (cj5 E1 E2 X1.get X2.get TT)), hP⟩
 obtain ⟨E3, hP⟩ := hI
 refine w_ret ?_
 obtain rfl := some_inj h
 exact w_fin (fun _ => rfl) (xr (rs := #[.tmp 3]) E3) hP (r' := (.v (.bool (decide (a0.name = a1.flow))))) (.refl _) (.v _) hK
end Go.Proofs.Ytohmmfimedgccaa.E
end
section
namespace Go.Proofs.Ytohmmfimedgccaa.E
set_option maxRecDepth 100000
set_option maxHeartbeats 4000000
set_option linter.unusedVariables false
set_option linter.unusedSimpArgs false
noncomputable def slices_IndexFunc_Flow_L0 (a0 : (List Flow)) (a1 : (Flow → Option Bool)) : Int → Option (Int ⊕ (Int ⊕ Unit))
 | v8_3 =>
  if (decide (v8_3 < ((List.length a0 : Nat) : Int))) then
   ((getI a0 v8_3).bind fun y9 =>
   (a1 y9).bind fun y11 =>
   if y11 then
    some (.inl v8_3)
   else
    some (.inr ()) : Option (Int ⊕ Unit)).bind fun x => match x with
   | .inl r => some (.inr (.inl r))
   | .inr _ =>
    some (.inl (IntKind.i64.wrap (v8_3 + (1 : Int))))
  else
   some (.inr (.inr ()))
noncomputable def B_slices_IndexFunc_Flow (a0 : (List Flow)) (a1 : (Flow → Option Bool)) : Option Int :=
 (iterO (slices_IndexFunc_Flow_L0 a0 a1) (0 : Int) : Option (Int ⊕ Unit)).bind fun x => match x with
 | .inl r => some r
 | .inr _ =>
  some (-1 : Int)
theorem W_slices_IndexFunc_Flow : Sat_slices_IndexFunc_Flow (B_slices_IndexFunc_Flow) := by
 intro a0 a1 r h σ K fid1 caps1 hg1 hK
 refine w_fp Try.func90 rfl rfl (by kernel_rfl) ?_
 unfold B_slices_IndexFunc_Flow at h
 have hP := Pre.refl σ
 have E0 : argE [(.sl (List.map Flow.cl a0)), (.fn fid1 [] caps1)] 0 = (.sl (List.map Flow.cl a0)) := rfl
 have E1 : argE [(.sl (List.map Flow.cl a0)), (.fn fid1 [] caps1)] 1 = (.fn fid1 [] caps1) := rfl
 have TT := cj6 Expr.rlen T_24 T_3 T_39 T_41 T_9
 refine w_sa (fun e s => e 0 = (.sl (List.map Flow.cl a0)) ∧ e 1 = (.fn fid1 [] caps1) ∧ Pre σ s) ?_ fun e s hI => ?_
 ·refine w_x (cj3 E0 E1 TT) (k := ?_)
  exact cw_n ⟨_, WkE.refl _, (xv (cj3 E0 E1 TT)), (xv (cj3 E0 E1 TT)), hP⟩
 obtain ⟨E0, E1, hP⟩ := hI
 refine w_assoc ?_
 refine w_sa (fun e s => e 0 = (.sl (List.map Flow.cl a0)) ∧ e 1 = (.fn fid1 [] caps1) ∧ e 7 = (.v (.int .i64 ((List.length a0 : Nat) : Int))) ∧ e 8 = (.v (.int .i64 (0 : Int))) ∧ Pre σ s) ?_ fun e s hI => ?_
 ·refine w_x (cj3 E0 E1 TT) (k := ?_)
  have q1 := cj3 E0 E1 TT
  exact cw_n ⟨_, WkE.refl _, (xv q1), (xv q1), (xv q1), (xv q1), hP⟩
 obtain ⟨E0, E1, E7, E8, hP⟩ := hI
 obtain ⟨x1, h2, h⟩ := bnd_some h
 refine w_sa (fun e s => .inr () = x1 ∧ Pre σ s) ?_ fun e s hI => ?_
 ·refine w_block ?_
  have q2 := cj4 E0 E1 E7 E8
  refine w_iter h2 (fun v e s => ∃ v8_3 : Int, v8_3 = v ∧ e 0 = (.sl (List.map Flow.cl a0)) ∧ e 1 = (.fn fid1 [] caps1) ∧ e 7 = (.v (.int .i64 ((List.length a0 : Nat) : Int))) ∧ e 8 = (.v (.int .i64 v8_3)) ∧ Pre σ s) ⟨_, WkE.refl _, _, rfl, (xv q2), (xv q2), (xv q2), (xv q2), hP⟩ fun v x4 e s hf5 hI => ?_
  obtain ⟨v8_3, rfl, E0, E1, E7, E8, hP⟩ := hI
  unfold slices_IndexFunc_Flow_L0 at hf5
  try dsimp only at hf5
  refine w_sa (fun e s => e 0 = (.sl (List.map Flow.cl a0)) ∧ e 1 = (.fn fid1 [] caps1) ∧ e 7 = (.v (.int .i64 ((List.length a0 : Nat) : Int))) ∧ e 8 = (.v (.int .i64 v8_3)) ∧ e 9 = (.v (.bool (decide (v8_3 < ((List.length a0 : Nat) : Int))))) ∧ Pre σ s) ?_ fun e s hI => ?_
  ·refine w_x (cj5 E0 E1 E7 E8 TT) (k := ?_)
   have q3 := cj5 E0 E1 E7 E8 TT
   exact cw_n ⟨_, WkE.refl _, (xv q3), (xv q3), (xv q3), (xv q3), (xv q3), hP⟩
  obtain ⟨E0, E1, E7, E8, E9, hP⟩ := hI
  refine w_seq ?_
  rcases ite_some hf5 with ⟨hb6, hf5⟩ | ⟨hb6, hf5⟩
  ·refine xt (cj6 E0 E1 E7 E8 E9 hb6) ?_
   refine w_skip ?_
   refine w_sq ?_
   obtain ⟨x7, h8, hf5⟩ := bnd_some hf5
   refine w_sa (fun e s => .inr () = x7 ∧ e 0 = (.sl (List.map Flow.cl a0)) ∧ e 1 = (.fn fid1 [] caps1) ∧ e 7 = (.v (.int .i64 ((List.length a0 : Nat) : Int))) ∧ e 8 = (.v (.int .i64 v8_3)) ∧ Pre σ s) ?_ fun e s hI => ?_
   ·refine w_block ?_
    refine w_sa (fun e s => e 0 = (.sl (List.map Flow.cl a0)) ∧ e 1 = (.fn fid1 [] caps1) ∧ e 5 = (.v (.int .i64 v8_3)) ∧ e 7 = (.v (.int .i64 ((List.length a0 : Nat) : Int))) ∧ e 8 = (.v (.int .i64 v8_3)) ∧ Pre σ s) ?_ fun e s hI => ?_
    ·refine w_x (cj6 E0 E1 E7 E8 E9 TT) (k := ?_)
     have q4 := cj6 E0 E1 E7 E8 E9 TT
     exact cw_n ⟨_, WkE.refl _, (xv q4), (xv q4), (xv q4), (xv q4), (xv q4), hP⟩
    obtain ⟨E0, E1, E5, E7, E8, hP⟩ := hI
    obtain ⟨y9, h10, h8⟩ := bnd_some h8
    obtain ⟨y11, h12, h8⟩ := bnd_some h8
    refine w_sa (fun e s => e 0 = (.sl (List.map Flow.cl a0)) ∧ e 1 = (.fn fid1 [] caps1) ∧ e 5 = (.v (.int .i64 v8_3)) ∧ e 7 = (.v (.int .i64 ((List.length a0 : Nat) : Int))) ∧ e 8 = (.v (.int .i64 v8_3)) ∧ e 16 = (.v (.bool y11)) ∧ Pre σ s) ?_ fun e s hI => ?_
    ·have R13 : (List.map Flow.cl a0)[(v8_3).toNat]? = some [(.v (.string y9.name)), (.v (.int .i64 y9.e.kind)), (.v (.string y9.e.name)), (.v (.int .i64 y9.e.n)), (.v (.int .i64 y9.e.d)), (.sl (Expr.rows y9.e.args)), (.v (.int .i64 y9.e.at_)), (.v (.int .i64 y9.at_))] := map_get (getI_some h10).2
     refine w_x (cj8 E0 E1 E5 E7 E8 R13 (getI_some h10).1 TT) (k := ?_)
     refine EC.wka (.cons (.refl _) (WkL.refl _)) (hg1 _  _ h12  _ _ hP ?_)
     refine w_y (cj8 E0 E1 E5 E7 E8 R13 (getI_some h10).1 TT) (k := ?_)
     have q5 := cj8 E0 E1 E5 E7 E8 R13 (getI_some h10).1 TT
     exact cw_n ⟨_, WkE.refl _, (xv q5), (xv q5), (xv q5), (xv q5), (xv q5), (xv q5), hP⟩
    obtain ⟨E0, E1, E5, E7, E8, E16, hP⟩ := hI
    rcases ite_some h8 with ⟨hb14, h8⟩ | ⟨hb14, h8⟩
    ·refine xt (cj7 E0 E1 E5 E7 E8 E16 hb14) ?_
     refine w_sa (fun e s => e 4 = (.v (.int .i64 v8_3)) ∧ Pre σ s) ?_ fun e s hI => ?_
     ·refine w_x (cj7 E0 E1 E5 E7 E8 E16 TT) (k := ?_)
      exact cw_n ⟨_, WkE.refl _, (xv (cj7 E0 E1 E5 E7 E8 E16 TT)), hP⟩
     obtain ⟨E4, hP⟩ := hI
     refine w_ret ?_
     refine w_bkr ?_
     obtain rfl := some_inj h8
     refine cw_r ?_
     try dsimp only at hf5
     obtain rfl := some_inj hf5
     refine iq_r rfl fun hr15 => ?_
     obtain rfl := hr15
     refine w_bkr ?_
     refine cw_r ?_
     try dsimp only at h
     obtain rfl := some_inj h
     exact w_fin (fun _ => rfl) (xr (rs := #[.tmp 4]) E4) hP (r' := (.v (.int .i64 v8_3))) (.refl _) (.v _) hK
    ·refine xf (cj7 E0 E1 E5 E7 E8 E16 hb14) ?_
     refine w_skip ?_
     refine w_bk ?_
     obtain rfl := some_inj h8
     have q6 := cj6 E0 E1 E5 E7 E8 E16
     exact cw_n ⟨_, WkE.refl _, rfl, (xv q6), (xv q6), (xv q6), (xv q6), hP⟩
   obtain ⟨rfl, E0, E1, E7, E8, hP⟩ := hI
   try dsimp only at hf5
   refine w_x (cj5 E0 E1 E7 E8 TT) (k := ?_)
   obtain rfl := some_inj hf5
   have q7 := cj5 E0 E1 E7 E8 TT
   exact iq_n rfl ⟨_, WkE.refl _, _, rfl, (xv q7), (xv q7), (xv q7), (xv q7), hP⟩
  ·refine xf (cj6 E0 E1 E7 E8 E9 hb6) ?_
   refine w_exit ?_
   refine w_sqx ?_
   obtain rfl := some_inj hf5
   refine iq_x rfl fun hr16 => ?_
   obtain rfl := hr16
   refine w_bkx ?_
   exact cw_n ⟨_, WkE.refl _, rfl, hP⟩
 obtain ⟨rfl, hP⟩ := hI
 try dsimp only at h
 refine w_sa (fun e s => e 4 = (.v (.int .i64 (-1 : Int))) ∧ Pre σ s) ?_ fun e s hI => ?_
 ·refine w_x Expr.rlen (k := ?_)
  exact cw_n ⟨_, WkE.refl _, (xv Expr.rlen), hP⟩
 obtain ⟨E4, hP⟩ := hI
 refine w_ret ?_
 obtain rfl := some_inj h
 exact w_fin (fun _ => rfl) (xr (rs := #[.tmp 4]) E4) hP (r' := (.v (.int .i64 (-1 : Int)))) (.refl _) (.v _) hK
end Go.Proofs.Ytohmmfimedgccaa.E
end
