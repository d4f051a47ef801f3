import Derived.KernelRfl
import Derived.Test.YtohmmfimedgccaaRows
import Derived.WalkKit
import Derived.ProofKit
import Derived.OpenShut
import Derived.ShutString
import Derived.ChangeOld
import Derived.Below
import Derived.SizedLaws
import Derived.Test.YtohmmfimedgccaaQF6
/- CheckFinds returns true at every input. PART 8 OF 8: G52 G61 PK PM G4 PN PO OP RowCheckFinds -/
section
namespace Go.Proofs.Ytohmmfimedgccaa.E
set_option maxRecDepth 100000
set_option maxHeartbeats 4000000
set_option linter.unusedVariables false
set_option linter.unusedSimpArgs false
noncomputable def B_ref02_Apply (f_ref02_Right : Clock → Option Bool) (a0 : Clock) (a1 : Op) : Option (Clock × Int) :=
 (f_ref02_Right a0).bind fun y1 =>
 if (((!y1) || (decide (a1.kind < (3 : Int)))) || (decide ((8 : Int) < a1.kind))) then
  some ((Clock.mk (0 : Int) (0 : Int)), (12 : Int))
 else
  (if (decide (a1.kind = (5 : Int))) then
   some (0 : Int)
  else
   some (1 : Int) : Option Int).bind fun v6_8 =>
  if (((decide (a1.kind < (6 : Int))) && ((decide (a1.n < v6_8)) || (decide ((100 : Int) < a1.n)))) || ((decide (a1.kind = (5 : Int))) && ((decide (a1.d < (1 : Int))) || (decide ((100 : Int) < a1.d))))) then
   some ((Clock.mk (0 : Int) (0 : Int)), (7 : Int))
  else
   ((if (decide (a1.kind = (3 : Int))) then
    (remO a0.period a1.n).bind fun y29 =>
    if (!decide (y29 = (0 : Int))) then
     some (.inl ((Clock.mk (0 : Int) (0 : Int)), (5 : Int)))
    else
     (quoO .i64 a0.period a1.n).bind fun y32 =>
     some (.inr (y32, a0.phase, (Clock.mk (0 : Int) (0 : Int))))
   else
    (if (decide (a1.kind = (4 : Int))) then
     some (.inr ((IntKind.i64.wrap (a0.period * a1.n)), a0.phase, (Clock.mk (0 : Int) (0 : Int))))
    else
     (if (decide (a1.kind = (5 : Int))) then
      (remO (IntKind.i64.wrap (a0.period * a1.n)) a1.d).bind fun y45 =>
      if (!decide (y45 = (0 : Int))) then
       some (.inl ((Clock.mk (0 : Int) (0 : Int)), (5 : Int)))
      else
       (quoO .i64 (IntKind.i64.wrap (a0.period * a1.n)) a1.d).bind fun y48 =>
       some (.inr ((IntKind.i64.wrap (a0.phase + y48)), (Clock.mk (0 : Int) (0 : Int))))
     else
      (if (decide (a1.kind = (7 : Int))) then
       some (.inr ((IntKind.i64.wrap (a0.phase + a0.period)), (Clock.mk (0 : Int) (0 : Int))))
      else
       (if (decide (a1.kind = (8 : Int))) then
        if (decide (a0.phase < a0.period)) then
         some (.inl ((Clock.mk (0 : Int) (0 : Int)), (5 : Int)))
        else
         some (.inr ((IntKind.i64.wrap (a0.phase - a0.period)), (Clock.mk (0 : Int) (0 : Int))))
       else
        some (.inr (a0.phase, (Clock.mk (0 : Int) (0 : Int)))) : Option ((Clock × Int) ⊕ (Int × Clock))).bind fun x => match x with
       | .inl r => some (.inl r)
       | .inr (v8_57, v4_58) =>
        some (.inr (v8_57, v4_58)) : Option ((Clock × Int) ⊕ (Int × Clock))).bind fun x => match x with
      | .inl r => some (.inl r)
      | .inr (v8_52, v4_53) =>
       some (.inr (v8_52, v4_53)) : Option ((Clock × Int) ⊕ (Int × Clock))).bind fun x => match x with
     | .inl r => some (.inl r)
     | .inr (v8_42, v4_43) =>
      some (.inr (a0.period, v8_42, v4_43)) : Option ((Clock × Int) ⊕ (Int × Int × Clock))).bind fun x => match x with
    | .inl r => some (.inl r)
    | .inr (v7_36, v8_37, v4_38) =>
     some (.inr (v7_36, v8_37, v4_38)) : Option ((Clock × Int) ⊕ (Int × Int × Clock))).bind fun x => match x with
   | .inl r => some (.inl r)
   | .inr (v7_25, v8_26, v4_27) =>
    some (.inr (v7_25, v8_26, v4_27)) : Option ((Clock × Int) ⊕ (Int × Int × Clock))).bind fun x => match x with
   | .inl r => some r
   | .inr (v7_20, v8_21, v4_22) =>
    (f_ref02_Right (Clock.mk v7_20 v8_21)).bind fun y61 =>
    if (!y61) then
     some ((Clock.mk (0 : Int) (0 : Int)), (7 : Int))
    else
     some ((Clock.mk v7_20 v8_21), (0 : Int))
abbrev ref02_Apply_A0 (a1 : Op) : List PV := [(.v (.int .i64 a1.kind)), (.v (.int .i64 a1.n)), (.v (.int .i64 a1.d))]
abbrev ref02_Apply_A1 (a0 : Clock) : List PV := [(.v (.int .i64 a0.period)), (.v (.int .i64 a0.phase))]
theorem W_ref02_Apply (f_ref02_Right : Clock → Option Bool) (S_ref02_Right : Sat_ref02_Right f_ref02_Right) : Sat_ref02_Apply (B_ref02_Apply f_ref02_Right) := by
 intro a0 a1 r h σ K hK
 refine w_fp Try.func52 rfl rfl (by kernel_rfl) ?_
 unfold B_ref02_Apply at h
 have hP := Pre.refl σ
 have E0 : argE [(.ag (ref02_Apply_A1 a0)), (.ag (ref02_Apply_A0 a1))] 0 = (.ag (ref02_Apply_A1 a0)) := rfl
 have E1 : argE [(.ag (ref02_Apply_A1 a0)), (.ag (ref02_Apply_A0 a1))] 1 = (.ag (ref02_Apply_A0 a1)) := rfl
 have TT := cj5 Expr.rlen T_119 T_2 T_3 T_43
 refine w_sa (fun e s => ∃ i2 i3 i4 : Nat, Bx σ s i2 43 (ref02_Apply_A1 a0) ∧ Bx σ s i3 119 (ref02_Apply_A0 a1) ∧ Bx σ s i4 43 [(.v (.int .i64 (0 : Int))), (.v (.int .i64 (0 : Int)))] ∧ e 2 = (.pt i2 0) ∧ e 3 = (.pt i3 0) ∧ e 4 = (.pt i4 0) ∧ i2 ≠ i4 ∧ i3 ≠ i4 ∧ Pre σ s) ?_ fun e s hI => ?_
 ·refine w_x (cj3 E0 E1 TT) (k := ?_)
  have q1 := Bx.new hP 43 (ref02_Apply_A1 a0)
  exact cw_n ⟨_, WkE.refl _, σ.length, (σ ++ [some (AObj.box 43 (ref02_Apply_A1 a0))]).length, ((σ ++ [some (AObj.box 43 (ref02_Apply_A1 a0))]) ++ [some (AObj.box 119 (ref02_Apply_A0 a1))]).length, ((q1.app [some (AObj.box 119 (ref02_Apply_A0 a1))]).app [some (AObj.box 43 [(.v (.int .i64 (0 : Int))), (.v (.int .i64 (0 : Int)))])]), ((Bx.new (hP.app _) 119 (ref02_Apply_A0 a1)).app [some (AObj.box 43 [(.v (.int .i64 (0 : Int))), (.v (.int .i64 (0 : Int)))])]), (Bx.new ((hP.app _).app _) 43 [(.v (.int .i64 (0 : Int))), (.v (.int .i64 (0 : Int)))]), (xv (cj3 E0 E1 TT)), (xv (cj3 E0 E1 TT)), (xv (cj3 E0 E1 TT)), (Nat.ne_of_lt (q1.app [some (AObj.box 119 (ref02_Apply_A0 a1))]).lt), (Nat.ne_of_lt (Bx.new (hP.app _) 119 (ref02_Apply_A0 a1)).lt), (((hP.app _).app _).app _)⟩
 obtain ⟨i2, i3, i4, X2, X3, X4, E2, E3, E4, N2__4, N3__4, hP⟩ := hI
 refine w_assoc ?_
 obtain ⟨y1, h2, h⟩ := bnd_some h
 refine w_sa (fun e s => Bx σ s i2 43 (ref02_Apply_A1 a0) ∧ Bx σ s i3 119 (ref02_Apply_A0 a1) ∧ Bx σ s i4 43 [(.v (.int .i64 (0 : Int))), (.v (.int .i64 (0 : Int)))] ∧ e 2 = (.pt i2 0) ∧ e 3 = (.pt i3 0) ∧ e 4 = (.pt i4 0) ∧ e 22 = (.v (.bool (((!y1) || (decide (a1.kind < (3 : Int)))) || (decide ((8 : Int) < a1.kind))))) ∧ i2 ≠ i4 ∧ i3 ≠ i4 ∧ Pre σ s) ?_ fun e s hI => ?_
 ·cases hb3 : (!y1)
  ·cases hb4 : (decide (a1.kind < (3 : Int)))
   ·refine w_x (cj9 E2 E3 E4 X2.get X3.get X4.get hb3 hb4 TT) (k := ?_)
    refine EC.wka (.cons (.refl _) .nil) (S_ref02_Right _ _ h2 _ _  ?_)
    refine w_y (cj9 E2 E3 E4 X2.get X3.get X4.get hb3 hb4 TT) (k := ?_)
    have q2 := cj9 E2 E3 E4 X2.get X3.get X4.get hb3 hb4 TT
    exact cw_n ⟨_, WkE.refl _, X2, X3, X4, (xv q2), (xv q2), (xv q2), (xv q2), N2__4, N3__4, hP⟩
   ·refine w_x (cj9 E2 E3 E4 X2.get X3.get X4.get hb3 hb4 TT) (k := ?_)
    refine EC.wka (.cons (.refl _) .nil) (S_ref02_Right _ _ h2 _ _  ?_)
    refine w_y (cj9 E2 E3 E4 X2.get X3.get X4.get hb3 hb4 TT) (k := ?_)
    have q3 := cj9 E2 E3 E4 X2.get X3.get X4.get hb3 hb4 TT
    exact cw_n ⟨_, WkE.refl _, X2, X3, X4, (xv q3), (xv q3), (xv q3), (xv q3), N2__4, N3__4, hP⟩
  ·refine w_x (cj8 E2 E3 E4 X2.get X3.get X4.get hb3 TT) (k := ?_)
   refine EC.wka (.cons (.refl _) .nil) (S_ref02_Right _ _ h2 _ _  ?_)
   refine w_y (cj8 E2 E3 E4 X2.get X3.get X4.get hb3 TT) (k := ?_)
   have q4 := cj8 E2 E3 E4 X2.get X3.get X4.get hb3 TT
   exact cw_n ⟨_, WkE.refl _, X2, X3, X4, (xv q4), (xv q4), (xv q4), (xv q4), N2__4, N3__4, hP⟩
 obtain ⟨X2, X3, X4, E2, E3, E4, E22, N2__4, N3__4, hP⟩ := hI
 refine w_seq ?_
 rcases ite_some h with ⟨hb5, h⟩ | ⟨hb5, h⟩
 ·refine xt (cj5 E2 E3 E4 E22 hb5) ?_
  refine w_sa (fun e s => Bx σ s i4 43 [(.v (.int .i64 (0 : Int))), (.v (.int .i64 (0 : Int)))] ∧ e 4 = (.pt i4 0) ∧ e 5 = (.v (.int .i64 (12 : Int))) ∧ Pre σ s) ?_ fun e s hI => ?_
  ·refine w_x (cj11 E2 E3 E4 E22 X2.get X3.get X4.get (X2.ne (Ne.symm N2__4) (some (AObj.box 43 [(.v (.int .i64 (0 : Int))), (.v (.int .i64 (0 : Int)))]))).get (X3.ne (Ne.symm N3__4) (some (AObj.box 43 [(.v (.int .i64 (0 : Int))), (.v (.int .i64 (0 : Int)))]))).get (X4.same 43 [(.v (.int .i64 (0 : Int))), (.v (.int .i64 (0 : Int)))]).get TT) (k := ?_)
   have q5 := X4.same 43 [(.v (.int .i64 (0 : Int))), (.v (.int .i64 (0 : Int)))]
   have q6 := X2.ne (Ne.symm N2__4) (some (AObj.box 43 [(.v (.int .i64 (0 : Int))), (.v (.int .i64 (0 : Int)))]))
   have q7 := X3.ne (Ne.symm N3__4) (some (AObj.box 43 [(.v (.int .i64 (0 : Int))), (.v (.int .i64 (0 : Int)))]))
   have q8 := cj11 E2 E3 E4 E22 X2.get X3.get X4.get q6.get q7.get q5.get TT
   exact cw_n ⟨_, WkE.refl _, q5, (xv q8), (xv q8), (hP.set X4.le (some (AObj.box 43 [(.v (.int .i64 (0 : Int))), (.v (.int .i64 (0 : Int)))])))⟩
  obtain ⟨X4, E4, E5, hP⟩ := hI
  refine w_ret ?_
  refine w_sqr ?_
  obtain rfl := some_inj h
  exact w_fin (fun _ => rfl) (xr (rs := #[.cell 4 43, .tmp 5]) (cj4 X4.get E4 E5 TT)) hP (r' := (.tu [(.ag [(.v (.int .i64 (0 : Int))), (.v (.int .i64 (0 : Int)))]), (.v (.int .i64 (12 : Int)))])) (.refl _) (.tu (CnL.cons (.ag (CnL.cons (.v _) (CnL.cons (.v _) CnL.nil))) (CnL.cons (.v _) CnL.nil))) hK
 ·refine xf (cj5 E2 E3 E4 E22 hb5) ?_
  refine w_skip ?_
  refine w_sq ?_
  refine w_sa (fun e s => Bx σ s i2 43 (ref02_Apply_A1 a0) ∧ Bx σ s i3 119 (ref02_Apply_A0 a1) ∧ Bx σ s i4 43 [(.v (.int .i64 (0 : Int))), (.v (.int .i64 (0 : Int)))] ∧ e 2 = (.pt i2 0) ∧ e 3 = (.pt i3 0) ∧ e 4 = (.pt i4 0) ∧ e 6 = (.v (.int .i64 (1 : Int))) ∧ i2 ≠ i4 ∧ i3 ≠ i4 ∧ Pre σ s) ?_ fun e s hI => ?_
  ·refine w_x (cj8 E2 E3 E4 E22 X2.get X3.get X4.get TT) (k := ?_)
   have q9 := cj8 E2 E3 E4 E22 X2.get X3.get X4.get TT
   exact cw_n ⟨_, WkE.refl _, X2, X3, X4, (xv q9), (xv q9), (xv q9), (xv q9), N2__4, N3__4, hP⟩
  obtain ⟨X2, X3, X4, E2, E3, E4, E6, N2__4, N3__4, hP⟩ := hI
  refine w_assoc ?_
  refine w_sa (fun e s => Bx σ s i2 43 (ref02_Apply_A1 a0) ∧ Bx σ s i3 119 (ref02_Apply_A0 a1) ∧ Bx σ s i4 43 [(.v (.int .i64 (0 : Int))), (.v (.int .i64 (0 : Int)))] ∧ e 2 = (.pt i2 0) ∧ e 3 = (.pt i3 0) ∧ e 4 = (.pt i4 0) ∧ e 6 = (.v (.int .i64 (1 : Int))) ∧ e 26 = (.v (.bool (decide (a1.kind = (5 : Int))))) ∧ i2 ≠ i4 ∧ i3 ≠ i4 ∧ Pre σ s) ?_ fun e s hI => ?_
  ·refine w_x (cj8 E2 E3 E4 E6 X2.get X3.get X4.get TT) (k := ?_)
   have q10 := cj8 E2 E3 E4 E6 X2.get X3.get X4.get TT
   exact cw_n ⟨_, WkE.refl _, X2, X3, X4, (xv q10), (xv q10), (xv q10), (xv q10), (xv q10), N2__4, N3__4, hP⟩
  obtain ⟨X2, X3, X4, E2, E3, E4, E6, E26, N2__4, N3__4, hP⟩ := hI
  obtain ⟨x6, h7, h⟩ := bnd_some h
  refine w_sa (fun e s => ∃ v6_8 : Int, v6_8 = x6 ∧ Bx σ s i2 43 (ref02_Apply_A1 a0) ∧ Bx σ s i3 119 (ref02_Apply_A0 a1) ∧ Bx σ s i4 43 [(.v (.int .i64 (0 : Int))), (.v (.int .i64 (0 : Int)))] ∧ e 2 = (.pt i2 0) ∧ e 3 = (.pt i3 0) ∧ e 4 = (.pt i4 0) ∧ e 6 = (.v (.int .i64 v6_8)) ∧ i2 ≠ i4 ∧ i3 ≠ i4 ∧ Pre σ s) ?_ fun e s hI => ?_
  ·rcases ite_some h7 with ⟨hb9, h7⟩ | ⟨hb9, h7⟩
   ·refine xt (cj6 E2 E3 E4 E6 E26 hb9) ?_
    refine w_x (cj9 E2 E3 E4 E6 E26 X2.get X3.get X4.get TT) (k := ?_)
    obtain rfl := some_inj h7
    have q11 := cj9 E2 E3 E4 E6 E26 X2.get X3.get X4.get TT
    exact cw_n ⟨_, WkE.refl _, _, rfl, X2, X3, X4, (xv q11), (xv q11), (xv q11), (xv q11), N2__4, N3__4, hP⟩
   ·refine xf (cj6 E2 E3 E4 E6 E26 hb9) ?_
    refine w_skip ?_
    obtain rfl := some_inj h7
    have q12 := cj5 E2 E3 E4 E6 E26
    exact cw_n ⟨_, WkE.refl _, _, rfl, X2, X3, X4, (xv q12), (xv q12), (xv q12), (xv q12), N2__4, N3__4, hP⟩
  obtain ⟨v6_8, rfl, X2, X3, X4, E2, E3, E4, E6, N2__4, N3__4, hP⟩ := hI
  try dsimp only at h
  refine w_assoc ?_
  refine w_sa (fun e s => Bx σ s i2 43 (ref02_Apply_A1 a0) ∧ Bx σ s i3 119 (ref02_Apply_A0 a1) ∧ Bx σ s i4 43 [(.v (.int .i64 (0 : Int))), (.v (.int .i64 (0 : Int)))] ∧ e 2 = (.pt i2 0) ∧ e 3 = (.pt i3 0) ∧ e 4 = (.pt i4 0) ∧ e 55 = (.v (.bool (((decide (a1.kind < (6 : Int))) && ((decide (a1.n < v6_8)) || (decide ((100 : Int) < a1.n)))) || ((decide (a1.kind = (5 : Int))) && ((decide (a1.d < (1 : Int))) || (decide ((100 : Int) < a1.d))))))) ∧ i2 ≠ i4 ∧ i3 ≠ i4 ∧ Pre σ s) ?_ fun e s hI => ?_
  ·cases hb10 : (decide (a1.kind < (6 : Int)))
   ·cases hb11 : (decide (a1.kind = (5 : Int)))
    ·refine w_x (cj10 E2 E3 E4 E6 X2.get X3.get X4.get hb10 hb11 TT) (k := ?_)
     have q13 := cj10 E2 E3 E4 E6 X2.get X3.get X4.get hb10 hb11 TT
     exact cw_n ⟨_, WkE.refl _, X2, X3, X4, (xv q13), (xv q13), (xv q13), (xv q13), N2__4, N3__4, hP⟩
    ·cases hb12 : (decide (a1.d < (1 : Int)))
     ·refine w_x (cj11 E2 E3 E4 E6 X2.get X3.get X4.get hb10 hb11 hb12 TT) (k := ?_)
      have q14 := cj11 E2 E3 E4 E6 X2.get X3.get X4.get hb10 hb11 hb12 TT
      exact cw_n ⟨_, WkE.refl _, X2, X3, X4, (xv q14), (xv q14), (xv q14), (xv q14), N2__4, N3__4, hP⟩
     ·refine w_x (cj11 E2 E3 E4 E6 X2.get X3.get X4.get hb10 hb11 hb12 TT) (k := ?_)
      have q15 := cj11 E2 E3 E4 E6 X2.get X3.get X4.get hb10 hb11 hb12 TT
      exact cw_n ⟨_, WkE.refl _, X2, X3, X4, (xv q15), (xv q15), (xv q15), (xv q15), N2__4, N3__4, hP⟩
   ·cases hb13 : (decide (a1.n < v6_8))
    ·cases hb14 : (decide ((100 : Int) < a1.n))
     ·cases hb15 : (decide (a1.kind = (5 : Int)))
      ·refine w_x (cj12 E2 E3 E4 E6 X2.get X3.get X4.get hb10 hb13 hb14 hb15 TT) (k := ?_)
       have q16 := cj12 E2 E3 E4 E6 X2.get X3.get X4.get hb10 hb13 hb14 hb15 TT
       exact cw_n ⟨_, WkE.refl _, X2, X3, X4, (xv q16), (xv q16), (xv q16), (xv q16), N2__4, N3__4, hP⟩
      ·cases hb16 : (decide (a1.d < (1 : Int)))
       ·refine w_x (cj13 E2 E3 E4 E6 X2.get X3.get X4.get hb10 hb13 hb14 hb15 hb16 TT) (k := ?_)
        have q17 := cj13 E2 E3 E4 E6 X2.get X3.get X4.get hb10 hb13 hb14 hb15 hb16 TT
        exact cw_n ⟨_, WkE.refl _, X2, X3, X4, (xv q17), (xv q17), (xv q17), (xv q17), N2__4, N3__4, hP⟩
       ·refine w_x (cj13 E2 E3 E4 E6 X2.get X3.get X4.get hb10 hb13 hb14 hb15 hb16 TT) (k := ?_)
        have q18 := cj13 E2 E3 E4 E6 X2.get X3.get X4.get hb10 hb13 hb14 hb15 hb16 TT
        exact cw_n ⟨_, WkE.refl _, X2, X3, X4, (xv q18), (xv q18), (xv q18), (xv q18), N2__4, N3__4, hP⟩
     ·refine w_x (cj11 E2 E3 E4 E6 X2.get X3.get X4.get hb10 hb13 hb14 TT) (k := ?_)
      have q19 := cj11 E2 E3 E4 E6 X2.get X3.get X4.get hb10 hb13 hb14 TT
      exact cw_n ⟨_, WkE.refl _, X2, X3, X4, (xv q19), (xv q19), (xv q19), (xv q19), N2__4, N3__4, hP⟩
    ·refine w_x (cj10 E2 E3 E4 E6 X2.get X3.get X4.get hb10 hb13 TT) (k := ?_)
     have q20 := cj10 E2 E3 E4 E6 X2.get X3.get X4.get hb10 hb13 TT
     exact cw_n ⟨_, WkE.refl _, X2, X3, X4, (xv q20), (xv q20), (xv q20), (xv q20), N2__4, N3__4, hP⟩
  obtain ⟨X2, X3, X4, E2, E3, E4, E55, N2__4, N3__4, hP⟩ := hI
  refine w_seq ?_
  rcases ite_some h with ⟨hb17, h⟩ | ⟨hb17, h⟩
  ·refine xt (cj5 E2 E3 E4 E55 hb17) ?_
   refine w_sa (fun e s => Bx σ s i4 43 [(.v (.int .i64 (0 : Int))), (.v (.int .i64 (0 : Int)))] ∧ e 4 = (.pt i4 0) ∧ e 5 = (.v (.int .i64 (7 : Int))) ∧ Pre σ s) ?_ fun e s hI => ?_
   ·refine w_x (cj11 E2 E3 E4 E55 X2.get X3.get X4.get (X2.ne (Ne.symm N2__4) (some (AObj.box 43 [(.v (.int .i64 (0 : Int))), (.v (.int .i64 (0 : Int)))]))).get (X3.ne (Ne.symm N3__4) (some (AObj.box 43 [(.v (.int .i64 (0 : Int))), (.v (.int .i64 (0 : Int)))]))).get (X4.same 43 [(.v (.int .i64 (0 : Int))), (.v (.int .i64 (0 : Int)))]).get TT) (k := ?_)
    have q21 := X4.same 43 [(.v (.int .i64 (0 : Int))), (.v (.int .i64 (0 : Int)))]
    have q22 := X2.ne (Ne.symm N2__4) (some (AObj.box 43 [(.v (.int .i64 (0 : Int))), (.v (.int .i64 (0 : Int)))]))
    have q23 := X3.ne (Ne.symm N3__4) (some (AObj.box 43 [(.v (.int .i64 (0 : Int))), (.v (.int .i64 (0 : Int)))]))
    have q24 := cj11 E2 E3 E4 E55 X2.get X3.get X4.get q22.get q23.get q21.get TT
    exact cw_n ⟨_, WkE.refl _, q21, (xv q24), (xv q24), (hP.set X4.le (some (AObj.box 43 [(.v (.int .i64 (0 : Int))), (.v (.int .i64 (0 : Int)))])))⟩
   obtain ⟨X4, E4, E5, hP⟩ := hI
   refine w_ret ?_
   refine w_sqr ?_
   obtain rfl := some_inj h
   exact w_fin (fun _ => rfl) (xr (rs := #[.cell 4 43, .tmp 5]) (cj4 X4.get E4 E5 TT)) hP (r' := (.tu [(.ag [(.v (.int .i64 (0 : Int))), (.v (.int .i64 (0 : Int)))]), (.v (.int .i64 (7 : Int)))])) (.refl _) (.tu (CnL.cons (.ag (CnL.cons (.v _) (CnL.cons (.v _) CnL.nil))) (CnL.cons (.v _) CnL.nil))) hK
  ·refine xf (cj5 E2 E3 E4 E55 hb17) ?_
   refine w_skip ?_
   refine w_sq ?_
   refine w_sa (fun e s => Bx σ s i3 119 (ref02_Apply_A0 a1) ∧ Bx σ s i4 43 [(.v (.int .i64 (0 : Int))), (.v (.int .i64 (0 : Int)))] ∧ e 3 = (.pt i3 0) ∧ e 4 = (.pt i4 0) ∧ e 7 = (.v (.int .i64 a0.period)) ∧ e 8 = (.v (.int .i64 a0.phase)) ∧ i3 ≠ i4 ∧ Pre σ s) ?_ fun e s hI => ?_
   ·refine w_xp (cj8 E2 E3 E4 E55 X2.get X3.get X4.get TT) (k := ?_)
    have q25 := cj8 E2 E3 E4 E55 X2.get X3.get X4.get TT
    exact cw_n ⟨_, WkE.refl _, X3, X4, (xv q25), (xv q25), (xv q25), (xv q25), N3__4, hP⟩
   obtain ⟨X3, X4, E3, E4, E7, E8, N3__4, hP⟩ := hI
   refine w_assoc ?_
   refine w_sa (fun e s => Bx σ s i3 119 (ref02_Apply_A0 a1) ∧ Bx σ s i4 43 [(.v (.int .i64 (0 : Int))), (.v (.int .i64 (0 : Int)))] ∧ e 3 = (.pt i3 0) ∧ e 4 = (.pt i4 0) ∧ e 7 = (.v (.int .i64 a0.period)) ∧ e 8 = (.v (.int .i64 a0.phase)) ∧ e 62 = (.v (.int .i64 a1.kind)) ∧ i3 ≠ i4 ∧ Pre σ s) ?_ fun e s hI => ?_
   ·refine w_x (cj7 E3 E4 E7 E8 X3.get X4.get TT) (k := ?_)
    have q26 := cj7 E3 E4 E7 E8 X3.get X4.get TT
    exact cw_n ⟨_, WkE.refl _, X3, X4, (xv q26), (xv q26), (xv q26), (xv q26), (xv q26), N3__4, hP⟩
   obtain ⟨X3, X4, E3, E4, E7, E8, E62, N3__4, hP⟩ := hI
   obtain ⟨x18, h19, h⟩ := bnd_some h
   refine w_sa (fun e s => ∃ v7_20 : Int, ∃ v8_21 : Int, ∃ v4_22 : Clock, .inr (v7_20, v8_21, v4_22) = x18 ∧ Bx σ s i4 43 [(.v (.int .i64 v4_22.period)), (.v (.int .i64 v4_22.phase))] ∧ e 4 = (.pt i4 0) ∧ e 7 = (.v (.int .i64 v7_20)) ∧ e 8 = (.v (.int .i64 v8_21)) ∧ Pre σ s) ?_ fun e s hI => ?_
   ·refine w_block ?_
    refine w_sa (fun e s => Bx σ s i3 119 (ref02_Apply_A0 a1) ∧ Bx σ s i4 43 [(.v (.int .i64 (0 : Int))), (.v (.int .i64 (0 : Int)))] ∧ e 3 = (.pt i3 0) ∧ e 4 = (.pt i4 0) ∧ e 7 = (.v (.int .i64 a0.period)) ∧ e 8 = (.v (.int .i64 a0.phase)) ∧ e 62 = (.v (.int .i64 a1.kind)) ∧ e 63 = (.v (.bool (decide (a1.kind = (3 : Int))))) ∧ i3 ≠ i4 ∧ Pre σ s) ?_ fun e s hI => ?_
    ·refine w_x (cj8 E3 E4 E7 E8 E62 X3.get X4.get TT) (k := ?_)
     have q27 := cj8 E3 E4 E7 E8 E62 X3.get X4.get TT
     exact cw_n ⟨_, WkE.refl _, X3, X4, (xv q27), (xv q27), (xv q27), (xv q27), (xv q27), (xv q27), N3__4, hP⟩
    obtain ⟨X3, X4, E3, E4, E7, E8, E62, E63, N3__4, hP⟩ := hI
    obtain ⟨x23, h24, h19⟩ := bnd_some h19
    refine w_an (fun e s => ∃ v7_25 : Int, ∃ v8_26 : Int, ∃ v4_27 : Clock, .inr (v7_25, v8_26, v4_27) = x23 ∧ Bx σ s i4 43 [(.v (.int .i64 v4_27.period)), (.v (.int .i64 v4_27.phase))] ∧ e 4 = (.pt i4 0) ∧ e 7 = (.v (.int .i64 v7_25)) ∧ e 8 = (.v (.int .i64 v8_26)) ∧ Pre σ s) ?_ fun e s hI => ?_
    ·rcases ite_some h24 with ⟨hb28, h24⟩ | ⟨hb28, h24⟩
     ·refine xt (cj7 E3 E4 E7 E8 E62 E63 hb28) ?_
      refine w_assoc ?_
      obtain ⟨y29, h30, h24⟩ := bnd_some h24
      refine w_sa (fun e s => Bx σ s i3 119 (ref02_Apply_A0 a1) ∧ Bx σ s i4 43 [(.v (.int .i64 (0 : Int))), (.v (.int .i64 (0 : Int)))] ∧ e 3 = (.pt i3 0) ∧ e 4 = (.pt i4 0) ∧ e 7 = (.v (.int .i64 a0.period)) ∧ e 8 = (.v (.int .i64 a0.phase)) ∧ e 69 = (.v (.bool (!decide (y29 = (0 : Int))))) ∧ i3 ≠ i4 ∧ Pre σ s) ?_ fun e s hI => ?_
      ·refine w_x (cj11 E3 E4 E7 E8 E62 E63 X3.get X4.get (eq_false (remO_some h30).1) (remO_some h30).2 TT) (k := ?_)
       have q28 := cj11 E3 E4 E7 E8 E62 E63 X3.get X4.get (eq_false (remO_some h30).1) (remO_some h30).2 TT
       exact cw_n ⟨_, WkE.refl _, X3, X4, (xv q28), (xv q28), (xv q28), (xv q28), (xv q28), N3__4, hP⟩
      obtain ⟨X3, X4, E3, E4, E7, E8, E69, N3__4, hP⟩ := hI
      refine w_seq ?_
      rcases ite_some h24 with ⟨hb31, h24⟩ | ⟨hb31, h24⟩
      ·refine xt (cj6 E3 E4 E7 E8 E69 hb31) ?_
       refine w_sa (fun e s => Bx σ s i4 43 [(.v (.int .i64 (0 : Int))), (.v (.int .i64 (0 : Int)))] ∧ e 4 = (.pt i4 0) ∧ e 5 = (.v (.int .i64 (5 : Int))) ∧ Pre σ s) ?_ fun e s hI => ?_
       ·refine w_x (cj10 E3 E4 E7 E8 E69 X3.get X4.get (X3.ne (Ne.symm N3__4) (some (AObj.box 43 [(.v (.int .i64 (0 : Int))), (.v (.int .i64 (0 : Int)))]))).get (X4.same 43 [(.v (.int .i64 (0 : Int))), (.v (.int .i64 (0 : Int)))]).get TT) (k := ?_)
        have q29 := X4.same 43 [(.v (.int .i64 (0 : Int))), (.v (.int .i64 (0 : Int)))]
        have q30 := X3.ne (Ne.symm N3__4) (some (AObj.box 43 [(.v (.int .i64 (0 : Int))), (.v (.int .i64 (0 : Int)))]))
        have q31 := cj10 E3 E4 E7 E8 E69 X3.get X4.get q30.get q29.get TT
        exact cw_n ⟨_, WkE.refl _, q29, (xv q31), (xv q31), (hP.set X4.le (some (AObj.box 43 [(.v (.int .i64 (0 : Int))), (.v (.int .i64 (0 : Int)))])))⟩
       obtain ⟨X4, E4, E5, hP⟩ := hI
       refine w_ret ?_
       refine w_sqr ?_
       obtain rfl := some_inj h24
       refine ct_r ?_
       try dsimp only at h19
       refine w_bkr ?_
       obtain rfl := some_inj h19
       refine cw_r ?_
       try dsimp only at h
       obtain rfl := some_inj h
       exact w_fin (fun _ => rfl) (xr (rs := #[.cell 4 43, .tmp 5]) (cj4 X4.get E4 E5 TT)) hP (r' := (.tu [(.ag [(.v (.int .i64 (0 : Int))), (.v (.int .i64 (0 : Int)))]), (.v (.int .i64 (5 : Int)))])) (.refl _) (.tu (CnL.cons (.ag (CnL.cons (.v _) (CnL.cons (.v _) CnL.nil))) (CnL.cons (.v _) CnL.nil))) hK
      ·refine xf (cj6 E3 E4 E7 E8 E69 hb31) ?_
       refine w_skip ?_
       refine w_sq ?_
       obtain ⟨y32, h33, h24⟩ := bnd_some h24
       refine w_x (cj10 E3 E4 E7 E8 E69 X3.get X4.get (eq_false (quoO_some h33).1) (quoO_some h33).2 TT) (k := ?_)
       obtain rfl := some_inj h24
       have q32 := cj10 E3 E4 E7 E8 E69 X3.get X4.get (eq_false (quoO_some h33).1) (quoO_some h33).2 TT
       exact ct_n ⟨_, _, _, rfl, X4, (xv q32), (xv q32), (xv q32), hP⟩
     ·refine xf (cj7 E3 E4 E7 E8 E62 E63 hb28) ?_
      refine w_sa (fun e s => Bx σ s i3 119 (ref02_Apply_A0 a1) ∧ Bx σ s i4 43 [(.v (.int .i64 (0 : Int))), (.v (.int .i64 (0 : Int)))] ∧ e 3 = (.pt i3 0) ∧ e 4 = (.pt i4 0) ∧ e 7 = (.v (.int .i64 a0.period)) ∧ e 8 = (.v (.int .i64 a0.phase)) ∧ e 62 = (.v (.int .i64 a1.kind)) ∧ e 75 = (.v (.bool (decide (a1.kind = (4 : Int))))) ∧ i3 ≠ i4 ∧ Pre σ s) ?_ fun e s hI => ?_
      ·refine w_x (cj9 E3 E4 E7 E8 E62 E63 X3.get X4.get TT) (k := ?_)
       have q33 := cj9 E3 E4 E7 E8 E62 E63 X3.get X4.get TT
       exact cw_n ⟨_, WkE.refl _, X3, X4, (xv q33), (xv q33), (xv q33), (xv q33), (xv q33), (xv q33), N3__4, hP⟩
      obtain ⟨X3, X4, E3, E4, E7, E8, E62, E75, N3__4, hP⟩ := hI
      obtain ⟨x34, h35, h24⟩ := bnd_some h24
      refine w_an (fun e s => ∃ v7_36 : Int, ∃ v8_37 : Int, ∃ v4_38 : Clock, .inr (v7_36, v8_37, v4_38) = x34 ∧ Bx σ s i4 43 [(.v (.int .i64 v4_38.period)), (.v (.int .i64 v4_38.phase))] ∧ e 4 = (.pt i4 0) ∧ e 7 = (.v (.int .i64 v7_36)) ∧ e 8 = (.v (.int .i64 v8_37)) ∧ Pre σ s) ?_ fun e s hI => ?_
      ·rcases ite_some h35 with ⟨hb39, h35⟩ | ⟨hb39, h35⟩
       ·refine xt (cj7 E3 E4 E7 E8 E62 E75 hb39) ?_
        refine w_x (cj9 E3 E4 E7 E8 E62 E75 X3.get X4.get TT) (k := ?_)
        obtain rfl := some_inj h35
        have q34 := cj9 E3 E4 E7 E8 E62 E75 X3.get X4.get TT
        exact ct_n ⟨_, _, _, rfl, X4, (xv q34), (xv q34), (xv q34), hP⟩
       ·refine xf (cj7 E3 E4 E7 E8 E62 E75 hb39) ?_
        refine w_sa (fun e s => Bx σ s i3 119 (ref02_Apply_A0 a1) ∧ Bx σ s i4 43 [(.v (.int .i64 (0 : Int))), (.v (.int .i64 (0 : Int)))] ∧ e 3 = (.pt i3 0) ∧ e 4 = (.pt i4 0) ∧ e 7 = (.v (.int .i64 a0.period)) ∧ e 8 = (.v (.int .i64 a0.phase)) ∧ e 62 = (.v (.int .i64 a1.kind)) ∧ e 81 = (.v (.bool (decide (a1.kind = (5 : Int))))) ∧ i3 ≠ i4 ∧ Pre σ s) ?_ fun e s hI => ?_
        ·refine w_x (cj9 E3 E4 E7 E8 E62 E75 X3.get X4.get TT) (k := ?_)
         have q35 := cj9 E3 E4 E7 E8 E62 E75 X3.get X4.get TT
         exact cw_n ⟨_, WkE.refl _, X3, X4, (xv q35), (xv q35), (xv q35), (xv q35), (xv q35), (xv q35), N3__4, hP⟩
        obtain ⟨X3, X4, E3, E4, E7, E8, E62, E81, N3__4, hP⟩ := hI
        obtain ⟨x40, h41, h35⟩ := bnd_some h35
        refine w_an (fun e s => ∃ v8_42 : Int, ∃ v4_43 : Clock, .inr (v8_42, v4_43) = x40 ∧ Bx σ s i4 43 [(.v (.int .i64 v4_43.period)), (.v (.int .i64 v4_43.phase))] ∧ e 4 = (.pt i4 0) ∧ e 7 = (.v (.int .i64 a0.period)) ∧ e 8 = (.v (.int .i64 v8_42)) ∧ Pre σ s) ?_ fun e s hI => ?_
        ·rcases ite_some h41 with ⟨hb44, h41⟩ | ⟨hb44, h41⟩
         ·refine xt (cj7 E3 E4 E7 E8 E62 E81 hb44) ?_
          refine w_assoc ?_
          obtain ⟨y45, h46, h41⟩ := bnd_some h41
          refine w_sa (fun e s => Bx σ s i3 119 (ref02_Apply_A0 a1) ∧ Bx σ s i4 43 [(.v (.int .i64 (0 : Int))), (.v (.int .i64 (0 : Int)))] ∧ e 3 = (.pt i3 0) ∧ e 4 = (.pt i4 0) ∧ e 7 = (.v (.int .i64 a0.period)) ∧ e 8 = (.v (.int .i64 a0.phase)) ∧ e 90 = (.v (.bool (!decide (y45 = (0 : Int))))) ∧ i3 ≠ i4 ∧ Pre σ s) ?_ fun e s hI => ?_
          ·refine w_x (cj11 E3 E4 E7 E8 E62 E81 X3.get X4.get (eq_false (remO_some h46).1) (remO_some h46).2 TT) (k := ?_)
           have q36 := cj11 E3 E4 E7 E8 E62 E81 X3.get X4.get (eq_false (remO_some h46).1) (remO_some h46).2 TT
           exact cw_n ⟨_, WkE.refl _, X3, X4, (xv q36), (xv q36), (xv q36), (xv q36), (xv q36), N3__4, hP⟩
          obtain ⟨X3, X4, E3, E4, E7, E8, E90, N3__4, hP⟩ := hI
          refine w_seq ?_
          rcases ite_some h41 with ⟨hb47, h41⟩ | ⟨hb47, h41⟩
          ·refine xt (cj6 E3 E4 E7 E8 E90 hb47) ?_
           refine w_sa (fun e s => Bx σ s i4 43 [(.v (.int .i64 (0 : Int))), (.v (.int .i64 (0 : Int)))] ∧ e 4 = (.pt i4 0) ∧ e 5 = (.v (.int .i64 (5 : Int))) ∧ Pre σ s) ?_ fun e s hI => ?_
           ·refine w_x (cj10 E3 E4 E7 E8 E90 X3.get X4.get (X3.ne (Ne.symm N3__4) (some (AObj.box 43 [(.v (.int .i64 (0 : Int))), (.v (.int .i64 (0 : Int)))]))).get (X4.same 43 [(.v (.int .i64 (0 : Int))), (.v (.int .i64 (0 : Int)))]).get TT) (k := ?_)
            have q37 := X4.same 43 [(.v (.int .i64 (0 : Int))), (.v (.int .i64 (0 : Int)))]
            have q38 := X3.ne (Ne.symm N3__4) (some (AObj.box 43 [(.v (.int .i64 (0 : Int))), (.v (.int .i64 (0 : Int)))]))
            have q39 := cj10 E3 E4 E7 E8 E90 X3.get X4.get q38.get q37.get TT
            exact cw_n ⟨_, WkE.refl _, q37, (xv q39), (xv q39), (hP.set X4.le (some (AObj.box 43 [(.v (.int .i64 (0 : Int))), (.v (.int .i64 (0 : Int)))])))⟩
           obtain ⟨X4, E4, E5, hP⟩ := hI
           refine w_ret ?_
           refine w_sqr ?_
           obtain rfl := some_inj h41
           refine ct_r ?_
           try dsimp only at h35
           obtain rfl := some_inj h35
           refine ct_r ?_
           try dsimp only at h24
           obtain rfl := some_inj h24
           refine ct_r ?_
           try dsimp only at h19
           refine w_bkr ?_
           obtain rfl := some_inj h19
           refine cw_r ?_
           try dsimp only at h
           obtain rfl := some_inj h
           exact w_fin (fun _ => rfl) (xr (rs := #[.cell 4 43, .tmp 5]) (cj4 X4.get E4 E5 TT)) hP (r' := (.tu [(.ag [(.v (.int .i64 (0 : Int))), (.v (.int .i64 (0 : Int)))]), (.v (.int .i64 (5 : Int)))])) (.refl _) (.tu (CnL.cons (.ag (CnL.cons (.v _) (CnL.cons (.v _) CnL.nil))) (CnL.cons (.v _) CnL.nil))) hK
          ·refine xf (cj6 E3 E4 E7 E8 E90 hb47) ?_
           refine w_skip ?_
           refine w_sq ?_
           obtain ⟨y48, h49, h41⟩ := bnd_some h41
           refine w_x (cj10 E3 E4 E7 E8 E90 X3.get X4.get (eq_false (quoO_some h49).1) (quoO_some h49).2 TT) (k := ?_)
           obtain rfl := some_inj h41
           have q40 := cj10 E3 E4 E7 E8 E90 X3.get X4.get (eq_false (quoO_some h49).1) (quoO_some h49).2 TT
           exact ct_n ⟨_, _, rfl, X4, (xv q40), (xv q40), (xv q40), hP⟩
         ·refine xf (cj7 E3 E4 E7 E8 E62 E81 hb44) ?_
          refine w_sa (fun e s => Bx σ s i4 43 [(.v (.int .i64 (0 : Int))), (.v (.int .i64 (0 : Int)))] ∧ e 4 = (.pt i4 0) ∧ e 7 = (.v (.int .i64 a0.period)) ∧ e 8 = (.v (.int .i64 a0.phase)) ∧ e 62 = (.v (.int .i64 a1.kind)) ∧ e 101 = (.v (.bool (decide (a1.kind = (7 : Int))))) ∧ Pre σ s) ?_ fun e s hI => ?_
          ·refine w_x (cj9 E3 E4 E7 E8 E62 E81 X3.get X4.get TT) (k := ?_)
           have q41 := cj9 E3 E4 E7 E8 E62 E81 X3.get X4.get TT
           exact cw_n ⟨_, WkE.refl _, X4, (xv q41), (xv q41), (xv q41), (xv q41), (xv q41), hP⟩
          obtain ⟨X4, E4, E7, E8, E62, E101, hP⟩ := hI
          obtain ⟨x50, h51, h41⟩ := bnd_some h41
          refine w_an (fun e s => ∃ v8_52 : Int, ∃ v4_53 : Clock, .inr (v8_52, v4_53) = x50 ∧ Bx σ s i4 43 [(.v (.int .i64 v4_53.period)), (.v (.int .i64 v4_53.phase))] ∧ e 4 = (.pt i4 0) ∧ e 7 = (.v (.int .i64 a0.period)) ∧ e 8 = (.v (.int .i64 v8_52)) ∧ Pre σ s) ?_ fun e s hI => ?_
          ·rcases ite_some h51 with ⟨hb54, h51⟩ | ⟨hb54, h51⟩
           ·refine xt (cj6 E4 E7 E8 E62 E101 hb54) ?_
            refine w_x (cj7 E4 E7 E8 E62 E101 X4.get TT) (k := ?_)
            obtain rfl := some_inj h51
            have q42 := cj7 E4 E7 E8 E62 E101 X4.get TT
            exact ct_n ⟨_, _, rfl, X4, (xv q42), (xv q42), (xv q42), hP⟩
           ·refine xf (cj6 E4 E7 E8 E62 E101 hb54) ?_
            refine w_sa (fun e s => Bx σ s i4 43 [(.v (.int .i64 (0 : Int))), (.v (.int .i64 (0 : Int)))] ∧ e 4 = (.pt i4 0) ∧ e 7 = (.v (.int .i64 a0.period)) ∧ e 8 = (.v (.int .i64 a0.phase)) ∧ e 106 = (.v (.bool (decide (a1.kind = (8 : Int))))) ∧ Pre σ s) ?_ fun e s hI => ?_
            ·refine w_x (cj7 E4 E7 E8 E62 E101 X4.get TT) (k := ?_)
             have q43 := cj7 E4 E7 E8 E62 E101 X4.get TT
             exact cw_n ⟨_, WkE.refl _, X4, (xv q43), (xv q43), (xv q43), (xv q43), hP⟩
            obtain ⟨X4, E4, E7, E8, E106, hP⟩ := hI
            obtain ⟨x55, h56, h51⟩ := bnd_some h51
            refine w_an (fun e s => ∃ v8_57 : Int, ∃ v4_58 : Clock, .inr (v8_57, v4_58) = x55 ∧ Bx σ s i4 43 [(.v (.int .i64 v4_58.period)), (.v (.int .i64 v4_58.phase))] ∧ e 4 = (.pt i4 0) ∧ e 7 = (.v (.int .i64 a0.period)) ∧ e 8 = (.v (.int .i64 v8_57)) ∧ Pre σ s) ?_ fun e s hI => ?_
            ·rcases ite_some h56 with ⟨hb59, h56⟩ | ⟨hb59, h56⟩
             ·refine xt (cj5 E4 E7 E8 E106 hb59) ?_
              refine w_assoc ?_
              refine w_sa (fun e s => Bx σ s i4 43 [(.v (.int .i64 (0 : Int))), (.v (.int .i64 (0 : Int)))] ∧ e 4 = (.pt i4 0) ∧ e 7 = (.v (.int .i64 a0.period)) ∧ e 8 = (.v (.int .i64 a0.phase)) ∧ e 110 = (.v (.bool (decide (a0.phase < a0.period)))) ∧ Pre σ s) ?_ fun e s hI => ?_
              ·refine w_x (cj6 E4 E7 E8 E106 X4.get TT) (k := ?_)
               have q44 := cj6 E4 E7 E8 E106 X4.get TT
               exact cw_n ⟨_, WkE.refl _, X4, (xv q44), (xv q44), (xv q44), (xv q44), hP⟩
              obtain ⟨X4, E4, E7, E8, E110, hP⟩ := hI
              refine w_seq ?_
              rcases ite_some h56 with ⟨hb60, h56⟩ | ⟨hb60, h56⟩
              ·refine xt (cj5 E4 E7 E8 E110 hb60) ?_
               refine w_sa (fun e s => Bx σ s i4 43 [(.v (.int .i64 (0 : Int))), (.v (.int .i64 (0 : Int)))] ∧ e 4 = (.pt i4 0) ∧ e 5 = (.v (.int .i64 (5 : Int))) ∧ Pre σ s) ?_ fun e s hI => ?_
               ·refine w_x (cj7 E4 E7 E8 E110 X4.get (X4.same 43 [(.v (.int .i64 (0 : Int))), (.v (.int .i64 (0 : Int)))]).get TT) (k := ?_)
                have q45 := X4.same 43 [(.v (.int .i64 (0 : Int))), (.v (.int .i64 (0 : Int)))]
                have q46 := cj7 E4 E7 E8 E110 X4.get q45.get TT
                exact cw_n ⟨_, WkE.refl _, q45, (xv q46), (xv q46), (hP.set X4.le (some (AObj.box 43 [(.v (.int .i64 (0 : Int))), (.v (.int .i64 (0 : Int)))])))⟩
               obtain ⟨X4, E4, E5, hP⟩ := hI
               refine w_ret ?_
               refine w_sqr ?_
               obtain rfl := some_inj h56
               refine ct_r ?_
               try dsimp only at h51
               obtain rfl := some_inj h51
               refine ct_r ?_
               try dsimp only at h41
               obtain rfl := some_inj h41
               refine ct_r ?_
               try dsimp only at h35
               obtain rfl := some_inj h35
               refine ct_r ?_
               try dsimp only at h24
               obtain rfl := some_inj h24
               refine ct_r ?_
               try dsimp only at h19
               refine w_bkr ?_
               obtain rfl := some_inj h19
               refine cw_r ?_
               try dsimp only at h
               obtain rfl := some_inj h
               exact w_fin (fun _ => rfl) (xr (rs := #[.cell 4 43, .tmp 5]) (cj4 X4.get E4 E5 TT)) hP (r' := (.tu [(.ag [(.v (.int .i64 (0 : Int))), (.v (.int .i64 (0 : Int)))]), (.v (.int .i64 (5 : Int)))])) (.refl _) (.tu (CnL.cons (.ag (CnL.cons (.v _) (CnL.cons (.v _) CnL.nil))) (CnL.cons (.v _) CnL.nil))) hK
              ·refine xf (cj5 E4 E7 E8 E110 hb60) ?_
               refine w_skip ?_
               refine w_sq ?_
               refine w_x (cj6 E4 E7 E8 E110 X4.get TT) (k := ?_)
               obtain rfl := some_inj h56
               have q47 := cj6 E4 E7 E8 E110 X4.get TT
               exact ct_n ⟨_, _, rfl, X4, (xv q47), (xv q47), (xv q47), hP⟩
             ·refine xf (cj5 E4 E7 E8 E106 hb59) ?_
              refine w_skip ?_
              obtain rfl := some_inj h56
              have q48 := cj4 E4 E7 E8 E106
              exact ct_n ⟨_, _, rfl, X4, (xv q48), (xv q48), (xv q48), hP⟩
            obtain ⟨v8_57, v4_58, rfl, X4, E4, E7, E8, hP⟩ := hI
            try dsimp only at h51
            obtain rfl := some_inj h51
            exact ct_n ⟨_, _, rfl, X4, (xv (cj3 E4 E7 E8)), (xv (cj3 E4 E7 E8)), (xv (cj3 E4 E7 E8)), hP⟩
          obtain ⟨v8_52, v4_53, rfl, X4, E4, E7, E8, hP⟩ := hI
          try dsimp only at h41
          obtain rfl := some_inj h41
          exact ct_n ⟨_, _, rfl, X4, (xv (cj3 E4 E7 E8)), (xv (cj3 E4 E7 E8)), (xv (cj3 E4 E7 E8)), hP⟩
        obtain ⟨v8_42, v4_43, rfl, X4, E4, E7, E8, hP⟩ := hI
        try dsimp only at h35
        obtain rfl := some_inj h35
        exact ct_n ⟨_, _, _, rfl, X4, (xv (cj3 E4 E7 E8)), (xv (cj3 E4 E7 E8)), (xv (cj3 E4 E7 E8)), hP⟩
      obtain ⟨v7_36, v8_37, v4_38, rfl, X4, E4, E7, E8, hP⟩ := hI
      try dsimp only at h24
      obtain rfl := some_inj h24
      exact ct_n ⟨_, _, _, rfl, X4, (xv (cj3 E4 E7 E8)), (xv (cj3 E4 E7 E8)), (xv (cj3 E4 E7 E8)), hP⟩
    obtain ⟨v7_25, v8_26, v4_27, rfl, X4, E4, E7, E8, hP⟩ := hI
    try dsimp only at h19
    refine w_bk ?_
    obtain rfl := some_inj h19
    exact cw_n ⟨_, WkE.refl _, _, _, _, rfl, X4, (xv (cj3 E4 E7 E8)), (xv (cj3 E4 E7 E8)), (xv (cj3 E4 E7 E8)), hP⟩
   obtain ⟨v7_20, v8_21, v4_22, rfl, X4, E4, E7, E8, hP⟩ := hI
   try dsimp only at h
   refine w_sa (fun e s => ∃ i9 : Nat, Bx σ s i4 43 [(.v (.int .i64 v4_22.period)), (.v (.int .i64 v4_22.phase))] ∧ Bx σ s i9 43 [(.v (.int .i64 v7_20)), (.v (.int .i64 v8_21))] ∧ e 4 = (.pt i4 0) ∧ e 9 = (.pt i9 0) ∧ i4 ≠ i9 ∧ Pre σ s) ?_ fun e s hI => ?_
   ·refine w_x (cj7 E4 E7 E8 X4.get X4.any X4.any2 TT) (k := ?_)
    have q49 := cj7 E4 E7 E8 X4.get X4.any X4.any2 TT
    exact cw_n ⟨_, WkE.refl _, s.length, (X4.app [some (AObj.box 43 [(.v (.int .i64 v7_20)), (.v (.int .i64 v8_21))])]), (Bx.new hP 43 [(.v (.int .i64 v7_20)), (.v (.int .i64 v8_21))]), (xv q49), (xv q49), (Nat.ne_of_lt X4.lt), (hP.app _)⟩
   obtain ⟨i9, X4, X9, E4, E9, N4__9, hP⟩ := hI
   refine w_assoc ?_
   obtain ⟨y61, h62, h⟩ := bnd_some h
   refine w_sa (fun e s => Bx σ s i4 43 [(.v (.int .i64 v4_22.period)), (.v (.int .i64 v4_22.phase))] ∧ Bx σ s i9 43 [(.v (.int .i64 v7_20)), (.v (.int .i64 v8_21))] ∧ e 4 = (.pt i4 0) ∧ e 9 = (.pt i9 0) ∧ e 120 = (.v (.bool (!y61))) ∧ i4 ≠ i9 ∧ Pre σ s) ?_ fun e s hI => ?_
   ·refine w_x (cj5 E4 E9 X4.get X9.get TT) (k := ?_)
    refine EC.wka (.cons (.refl _) .nil) (S_ref02_Right _ _ h62 _ _  ?_)
    refine w_y (cj5 E4 E9 X4.get X9.get TT) (k := ?_)
    have q50 := cj5 E4 E9 X4.get X9.get TT
    exact cw_n ⟨_, WkE.refl _, X4, X9, (xv q50), (xv q50), (xv q50), N4__9, hP⟩
   obtain ⟨X4, X9, E4, E9, E120, N4__9, hP⟩ := hI
   refine w_seq ?_
   rcases ite_some h with ⟨hb63, h⟩ | ⟨hb63, h⟩
   ·refine xt (cj4 E4 E9 E120 hb63) ?_
    refine w_sa (fun e s => Bx σ s i4 43 [(.v (.int .i64 (0 : Int))), (.v (.int .i64 (0 : Int)))] ∧ e 4 = (.pt i4 0) ∧ e 5 = (.v (.int .i64 (7 : Int))) ∧ Pre σ s) ?_ fun e s hI => ?_
    ·refine w_x (cj8 E4 E9 E120 X4.get X9.get (X4.same 43 [(.v (.int .i64 (0 : Int))), (.v (.int .i64 (0 : Int)))]).get (X9.ne N4__9 (some (AObj.box 43 [(.v (.int .i64 (0 : Int))), (.v (.int .i64 (0 : Int)))]))).get TT) (k := ?_)
     have q51 := X4.same 43 [(.v (.int .i64 (0 : Int))), (.v (.int .i64 (0 : Int)))]
     have q52 := X9.ne N4__9 (some (AObj.box 43 [(.v (.int .i64 (0 : Int))), (.v (.int .i64 (0 : Int)))]))
     have q53 := cj8 E4 E9 E120 X4.get X9.get q51.get q52.get TT
     exact cw_n ⟨_, WkE.refl _, q51, (xv q53), (xv q53), (hP.set X4.le (some (AObj.box 43 [(.v (.int .i64 (0 : Int))), (.v (.int .i64 (0 : Int)))])))⟩
    obtain ⟨X4, E4, E5, hP⟩ := hI
    refine w_ret ?_
    refine w_sqr ?_
    obtain rfl := some_inj h
    exact w_fin (fun _ => rfl) (xr (rs := #[.cell 4 43, .tmp 5]) (cj4 X4.get E4 E5 TT)) hP (r' := (.tu [(.ag [(.v (.int .i64 (0 : Int))), (.v (.int .i64 (0 : Int)))]), (.v (.int .i64 (7 : Int)))])) (.refl _) (.tu (CnL.cons (.ag (CnL.cons (.v _) (CnL.cons (.v _) CnL.nil))) (CnL.cons (.v _) CnL.nil))) hK
   ·refine xf (cj4 E4 E9 E120 hb63) ?_
    refine w_skip ?_
    refine w_sq ?_
    refine w_sa (fun e s => Bx σ s i4 43 [(.v (.int .i64 v7_20)), (.v (.int .i64 v8_21))] ∧ e 4 = (.pt i4 0) ∧ e 5 = (.v (.int .i64 (0 : Int))) ∧ Pre σ s) ?_ fun e s hI => ?_
    ·refine w_x (cj8 E4 E9 E120 X4.get X9.get (X4.same 43 [(.v (.int .i64 v7_20)), (.v (.int .i64 v8_21))]).get (X9.ne N4__9 (some (AObj.box 43 [(.v (.int .i64 v7_20)), (.v (.int .i64 v8_21))]))).get TT) (k := ?_)
     have q54 := X4.same 43 [(.v (.int .i64 v7_20)), (.v (.int .i64 v8_21))]
     have q55 := X9.ne N4__9 (some (AObj.box 43 [(.v (.int .i64 v7_20)), (.v (.int .i64 v8_21))]))
     have q56 := cj8 E4 E9 E120 X4.get X9.get q54.get q55.get TT
     exact cw_n ⟨_, WkE.refl _, q54, (xv q56), (xv q56), (hP.set X4.le (some (AObj.box 43 [(.v (.int .i64 v7_20)), (.v (.int .i64 v8_21))])))⟩
    obtain ⟨X4, E4, E5, hP⟩ := hI
    refine w_ret ?_
    obtain rfl := some_inj h
    exact w_fin (fun _ => rfl) (xr (rs := #[.cell 4 43, .tmp 5]) (cj4 X4.get E4 E5 TT)) hP (r' := (.tu [(.ag [(.v (.int .i64 v7_20)), (.v (.int .i64 v8_21))]), (.v (.int .i64 (0 : Int)))])) (.refl _) (.tu (CnL.cons (.ag (CnL.cons (.v _) (CnL.cons (.v _) CnL.nil))) (CnL.cons (.v _) CnL.nil))) hK
noncomputable def B_ref02_Right (a0 : Clock) : Option Bool :=
 some ((((decide ((0 : Int) < a0.period)) && (decide (a0.period ≤ (2000 : Int)))) && (decide ((0 : Int) ≤ a0.phase))) && (decide (a0.phase ≤ (2000 : Int))))
abbrev ref02_Right_A0 (a0 : Clock) : List PV := [(.v (.int .i64 a0.period)), (.v (.int .i64 a0.phase))]
theorem W_ref02_Right : Sat_ref02_Right (B_ref02_Right) := by
 intro a0 r h σ K hK
 refine w_fp Try.func61 rfl rfl (by kernel_rfl) ?_
 unfold B_ref02_Right at h
 have hP := Pre.refl σ
 have E0 : argE [(.ag (ref02_Right_A0 a0))] 0 = (.ag (ref02_Right_A0 a0)) := rfl
 have TT := cj3 Expr.rlen T_2 T_43
 refine w_sa (fun e s => ∃ i1 : Nat, Bx σ s i1 43 (ref02_Right_A0 a0) ∧ e 1 = (.pt i1 0) ∧ Pre σ s) ?_ fun e s hI => ?_
 ·refine w_x (cj2 E0 TT) (k := ?_)
  exact cw_n ⟨_, WkE.refl _, σ.length, (Bx.new hP 43 (ref02_Right_A0 a0)), (xv (cj2 E0 TT)), (hP.app _)⟩
 obtain ⟨i1, X1, E1, hP⟩ := hI
 refine w_sa (fun e s => e 2 = (.v (.bool ((((decide ((0 : Int) < a0.period)) && (decide (a0.period ≤ (2000 : Int)))) && (decide ((0 : Int) ≤ a0.phase))) && (decide (a0.phase ≤ (2000 : Int)))))) ∧ Pre σ s) ?_ fun e s hI => ?_
 ·cases hb1 : (decide ((0 : Int) < a0.period))
  ·refine w_x (cj4 E1 X1.get hb1 TT) (k := ?_)
   exact cw_n ⟨_, WkE.refl _, (xv (cj4 E1 X1.get hb1 TT)), hP⟩
  ·cases hb2 : (decide (a0.period ≤ (2000 : Int)))
   ·refine w_x (cj5 E1 X1.get hb1 hb2 TT) (k := ?_)
    exact cw_n ⟨_, WkE.refl _, (xv (cj5 E1 X1.get hb1 hb2 TT)), hP⟩
   ·cases hb3 : (decide ((0 : Int) ≤ a0.phase))
    ·refine w_x (cj6 E1 X1.get hb1 hb2 hb3 TT) (k := ?_)
     exact cw_n ⟨_, WkE.refl _, (xv (cj6 E1 X1.get hb1 hb2 hb3 TT)), hP⟩
    ·refine w_x (cj6 E1 X1.get hb1 hb2 hb3 TT) (k := ?_)
     exact cw_n ⟨_, WkE.refl _, (xv (cj6 E1 X1.get hb1 hb2 hb3 TT)), hP⟩
 obtain ⟨E2, hP⟩ := hI
 refine w_ret ?_
 obtain rfl := some_inj h
 exact w_fin (fun _ => rfl) (xr (rs := #[.tmp 2]) E2) hP (r' := (.v (.bool ((((decide ((0 : Int) < a0.period)) && (decide (a0.period ≤ (2000 : Int)))) && (decide ((0 : Int) ≤ a0.phase))) && (decide (a0.phase ≤ (2000 : Int))))))) (.refl _) (.v _) hK
end Go.Proofs.Ytohmmfimedgccaa.E
end
section
namespace Go.Proofs.Ytohmmfimedgccaa.E
set_option linter.unusedVariables false
set_option linter.unusedSimpArgs false
set_option maxRecDepth 10000
noncomputable def m_rright := B_ref02_Right
theorem s_rright : Sat_ref02_Right m_rright := W_ref02_Right
noncomputable def m_rapply := B_ref02_Apply m_rright
theorem s_rapply : Sat_ref02_Apply m_rapply := W_ref02_Apply _ s_rright
theorem rr_eq (c : Clock) : ∃ b, m_cright c = some b ∧ m_rright c = some b := by
 refine ⟨_, rfl, ?_⟩
 unfold m_rright B_ref02_Right
 first | rfl | (congr 1; simp only [Bool.and_assoc, Bool.and_comm, Bool.and_left_comm])
def opFit (o : Op) : Prop := ((o.kind = 3 ∨ o.kind = 4) ∧ 1 ≤ o.n ∧ o.n ≤ 100) ∨ (o.kind = 5 ∧ 0 ≤ o.n ∧ o.n ≤ 100 ∧ 1 ≤ o.d ∧ o.d ≤ 100) ∨ o.kind = 6 ∨ o.kind = 7 ∨ o.kind = 8
theorem v_factor {o : Op} (h : opFit o) : m_factor o = some 0 := by
 unfold m_factor B_clock_factor
 rcases h with ⟨k | k, h1, h2⟩ | ⟨k, h1, h2, h3, h4⟩ | k | k | k
 ·have : ¬ o.n < 1 := by omega
  have : ¬ 100 < o.n := by omega
  simp [k, *]
 ·have : ¬ o.n < 1 := by omega
  have : ¬ 100 < o.n := by omega
  simp [k, *]
 ·have : ¬ o.n < 0 := by omega
  have : ¬ 100 < o.n := by omega
  have : ¬ o.d < 1 := by omega
  have : ¬ 100 < o.d := by omega
  simp [k, *]
 ·simp [k]
 ·simp [k]
 ·simp [k]
theorem apply_eq (c : Clock) {o : Op} (h : opFit o) : ∃ c' e c'' e', m_apply c o = some (c', e) ∧ m_rapply c o = some (c'', e') ∧ (e = 0 ↔ e' = 0) ∧ (e = 0 → c'' = c') := by
 obtain ⟨b, hb1, hb2⟩ := rr_eq c
 unfold m_apply B_clock_Apply m_rapply B_ref02_Apply
 rw [v_factor h]
 simp only [Option.bind_some, hb1, hb2]
 cases b with
 | false => exact ⟨_, _, _, _, rfl, rfl, by simp, by simp⟩
 | true =>
  have hr : ∀ d, ∃ b, m_cright d = some b ∧ m_rright d = some b := rr_eq
  rcases h with ⟨k | k, h1, h2⟩ | ⟨k, h1, h2, h3, h4⟩ | k | k | k
  ·have a1 : ¬ o.n < 1 := by omega
   have a2 : ¬ 100 < o.n := by omega
   have a3 : ¬ o.n = 0 := by omega
   simp only [k, a1, a2, a3, remO, quoO, decide_true, decide_false, if_true, if_false, Bool.not_true, Bool.not_false, Bool.false_eq_true, Option.bind_some, Int.reduceLT, Int.reduceEq, Bool.or_self, Bool.or_false, Bool.false_or, Bool.and_false, Bool.and_true, Bool.true_and, Bool.false_and]
   obtain ⟨b, e1, e2⟩ := hr ⟨IntKind.i64.wrap (c.period.tdiv o.n), c.phase⟩
   by_cases hm : c.period.tmod o.n = 0
   ·simp only [hm, decide_true, Bool.not_true, Bool.false_eq_true, if_false, Option.bind_some, e1, e2]
    cases b <;> exact ⟨_, _, _, _, rfl, rfl, by simp, by simp⟩
   ·simp only [decide_eq_false hm, Bool.not_false, if_true, Option.bind_some]
    exact ⟨_, _, _, _, rfl, rfl, by simp, by simp⟩
  ·have a1 : ¬ o.n < 1 := by omega
   have a2 : ¬ 100 < o.n := by omega
   simp only [k, a1, a2, decide_true, decide_false, if_true, if_false, Bool.not_true, Bool.not_false, Bool.false_eq_true, Option.bind_some, Int.reduceLT, Int.reduceEq, Bool.or_self, Bool.or_false, Bool.false_or, Bool.and_false, Bool.and_true, Bool.true_and, Bool.false_and]
   obtain ⟨b, e1, e2⟩ := hr ⟨IntKind.i64.wrap (c.period * o.n), c.phase⟩
   simp only [e1, e2, Option.bind_some]
   cases b <;> exact ⟨_, _, _, _, rfl, rfl, by simp, by simp⟩
  ·have a1 : ¬ o.n < 0 := by omega
   have a2 : ¬ 100 < o.n := by omega
   have a3 : ¬ o.d = 0 := by omega
   have a4 : ¬ o.d < 1 := by omega
   have a5 : ¬ 100 < o.d := by omega
   simp only [k, a1, a2, a3, a4, a5, remO, quoO, decide_true, decide_false, if_true, if_false, Bool.not_true, Bool.not_false, Bool.false_eq_true, Option.bind_some, Int.reduceLT, Int.reduceEq, Bool.or_self, Bool.or_false, Bool.false_or, Bool.and_false, Bool.and_true, Bool.true_and, Bool.false_and]
   obtain ⟨b, e1, e2⟩ := hr ⟨c.period, IntKind.i64.wrap (c.phase + IntKind.i64.wrap ((IntKind.i64.wrap (c.period * o.n)).tdiv o.d))⟩
   by_cases hm : (IntKind.i64.wrap (c.period * o.n)).tmod o.d = 0
   ·simp only [hm, decide_true, Bool.not_true, Bool.false_eq_true, if_false, Option.bind_some, e1, e2]
    cases b <;> exact ⟨_, _, _, _, rfl, rfl, by simp, by simp⟩
   ·simp only [decide_eq_false hm, Bool.not_false, if_true, Option.bind_some]
    exact ⟨_, _, _, _, rfl, rfl, by simp, by simp⟩
  ·simp only [k, decide_true, decide_false, if_true, if_false, Bool.not_true, Bool.not_false, Bool.false_eq_true, Option.bind_some, Int.reduceLT, Int.reduceEq, Bool.or_self, Bool.or_false, Bool.false_or, Bool.and_false, Bool.and_true, Bool.true_and, Bool.false_and]
   obtain ⟨b, e1, e2⟩ := hr c
   have e2' : m_rright ⟨c.period, c.phase⟩ = some b := e2
   simp only [e1, e2', Option.bind_some]
   cases b <;> exact ⟨_, _, _, _, rfl, rfl, by simp, by simp⟩
  ·simp only [k, decide_true, decide_false, if_true, if_false, Bool.not_true, Bool.not_false, Bool.false_eq_true, Option.bind_some, Int.reduceLT, Int.reduceEq, Bool.or_self, Bool.or_false, Bool.false_or, Bool.and_false, Bool.and_true, Bool.true_and, Bool.false_and]
   obtain ⟨b, e1, e2⟩ := hr ⟨c.period, IntKind.i64.wrap (c.phase + c.period)⟩
   simp only [e1, e2, Option.bind_some]
   cases b <;> exact ⟨_, _, _, _, rfl, rfl, by simp, by simp⟩
  ·simp only [k, decide_true, decide_false, if_true, if_false, Bool.not_true, Bool.not_false, Bool.false_eq_true, Option.bind_some, Int.reduceLT, Int.reduceEq, Bool.or_self, Bool.or_false, Bool.false_or, Bool.and_false, Bool.and_true, Bool.true_and, Bool.false_and]
   obtain ⟨b, e1, e2⟩ := hr ⟨c.period, IntKind.i64.wrap (c.phase - c.period)⟩
   by_cases hm : c.phase < c.period
   ·have hm' : ¬ c.period ≤ c.phase := by omega
    simp only [decide_eq_true hm, decide_eq_false hm', Bool.not_false, if_true, Option.bind_some]
    exact ⟨_, _, _, _, rfl, rfl, by simp, by simp⟩
   ·have hm' : c.period ≤ c.phase := by omega
    simp only [decide_eq_false hm, decide_eq_true hm', Bool.not_true, Bool.false_eq_true, if_false, Option.bind_some, e1, e2]
    cases b <;> exact ⟨_, _, _, _, rfl, rfl, by simp, by simp⟩
def pAh (x : Program × Expr × Int) (r : Bool) : Prop := Sp_law06_ahead x.1 x.2.1 x.2.2 r ∧ (r = true ↔ ∀ y ∈ subsE x.2.1, y.kind = 1 → ∀ q, m_rflow x.1 y.name = some q → q < x.2.2)
noncomputable def m_ahead (p : Program) (e : Expr) (a : Int) : Option Bool := pick pAh (p, e, a)
theorem s_ahead : Sat_law06_ahead m_ahead := fun _ _ _ _ h => (pick_spec h).1
theorem t_ahead {p : Program} (hl2 : p.inputs.length + p.flows.length ≤ 40) (a : Int) (e : Expr) : sizeE e ≤ 1000 → ∃ r, m_ahead p e a = some r ∧ pAh (p, e, a) r := by
 induction e using Expr.induct with
 | h e ih =>
  intro hs
  refine pick_ex ?_
  have hse := sizeE_eq e
  have hge := sizeL_ge e.args
  obtain ⟨rf, hf1, hf2⟩ := t_rflow hl2 e.name
  let P : Expr → Prop := fun x => x.kind = 1 → ∀ q, m_rflow p x.name = some q → q < a
  obtain ⟨r, h1, h2⟩ := iter_dec (n := e.args.length) (by unfold maxLen; omega) (f := law06_ahead_L0 p e a m_ahead) (fun i => ∀ x, e.args[i]? = some x → ∀ y ∈ subsE x, P y) (fun i hi => by
   unfold law06_ahead_L0
   have hmem := List.getElem_mem hi
   have hsm := sizeL_mem hmem
   obtain ⟨r, h5, _, h6⟩ := ih _ hmem (by omega)
   simp only [dlt hi, if_true, getI_at hi, Option.bind_some, h5, List.getElem?_eq_getElem hi, Option.some.injEq, forall_eq']
   cases r with
   | false => exact .inl ⟨rfl, fun h => by have := h6.2 h; cases this⟩
   | true => exact .inr ⟨rfl, h6.1 rfl⟩) (by
   unfold law06_ahead_L0
   simp only [dge, Bool.false_eq_true, if_false])
  have hall : (∀ i, i < e.args.length → ∀ x, e.args[i]? = some x → ∀ y ∈ subsE x, P y) ↔ ∀ y ∈ subsL e.args, P y := by
   rw [all_ix (P := fun x => ∀ y ∈ subsE x, P y)]
   constructor
   ·intro h y hy
    obtain ⟨x, hx, hxy⟩ := mem_subsL.1 hy
    exact h x hx y hxy
   ·intro h x hx y hy
    exact h y (mem_subsL.2 ⟨x, hx, hy⟩)
  rw [hall] at h2
  have hsub : (∀ y ∈ subsE e, P y) ↔ P e ∧ ∀ y ∈ subsL e.args, P y := by
   rw [subsE_eq]
   simp only [List.mem_cons, forall_eq_or_imp]
  have hB : ∃ r, B_law06_ahead m_ahead m_rflow p e a = some r ∧ (r = true ↔ ∀ y ∈ subsE e, P y) := by
   rw [hsub]
   unfold B_law06_ahead
   have rest : P e → ∃ r, ((iterO (law06_ahead_L0 p e a m_ahead) (0 : Int) : Option (Bool ⊕ Unit)).bind fun x => match x with
     | .inl r => some r
     | .inr _ => some true) = some r ∧ (r = true ↔ P e ∧ ∀ y ∈ subsL e.args, P y) := fun hok => by
    rw [h1]
    rcases h2 with ⟨rfl, h2⟩ | ⟨rfl, h2⟩
    ·exact ⟨false, rfl, ⟨fun h => (by cases h), fun h => absurd h.2 h2⟩⟩
    ·exact ⟨true, rfl, ⟨fun _ => ⟨hok, h2⟩, fun _ => rfl⟩⟩
   by_cases k1 : e.kind = 1
   ·simp only [k1, decide_true, if_true, hf1, Option.bind_some, Bool.true_and]
    by_cases hle : a ≤ rf
    ·simp only [decide_eq_true hle, if_true]
     exact ⟨false, rfl, fun h => (by cases h), fun h => absurd (h.1 k1 rf hf1) (by omega)⟩
    ·simp only [decide_eq_false hle, Bool.false_eq_true, if_false]
     exact rest fun _ q hq => by rw [hf1] at hq; cases hq; omega
   ·simp only [decide_eq_false k1, Bool.false_eq_true, if_false, Option.bind_some, Bool.false_and]
    exact rest fun k => absurd k k1
  obtain ⟨r, hr, hi⟩ := hB
  exact ⟨r, W_law06_ahead _ _ s_ahead s_rflow _ _ _ _ hr, hi⟩
noncomputable def envL (p : Program) (l : List Clock) (k : ByteArray) : Clock := match m_rflow p k with
 | some r => if r < (p.inputs.length : Int) then ((p.inputs[r.toNat]?).map fun x => (⟨x.period, x.phase⟩ : Clock)).getD ⟨0, 0⟩ else (l[(r - (p.inputs.length : Int)).toNat]?).getD ⟨0, 0⟩
 | none => ⟨0, 0⟩
def Looks (p : Program) (m : Nat) (e : Expr) : Prop := ∀ y ∈ subsE e, y.kind = 1 → ∃ r, m_rflow p y.name = some r ∧ 0 ≤ r ∧ r < ((p.inputs.length + m : Nat) : Int)
theorem Looks.arg {p : Program} {m : Nat} {e x : Expr} (h : Looks p m e) (hx : x ∈ e.args) : Looks p m x := fun y hy => h y (by rw [subsE_eq]; exact .tail _ (subsL_mem hx hy))
structure PostRC (p : Program) (l : List Clock) (e : Expr) (r : Clock × Bool) : Prop where
 sound : r.2 = true → RefC (envL p l) e r.1
 full : (∃ c, RefC (envL p l) e c) → r.2 = true
def pRC (x : Program × List Clock × Expr) (r : Clock × Bool) : Prop := Sp_ref06_Clock x.1 x.2.1 x.2.2 r ∧ PostRC x.1 x.2.1 x.2.2 r
noncomputable def m_rclock (p : Program) (l : List Clock) (e : Expr) : Option (Clock × Bool) := pick pRC (p, l, e)
theorem s_rclock : Sat_ref06_Clock m_rclock := fun _ _ _ _ h => (pick_spec h).1
theorem RefC.det {ρ : ByteArray → Clock} {e : Expr} {c d : Clock} (h : RefC ρ e c) (g : RefC ρ e d) : c = d := h.of.det g.of
theorem t_rclock {p : Program} {l : List Clock} (hl2 : p.inputs.length + p.flows.length ≤ 40) (hl : l.length ≤ 40) (e : Expr) : e.fit → Looks p l.length e → ∃ r, m_rclock p l e = some r ∧ PostRC p l e r := by
 induction e using Expr.induct with
 | h e ih =>
  intro hf hb
  suffices hB : ∃ r, B_ref06_Clock m_rclock m_rflow m_rapply p l e = some r ∧ PostRC p l e r by
   obtain ⟨r, hr, hi⟩ := hB
   obtain ⟨r', h1, h2, h3⟩ := pick_ex (P := pRC) (a := (p, l, e)) ⟨r, W_ref06_Clock _ _ _ s_rclock s_rflow s_rapply _ _ _ _ hr, hi⟩
   exact ⟨r', h1, h3⟩
  unfold B_ref06_Clock
  by_cases k1 : e.kind = 1
  ·obtain ⟨r, h1, h2, h3⟩ := hb e (by rw [subsE_eq]; exact .head _) k1
   simp only [k1, decide_true, if_true, h1, Option.bind_some]
   have hnm := RefC.nm (ρ := envL p l) k1
   by_cases hlt : r < (p.inputs.length : Int)
   ·have hr' : r.toNat < p.inputs.length := by omega
    have hget : getI p.inputs r = some p.inputs[r.toNat] := by
     unfold getI
     rw [if_pos h2]
     exact List.getElem?_eq_getElem hr'
    have he : envL p l e.name = ⟨p.inputs[r.toNat].period, p.inputs[r.toNat].phase⟩ := by
     unfold envL
     simp only [h1]
     rw [if_pos hlt, List.getElem?_eq_getElem hr']
     rfl
    simp only [decide_eq_true hlt, if_true, hget, Option.bind_some]
    exact ⟨_, rfl, fun _ => he ▸ hnm, fun _ => rfl⟩
   ·have hr' : (r - (p.inputs.length : Int)).toNat < l.length := by omega
    have hw : IntKind.i64.wrap (r - (p.inputs.length : Int)) = r - (p.inputs.length : Int) := wrap_i (by omega) (by omega)
    have hget : getI l (r - (p.inputs.length : Int)) = some l[(r - (p.inputs.length : Int)).toNat] := by
     unfold getI
     rw [if_pos (by omega)]
     exact List.getElem?_eq_getElem hr'
    have he : envL p l e.name = l[(r - (p.inputs.length : Int)).toNat] := by
     unfold envL
     simp only [h1]
     rw [if_neg hlt, List.getElem?_eq_getElem hr']
     rfl
    simp only [decide_eq_false hlt, Bool.false_eq_true, if_false, hw, hget, Option.bind_some]
    exact ⟨_, rfl, fun _ => he ▸ hnm, fun _ => rfl⟩
  ·have h0' : 0 < e.args.length := by
    rcases hf.kinds with ⟨k, _⟩ | ⟨_, k, _⟩ | ⟨k, _⟩ <;> omega
   have hlen : e.args.length ≤ 6 := by
    rcases hf.kinds with ⟨k, _⟩ | ⟨_, k, _⟩ | ⟨k, _⟩ <;> omega
   have hmem0 := List.getElem_mem h0'
   have hfst : e.args[0]? = some e.args[0] := by simp [h0']
   have hget : getI e.args (0 : Int) = some e.args[0] := getI_at (i := 0) h0'
   obtain ⟨⟨c, b⟩, h3, p1, p2⟩ := ih _ hmem0 (hf.arg _ hmem0) (hb.arg hmem0)
   simp only at p1 p2
   simp only [decide_eq_false k1, Bool.false_eq_true, if_false, hget, h3, Option.bind_some]
   by_cases k2 : e.kind = 2
   ·have hbig : (6 : Nat) ≤ maxLen := by unfold maxLen; decide
    obtain ⟨r, h1, h2⟩ := iter_idx (f := ref06_Clock_L0 (c, b) p l e m_rclock) (fun i v => v.2 = ((i + 1 : Nat) : Int) ∧ (v.1 = true ↔ ∀ j, j ≤ i → ∀ x, e.args[j]? = some x → RefC (envL p l) x c)) (e.args.length - 1)
     (fun r : Bool => r = true ↔ ∀ j, j < e.args.length → ∀ x, e.args[j]? = some x → RefC (envL p l) x c) (fun i v hi hv => by
      obtain ⟨ok, _⟩ := v
      obtain ⟨rfl, hok⟩ := hv
      simp only at hok
      unfold ref06_Clock_L0
      have hi1 : i + 1 < e.args.length := by omega
      have hmem := List.getElem_mem hi1
      have hat := List.getElem?_eq_getElem hi1
      cases ok with
      | false =>
       simp only [Bool.and_false, Bool.false_eq_true, if_false]
       exact .inr ⟨_, rfl, fun h => (by cases h), fun h => by have := hok.2 fun j hj => h j (by omega); cases this⟩
      | true =>
       obtain ⟨⟨d, b'⟩, h5, q1, q2⟩ := ih _ hmem (hf.arg _ hmem) (hb.arg hmem)
       simp only at q1 q2
       simp only [dlt hi1, Bool.and_true, if_true, getI_at hi1, h5, Option.bind_some]
       refine .inl ⟨_, rfl, winc hi1 (by omega), ?_⟩
       simp only [Bool.and_eq_true, decide_eq_true_eq]
       constructor
       ·rintro ⟨rfl, h6, h7⟩ j hj x hx
        by_cases hji : j ≤ i
        ·exact hok.1 rfl j hji x hx
        ·obtain rfl : j = i + 1 := by omega
         rw [hat] at hx
         cases hx
         have : d = c := by cases d; cases c; simp_all
         exact this ▸ q1 rfl
       ·intro h
        have hr := h (i + 1) (by omega) _ hat
        have hb' := q2 ⟨_, hr⟩
        have : d = c := (q1 hb').det hr
        subst this
        exact ⟨hb', rfl, rfl⟩) (fun v hv => by
      obtain ⟨ok, _⟩ := v
      obtain ⟨rfl, hok⟩ := hv
      simp only at hok
      unfold ref06_Clock_L0
      have : ¬ ((e.args.length - 1 + 1 : Nat) : Int) < (e.args.length : Int) := by omega
      simp only [decide_eq_false this, Bool.false_and, Bool.false_eq_true, if_false]
      refine ⟨_, rfl, hok.trans ⟨fun h j hj => h j (by omega), fun h j hj => h j (by omega)⟩⟩) (v0 := (b, (1 : Int))) ⟨rfl, fun hb j hj x hx => by
       obtain rfl : j = 0 := by omega
       rw [hfst] at hx
       cases hx
       exact p1 hb, fun h => p2 ⟨_, h 0 (by omega) _ hfst⟩⟩
    simp only [k2, decide_true, if_true]
    rw [h1]
    have hall : (∀ j, j < e.args.length → ∀ x, e.args[j]? = some x → RefC (envL p l) x c) ↔ ∀ x ∈ e.args, RefC (envL p l) x c := all_ix
    rw [hall] at h2
    refine ⟨_, rfl, fun h => .call k2 (fun h => by rw [h] at h0'; cases h0') (h2.1 h), fun ⟨d, hd⟩ => h2.2 ?_⟩
    cases hd with
    | nm => omega
    | op _ k3 => exact absurd k2 k3
    | call _ _ hd =>
     have hc := p1 (p2 ⟨_, hd _ hmem0⟩)
     have := hc.det (hd _ hmem0)
     subst this
     exact hd
   ·simp only [decide_eq_false k2, Bool.false_eq_true, if_false]
    cases b with
    | false =>
     simp only [Bool.not_false, if_true]
     refine ⟨_, rfl, fun h => (by cases h), fun ⟨d, hd⟩ => ?_⟩
     cases hd with
     | nm => omega
     | call => omega
     | op _ _ ha hd =>
      rw [hfst] at ha
      cases ha
      have := p2 ⟨_, hd⟩
      cases this
    | true =>
     have hop : opFit ⟨e.kind, e.n, e.d⟩ := by
      rcases hf.kinds with ⟨k, _⟩ | ⟨k, _⟩ | ⟨_, k⟩
      ·exact absurd k k1
      ·exact absurd k k2
      ·exact k
     obtain ⟨c1, e1, c2, e2, g1, g2, g3, g4⟩ := apply_eq c hop
     simp only [Bool.not_true, Bool.false_eq_true, if_false, g2, Option.bind_some]
     refine ⟨_, rfl, fun h => ?_, fun ⟨d, hd⟩ => ?_⟩
     ·have h0 : e2 = 0 := of_decide_eq_true h
      have h0' := g3.2 h0
      subst h0'
      rw [g4 rfl]
      exact .op k1 k2 hfst (p1 rfl) g1
     ·cases hd with
      | nm => omega
      | call => omega
      | op _ _ ha hd hap =>
       rw [hfst] at ha
       cases ha
       have := (p1 rfl).det hd
       subst this
       rw [g1] at hap
       cases hap
       exact decide_eq_true (g3.1 rfl)
end Go.Proofs.Ytohmmfimedgccaa.E
end
section
namespace Go.Proofs.Ytohmmfimedgccaa.E
set_option maxRecDepth 100000
set_option maxHeartbeats 4000000
set_option linter.unusedVariables false
set_option linter.unusedSimpArgs false
noncomputable def law06_CheckFinds_L2 (v3_18 : (List Clock)) (y108 : ((List Clock) × Int × Int)) : Int → Option (Int ⊕ (Bool ⊕ Unit))
 | v12_116 =>
  if (decide (v12_116 < ((List.length y108.1 : Nat) : Int))) then
   ((getI y108.1 v12_116).bind fun y122 =>
   (getI v3_18 v12_116).bind fun y124 =>
   if (!(decide (y122.period = y124.period) && (decide (y122.phase = y124.phase)))) then
    some (.inl false)
   else
    some (.inr ()) : Option (Bool ⊕ Unit)).bind fun x => match x with
   | .inl r => some (.inr (.inl r))
   | .inr _ =>
    some (.inl (IntKind.i64.wrap (v12_116 + (1 : Int))))
  else
   some (.inr (.inr ()))
noncomputable def law06_CheckFinds_L1 (a0 : Program) (f_law06_ahead : Program → Expr → Int → Option Bool) : Int → Option (Int ⊕ (Bool ⊕ Unit))
 | v8_94 =>
  if (decide (v8_94 < ((List.length a0.flows : Nat) : Int))) then
   ((getI a0.flows v8_94).bind fun y100 =>
   (f_law06_ahead a0 y100.e (IntKind.i64.wrap (((List.length a0.inputs : Nat) : Int) + v8_94))).bind fun y102 =>
   if (!y102) then
    some (.inl true)
   else
    some (.inr ()) : Option (Bool ⊕ Unit)).bind fun x => match x with
   | .inl r => some (.inr (.inl r))
   | .inr _ =>
    some (.inl (IntKind.i64.wrap (v8_94 + (1 : Int))))
  else
   some (.inr (.inr ()))
noncomputable def law06_CheckFinds_L0 (a0 : Program) (f_law06_ahead : Program → Expr → Int → Option Bool) (f_ref06_Clock : Program → (List Clock) → Expr → Option (Clock × Bool)) : ((List Clock) × Bool × Int) → Option (((List Clock) × Bool × Int) ⊕ (Bool ⊕ ((List Clock) × Bool)))
 | (v3_20, v4_21, v5_22) =>
  if ((decide (v5_22 < ((List.length a0.flows : Nat) : Int))) && v4_21) then
   ((getI a0.flows v5_22).bind fun y31 =>
   (f_law06_ahead a0 y31.e (IntKind.i64.wrap (((List.length a0.inputs : Nat) : Int) + v5_22))).bind fun y33 =>
   if (!y33) then
    some (.inl true)
   else
    (getI a0.flows v5_22).bind fun y38 =>
    (f_ref06_Clock a0 v3_20 y38.e).bind fun y40 =>
    (appO 16 ([]) v3_20).bind fun y43 =>
    (appO 16 y43 ([y40.1])).bind fun y48 =>
    some (.inr (y48, y40.2)) : Option (Bool ⊕ ((List Clock) × Bool))).bind fun x => match x with
   | .inl r => some (.inr (.inl r))
   | .inr (v3_29, v4_30) =>
    some (.inl (v3_29, v4_30, (IntKind.i64.wrap (v5_22 + (1 : Int)))))
  else
   some (.inr (.inr (v3_20, v4_21)))
noncomputable def B_law06_CheckFinds (f_law06_awake : Option Bool) (f_ref04_Right : Program → Option Bool) (f_ref06_Names : Program → Option Bool) (f_law06_ahead : Program → Expr → Int → Option Bool) (f_ref06_Clock : Program → (List Clock) → Expr → Option (Clock × Bool)) (f_check_Clocks : Program → Option ((List Clock) × Int × Int)) (a0 : Program) : Option Bool :=
 (f_law06_awake).bind fun y1 =>
 (if (!y1) then
  some false
 else
  (f_ref04_Right a0).bind fun y3 =>
  some (!y3)).bind fun w5 =>
 (if ((!y1) || w5) then
  some false
 else
  (f_ref06_Names a0).bind fun y7 =>
  some (!y7)).bind fun w9 =>
 if (((!y1) || w5) || w9) then
  (f_law06_awake).bind fun y14 =>
  some y14
 else
  (iterO (law06_CheckFinds_L0 a0 f_law06_ahead f_ref06_Clock) ([], true, (0 : Int)) : Option (Bool ⊕ ((List Clock) × Bool))).bind fun x => match x with
  | .inl r => some r
  | .inr (v3_18, v4_19) =>
   (iterO (law06_CheckFinds_L1 a0 f_law06_ahead) ((List.length v3_18 : Nat) : Int) : Option (Bool ⊕ Unit)).bind fun x => match x with
   | .inl r => some r
   | .inr _ =>
    (f_check_Clocks a0).bind fun y108 =>
    if (!v4_19) then
     some ((!decide (y108.2.2 = (0 : Int))) && (decide (((List.length y108.1 : Nat) : Int) = (0 : Int))))
    else
     if ((!decide (y108.2.2 = (0 : Int))) || (!decide (((List.length y108.1 : Nat) : Int) = ((List.length v3_18 : Nat) : Int)))) then
      some false
     else
      (iterO (law06_CheckFinds_L2 v3_18 y108) (0 : Int) : Option (Bool ⊕ Unit)).bind fun x => match x with
      | .inl r => some r
      | .inr _ =>
       some true
abbrev law06_CheckFinds_A0 (a0 : Program) : List PV := [(.sl (List.map Node.cl a0.nodes)), (.sl (List.map Input.cl a0.inputs)), (.sl (List.map Flow.cl a0.flows)), (.sl (List.map Output.cl a0.outputs))]
theorem W_law06_CheckFinds (f_law06_awake : Option Bool) (f_ref04_Right : Program → Option Bool) (f_ref06_Names : Program → Option Bool) (f_law06_ahead : Program → Expr → Int → Option Bool) (f_ref06_Clock : Program → (List Clock) → Expr → Option (Clock × Bool)) (f_check_Clocks : Program → Option ((List Clock) × Int × Int)) (S_law06_awake : Sat_law06_awake f_law06_awake) (S_ref04_Right : Sat_ref04_Right f_ref04_Right) (S_ref06_Names : Sat_ref06_Names f_ref06_Names) (S_law06_ahead : Sat_law06_ahead f_law06_ahead) (S_ref06_Clock : Sat_ref06_Clock f_ref06_Clock) (S_check_Clocks : Sat_check_Clocks f_check_Clocks) : Sat_law06_CheckFinds (B_law06_CheckFinds f_law06_awake f_ref04_Right f_ref06_Names f_law06_ahead f_ref06_Clock f_check_Clocks) := by
 intro a0 r h σ K hK
 refine w_fp Try.func4 rfl rfl (by kernel_rfl) ?_
 unfold B_law06_CheckFinds at h
 have hP := Pre.refl σ
 have E0 : argE [(.ag (law06_CheckFinds_A0 a0))] 0 = (.ag (law06_CheckFinds_A0 a0)) := rfl
 have TT := cj16 Expr.rlen T_2 T_22 T_23 T_24 T_25 T_27 T_3 T_30 T_33 T_37 T_39 T_41 T_43 T_9 T_96
 refine w_sa (fun e s => ∃ i1 : Nat, Bx σ s i1 27 (law06_CheckFinds_A0 a0) ∧ e 1 = (.pt i1 0) ∧ Pre σ s) ?_ fun e s hI => ?_
 ·refine w_x (cj2 E0 TT) (k := ?_)
  exact cw_n ⟨_, WkE.refl _, σ.length, (Bx.new hP 27 (law06_CheckFinds_A0 a0)), (xv (cj2 E0 TT)), (hP.app _)⟩
 obtain ⟨i1, X1, E1, hP⟩ := hI
 refine w_assoc ?_
 obtain ⟨y1, h2, h⟩ := bnd_some h
 obtain ⟨w5, h6, h⟩ := bnd_some h
 obtain ⟨w9, h10, h⟩ := bnd_some h
 refine w_sa (fun e s => Bx σ s i1 27 (law06_CheckFinds_A0 a0) ∧ e 1 = (.pt i1 0) ∧ e 24 = (.v (.bool (((!y1) || w5) || w9))) ∧ Pre σ s) ?_ fun e s hI => ?_
 ·cases hb11 : (!y1)
  ·replace h6 := ite_f (by simp only [hb11, Bool.or_true, Bool.true_or, Bool.or_false, Bool.false_or, Bool.and_true, Bool.true_and, Bool.and_false, Bool.false_and, Bool.not_true, Bool.not_false, cond_true, cond_false]) h6
   obtain ⟨y3, h4, h6⟩ := bnd_some h6
   obtain rfl := some_inj h6
   cases hb12 : (!y3)
   ·replace h10 := ite_f (by simp only [hb11, hb12, Bool.or_true, Bool.true_or, Bool.or_false, Bool.false_or, Bool.and_true, Bool.true_and, Bool.and_false, Bool.false_and, Bool.not_true, Bool.not_false, cond_true, cond_false]) h10
    obtain ⟨y7, h8, h10⟩ := bnd_some h10
    obtain rfl := some_inj h10
    refine w_x (cj5 E1 X1.get hb11 hb12 TT) (k := ?_)
    refine EC.wka .nil (S_law06_awake _ h2 _ _  ?_)
    refine w_y (cj5 E1 X1.get hb11 hb12 TT) (k := ?_)
    refine EC.wka (.cons (.refl _) .nil) (S_ref04_Right _ _ h4 _ _  ?_)
    refine w_y (cj5 E1 X1.get hb11 hb12 TT) (k := ?_)
    refine EC.wka (.cons (.refl _) .nil) (S_ref06_Names _ _ h8 _ _  ?_)
    refine w_y (cj5 E1 X1.get hb11 hb12 TT) (k := ?_)
    exact cw_n ⟨_, WkE.refl _, X1, (xv (cj5 E1 X1.get hb11 hb12 TT)), (xv (cj5 E1 X1.get hb11 hb12 TT)), hP⟩
   ·replace h10 := ite_t (by simp only [hb11, hb12, Bool.or_true, Bool.true_or, Bool.or_false, Bool.false_or, Bool.and_true, Bool.true_and, Bool.and_false, Bool.false_and, Bool.not_true, Bool.not_false, cond_true, cond_false]) h10
    obtain rfl := some_inj h10
    refine w_x (cj5 E1 X1.get hb11 hb12 TT) (k := ?_)
    refine EC.wka .nil (S_law06_awake _ h2 _ _  ?_)
    refine w_y (cj5 E1 X1.get hb11 hb12 TT) (k := ?_)
    refine EC.wka (.cons (.refl _) .nil) (S_ref04_Right _ _ h4 _ _  ?_)
    refine w_y (cj5 E1 X1.get hb11 hb12 TT) (k := ?_)
    exact cw_n ⟨_, WkE.refl _, X1, (xv (cj5 E1 X1.get hb11 hb12 TT)), (xv (cj5 E1 X1.get hb11 hb12 TT)), hP⟩
  ·replace h6 := ite_t (by simp only [hb11, Bool.or_true, Bool.true_or, Bool.or_false, Bool.false_or, Bool.and_true, Bool.true_and, Bool.and_false, Bool.false_and, Bool.not_true, Bool.not_false, cond_true, cond_false]) h6
   obtain rfl := some_inj h6
   replace h10 := ite_t (by simp only [hb11, Bool.or_true, Bool.true_or, Bool.or_false, Bool.false_or, Bool.and_true, Bool.true_and, Bool.and_false, Bool.false_and, Bool.not_true, Bool.not_false, cond_true, cond_false]) h10
   obtain rfl := some_inj h10
   refine w_x (cj4 E1 X1.get hb11 TT) (k := ?_)
   refine EC.wka .nil (S_law06_awake _ h2 _ _  ?_)
   refine w_y (cj4 E1 X1.get hb11 TT) (k := ?_)
   exact cw_n ⟨_, WkE.refl _, X1, (xv (cj4 E1 X1.get hb11 TT)), (xv (cj4 E1 X1.get hb11 TT)), hP⟩
 obtain ⟨X1, E1, E24, hP⟩ := hI
 refine w_seq ?_
 rcases ite_some h with ⟨hb13, h⟩ | ⟨hb13, h⟩
 ·refine xt (cj3 E1 E24 hb13) ?_
  obtain ⟨y14, h15, h⟩ := bnd_some h
  refine w_sa (fun e s => e 2 = (.v (.bool y14)) ∧ Pre σ s) ?_ fun e s hI => ?_
  ·refine w_x (cj4 E1 E24 X1.get TT) (k := ?_)
   refine EC.wka .nil (S_law06_awake _ h15 _ _  ?_)
   refine w_y (cj4 E1 E24 X1.get TT) (k := ?_)
   exact cw_n ⟨_, WkE.refl _, (xv (cj4 E1 E24 X1.get TT)), hP⟩
  obtain ⟨E2, hP⟩ := hI
  refine w_ret ?_
  refine w_sqr ?_
  obtain rfl := some_inj h
  exact w_fin (fun _ => rfl) (xr (rs := #[.tmp 2]) E2) hP (r' := (.v (.bool y14))) (.refl _) (.v _) hK
 ·refine xf (cj3 E1 E24 hb13) ?_
  refine w_skip ?_
  refine w_sq ?_
  refine w_sa (fun e s => Bx σ s i1 27 (law06_CheckFinds_A0 a0) ∧ e 1 = (.pt i1 0) ∧ e 3 = (.sl (List.map Clock.cl ([]))) ∧ Pre σ s) ?_ fun e s hI => ?_
  ·refine w_x (cj4 E1 E24 X1.get TT) (k := ?_)
   have q1 := cj4 E1 E24 X1.get TT
   exact cw_n ⟨_, WkE.upd (WkE.refl _) (t := 3) (p := (.v (.slice none 0 0))) (q := (.sl (List.map Clock.cl ([])))) (xv q1) .nil, X1, (xv q1), (xv q1), hP⟩
  obtain ⟨X1, E1, E3, hP⟩ := hI
  refine w_sa (fun e s => Bx σ s i1 27 (law06_CheckFinds_A0 a0) ∧ e 1 = (.pt i1 0) ∧ e 3 = (.sl (List.map Clock.cl ([]))) ∧ e 4 = (.v (.bool true)) ∧ Pre σ s) ?_ fun e s hI => ?_
  ·refine w_x (cj4 E1 E3 X1.get TT) (k := ?_)
   have q2 := cj4 E1 E3 X1.get TT
   exact cw_n ⟨_, WkE.refl _, X1, (xv q2), (xv q2), (xv q2), hP⟩
  obtain ⟨X1, E1, E3, E4, hP⟩ := hI
  refine w_assoc ?_
  refine w_sa (fun e s => Bx σ s i1 27 (law06_CheckFinds_A0 a0) ∧ e 1 = (.pt i1 0) ∧ e 3 = (.sl (List.map Clock.cl ([]))) ∧ e 4 = (.v (.bool true)) ∧ e 5 = (.v (.int .i64 (0 : Int))) ∧ Pre σ s) ?_ fun e s hI => ?_
  ·refine w_x (cj5 E1 E3 E4 X1.get TT) (k := ?_)
   have q3 := cj5 E1 E3 E4 X1.get TT
   exact cw_n ⟨_, WkE.refl _, X1, (xv q3), (xv q3), (xv q3), (xv q3), hP⟩
  obtain ⟨X1, E1, E3, E4, E5, hP⟩ := hI
  obtain ⟨x16, h17, h⟩ := bnd_some h
  refine w_sa (fun e s => ∃ v3_18 : (List Clock), ∃ v4_19 : Bool, .inr (v3_18, v4_19) = x16 ∧ Bx σ s i1 27 (law06_CheckFinds_A0 a0) ∧ e 1 = (.pt i1 0) ∧ e 3 = (.sl (List.map Clock.cl v3_18)) ∧ e 4 = (.v (.bool v4_19)) ∧ Pre σ s) ?_ fun e s hI => ?_
  ·refine w_block ?_
   have q4 := cj4 E1 E3 E4 E5
   refine w_iter h17 (fun v e s => ∃ v3_20 : (List Clock), ∃ v4_21 : Bool, ∃ v5_22 : Int, (v3_20, v4_21, v5_22) = v ∧ Bx σ s i1 27 (law06_CheckFinds_A0 a0) ∧ e 1 = (.pt i1 0) ∧ e 3 = (.sl (List.map Clock.cl v3_20)) ∧ e 4 = (.v (.bool v4_21)) ∧ e 5 = (.v (.int .i64 v5_22)) ∧ Pre σ s) ⟨_, WkE.refl _, _, _, _, rfl, X1, (xv q4), (xv q4), (xv q4), (xv q4), hP⟩ fun v x23 e s hf24 hI => ?_
   obtain ⟨v3_20, v4_21, v5_22, rfl, X1, E1, E3, E4, E5, hP⟩ := hI
   unfold law06_CheckFinds_L0 at hf24
   try dsimp only at hf24
   refine w_assoc ?_
   refine w_sa (fun e s => Bx σ s i1 27 (law06_CheckFinds_A0 a0) ∧ e 1 = (.pt i1 0) ∧ e 3 = (.sl (List.map Clock.cl v3_20)) ∧ e 4 = (.v (.bool v4_21)) ∧ e 5 = (.v (.int .i64 v5_22)) ∧ e 33 = (.v (.bool ((decide (v5_22 < ((List.length a0.flows : Nat) : Int))) && v4_21))) ∧ Pre σ s) ?_ fun e s hI => ?_
   ·cases hb25 : (decide (v5_22 < ((List.length a0.flows : Nat) : Int)))
    ·refine w_x (cj7 E1 E3 E4 E5 X1.get hb25 TT) (k := ?_)
     have q5 := cj7 E1 E3 E4 E5 X1.get hb25 TT
     exact cw_n ⟨_, WkE.refl _, X1, (xv q5), (xv q5), (xv q5), (xv q5), (xv q5), hP⟩
    ·refine w_x (cj7 E1 E3 E4 E5 X1.get hb25 TT) (k := ?_)
     have q6 := cj7 E1 E3 E4 E5 X1.get hb25 TT
     exact cw_n ⟨_, WkE.refl _, X1, (xv q6), (xv q6), (xv q6), (xv q6), (xv q6), hP⟩
   obtain ⟨X1, E1, E3, E4, E5, E33, hP⟩ := hI
   refine w_seq ?_
   rcases ite_some hf24 with ⟨hb26, hf24⟩ | ⟨hb26, hf24⟩
   ·refine xt (cj6 E1 E3 E4 E5 E33 hb26) ?_
    refine w_skip ?_
    refine w_sq ?_
    obtain ⟨x27, h28, hf24⟩ := bnd_some hf24
    refine w_sa (fun e s => ∃ v3_29 : (List Clock), ∃ v4_30 : Bool, .inr (v3_29, v4_30) = x27 ∧ Bx σ s i1 27 (law06_CheckFinds_A0 a0) ∧ e 1 = (.pt i1 0) ∧ e 3 = (.sl (List.map Clock.cl v3_29)) ∧ e 4 = (.v (.bool v4_30)) ∧ e 5 = (.v (.int .i64 v5_22)) ∧ Pre σ s) ?_ fun e s hI => ?_
    ·refine w_block ?_
     refine w_assoc ?_
     obtain ⟨y31, h32, h28⟩ := bnd_some h28
     obtain ⟨y33, h34, h28⟩ := bnd_some h28
     refine w_sa (fun e s => Bx σ s i1 27 (law06_CheckFinds_A0 a0) ∧ e 1 = (.pt i1 0) ∧ e 3 = (.sl (List.map Clock.cl v3_20)) ∧ e 5 = (.v (.int .i64 v5_22)) ∧ e 49 = (.v (.bool (!y33))) ∧ Pre σ s) ?_ fun e s hI => ?_
     ·have R35 : (List.map Flow.cl a0.flows)[(v5_22).toNat]? = some [(.v (.string y31.name)), (.v (.int .i64 y31.e.kind)), (.v (.string y31.e.name)), (.v (.int .i64 y31.e.n)), (.v (.int .i64 y31.e.d)), (.sl (Expr.rows y31.e.args)), (.v (.int .i64 y31.e.at_)), (.v (.int .i64 y31.at_))] := map_get (getI_some h32).2
      refine w_xd 12 0 (cj9 E1 E3 E4 E5 E33 X1.get R35 (getI_some h32).1 TT) (hk := ?_)
      refine w_xs (cj9 E1 E3 E4 E5 E33 X1.get R35 (getI_some h32).1 TT) (k := ?_)
      refine EC.wka (.cons (.refl _) (.cons (.refl _) (.cons (.refl _) .nil))) (S_law06_ahead _ _ _ _ h34 _ _  ?_)
      refine w_y (cj9 E1 E3 E4 E5 E33 X1.get R35 (getI_some h32).1 TT) (k := ?_)
      have q7 := cj9 E1 E3 E4 E5 E33 X1.get R35 (getI_some h32).1 TT
      exact cw_n ⟨_, WkE.refl _, X1, (xv q7), (xv q7), (xv q7), (xv q7), hP⟩
     obtain ⟨X1, E1, E3, E5, E49, hP⟩ := hI
     refine w_seq ?_
     rcases ite_some h28 with ⟨hb36, h28⟩ | ⟨hb36, h28⟩
     ·refine xt (cj5 E1 E3 E5 E49 hb36) ?_
      refine w_sa (fun e s => e 2 = (.v (.bool true)) ∧ Pre σ s) ?_ fun e s hI => ?_
      ·refine w_x (cj6 E1 E3 E5 E49 X1.get TT) (k := ?_)
       exact cw_n ⟨_, WkE.refl _, (xv (cj6 E1 E3 E5 E49 X1.get TT)), hP⟩
      obtain ⟨E2, hP⟩ := hI
      refine w_ret ?_
      refine w_sqr ?_
      refine w_bkr ?_
      obtain rfl := some_inj h28
      refine cw_r ?_
      try dsimp only at hf24
      obtain rfl := some_inj hf24
      refine iq_r rfl fun hr37 => ?_
      obtain rfl := hr37
      refine w_bkr ?_
      refine cw_r ?_
      try dsimp only at h
      obtain rfl := some_inj h
      exact w_fin (fun _ => rfl) (xr (rs := #[.tmp 2]) E2) hP (r' := (.v (.bool true))) (.refl _) (.v _) hK
     ·refine xf (cj5 E1 E3 E5 E49 hb36) ?_
      refine w_skip ?_
      refine w_sq ?_
      obtain ⟨y38, h39, h28⟩ := bnd_some h28
      obtain ⟨y40, h41, h28⟩ := bnd_some h28
      refine w_sa (fun e s => ∃ i6 : Nat, Bx σ s i1 27 (law06_CheckFinds_A0 a0) ∧ Bx σ s i6 43 [(.v (.int .i64 y40.1.period)), (.v (.int .i64 y40.1.phase))] ∧ e 1 = (.pt i1 0) ∧ e 3 = (.sl (List.map Clock.cl v3_20)) ∧ e 5 = (.v (.int .i64 v5_22)) ∧ e 6 = (.pt i6 0) ∧ e 7 = (.v (.bool y40.2)) ∧ Pre σ s) ?_ fun e s hI => ?_
      ·have R42 : (List.map Flow.cl a0.flows)[(v5_22).toNat]? = some [(.v (.string y38.name)), (.v (.int .i64 y38.e.kind)), (.v (.string y38.e.name)), (.v (.int .i64 y38.e.n)), (.v (.int .i64 y38.e.d)), (.sl (Expr.rows y38.e.args)), (.v (.int .i64 y38.e.at_)), (.v (.int .i64 y38.at_))] := map_get (getI_some h39).2
       refine w_xd 14 1 (cj12 E1 E3 E5 E49 X1.get X1.any X1.any2 R42 (getI_some h39).1 (X1.app [some (AObj.box 43 [(.v (.int .i64 y40.1.period)), (.v (.int .i64 y40.1.phase))])]).get (Bx.at hP (l := [some (AObj.box 43 [(.v (.int .i64 y40.1.period)), (.v (.int .i64 y40.1.phase))])]) (j := 0) (t := 43) (c := [(.v (.int .i64 y40.1.period)), (.v (.int .i64 y40.1.phase))]) rfl).get TT) (hk := ?_)
       refine EC.wka (.cons (.refl _) (.cons (.refl _) (.cons (.refl _) .nil))) (S_ref06_Clock _ _ _ _ h41 _ _  ?_)
       refine w_yd (cj12 E1 E3 E5 E49 X1.get X1.any X1.any2 R42 (getI_some h39).1 (X1.app [some (AObj.box 43 [(.v (.int .i64 y40.1.period)), (.v (.int .i64 y40.1.phase))])]).get (Bx.at hP (l := [some (AObj.box 43 [(.v (.int .i64 y40.1.period)), (.v (.int .i64 y40.1.phase))])]) (j := 0) (t := 43) (c := [(.v (.int .i64 y40.1.period)), (.v (.int .i64 y40.1.phase))]) rfl).get TT) (k := ?_)
       refine w_xs (cj12 E1 E3 E5 E49 X1.get X1.any X1.any2 R42 (getI_some h39).1 (X1.app [some (AObj.box 43 [(.v (.int .i64 y40.1.period)), (.v (.int .i64 y40.1.phase))])]).get (Bx.at hP (l := [some (AObj.box 43 [(.v (.int .i64 y40.1.period)), (.v (.int .i64 y40.1.phase))])]) (j := 0) (t := 43) (c := [(.v (.int .i64 y40.1.period)), (.v (.int .i64 y40.1.phase))]) rfl).get TT) (k := ?_)
       have q8 := X1.app [some (AObj.box 43 [(.v (.int .i64 y40.1.period)), (.v (.int .i64 y40.1.phase))])]
       have q9 := Bx.at hP (l := [some (AObj.box 43 [(.v (.int .i64 y40.1.period)), (.v (.int .i64 y40.1.phase))])]) (j := 0) (t := 43) (c := [(.v (.int .i64 y40.1.period)), (.v (.int .i64 y40.1.phase))]) rfl
       have q10 := cj12 E1 E3 E5 E49 X1.get X1.any X1.any2 R42 (getI_some h39).1 q8.get q9.get TT
       exact cw_n ⟨_, WkE.refl _, (s.length), q8, q9, (xv q10), (xv q10), (xv q10), (xv q10), (xv q10), (hP.app [some (AObj.box 43 [(.v (.int .i64 y40.1.period)), (.v (.int .i64 y40.1.phase))])])⟩
      obtain ⟨i6, X1, X6, E1, E3, E5, E6, E7, hP⟩ := hI
      refine w_sa (fun e s => Bx σ s i1 27 (law06_CheckFinds_A0 a0) ∧ Bx σ s i6 43 [(.v (.int .i64 y40.1.period)), (.v (.int .i64 y40.1.phase))] ∧ e 1 = (.pt i1 0) ∧ e 3 = (.sl (List.map Clock.cl v3_20)) ∧ e 4 = (.v (.bool y40.2)) ∧ e 5 = (.v (.int .i64 v5_22)) ∧ e 6 = (.pt i6 0) ∧ Pre σ s) ?_ fun e s hI => ?_
      ·refine w_x (cj8 E1 E3 E5 E6 E7 X1.get X6.get TT) (k := ?_)
       have q11 := cj8 E1 E3 E5 E6 E7 X1.get X6.get TT
       exact cw_n ⟨_, WkE.refl _, X1, X6, (xv q11), (xv q11), (xv q11), (xv q11), (xv q11), hP⟩
      obtain ⟨X1, X6, E1, E3, E4, E5, E6, hP⟩ := hI
      obtain ⟨y43, h44, h28⟩ := bnd_some h28
      obtain ⟨y48, h49, h28⟩ := bnd_some h28
      by_cases hy53 : v3_20 = []
      ·have ha59 := Acc.push0 (ty := 43) T_33 T_43 (Acc.e0 σ s 43 2) (.sl (List.map Clock.cl v3_20)) (by rw [hy53]; rfl)
       have A56 : Acc σ s .e0 43 2 (List.map Clock.cl y43) := Acc.cast (by first | (rw [← (appO_some h44).2, hy53, List.append_nil]; done) | (rw [← (appO_some h44).2, hy53, List.append_nil]; rfl)) (Acc.e0 σ s 43 2)
       obtain ⟨p61, s62, ha66, A630, hP67, K64, Q65, U68, V69⟩ := Acc.push (ns := [[(.v (.int .i64 y40.1.period)), (.v (.int .i64 y40.1.phase))]]) (rows := (List.map Clock.cl y43)) T_33 T_43 A56 hP (map_len (f := Clock.cl) (n := 2) (fun _ => rfl) _) (by simp) (by simp) (by decide) (by simpa [Expr.rlen] using (appO_some h49).1)
       have ha66 := ha66 (.sl [[(.v (.int .i64 y40.1.period)), (.v (.int .i64 y40.1.phase))]]) rfl
       have A63 : Acc σ s62 p61 43 2 (List.map Clock.cl y48) := by rw [← (appO_some h49).2]; exact by rw [List.map_append]; exact A630
       refine w_xd 5 0 (cj12 E1 E3 E4 E5 E6 X1.get X6.get ha59 ha66 (X1.keep A56 K64).get (X6.keep A56 K64).get TT) (hk := ?_)
       refine w_xs (cj12 E1 E3 E4 E5 E6 X1.get X6.get ha59 ha66 (X1.keep A56 K64).get (X6.keep A56 K64).get TT) (k := ?_)
       refine w_bk ?_
       obtain rfl := some_inj h28
       have q12 := X1.keep A56 K64
       have q13 := X6.keep A56 K64
       have q14 := cj12 E1 E3 E4 E5 E6 X1.get X6.get ha59 ha66 q12.get q13.get TT
       exact cw_n ⟨_, WkE.upd (WkE.refl _) (t := 3) (p := p61) (q := (.sl (List.map Clock.cl y48))) (xv q14) A63.wk, _, _, rfl, q12, (xv q14), (xv q14), (xv q14), (xv q14), hP67⟩
      ·obtain ⟨p70, s71, ha75, A720, hP76, K73, Q74, U77, V78⟩ := Acc.push (ns := (List.map Clock.cl v3_20)) (rows := (List.map Clock.cl ([]))) T_33 T_43 (Acc.e0 σ s 43 2) hP (by simp) (map_len (f := Clock.cl) (n := 2) (fun _ => rfl) _) (by rw [Ne, ← List.length_eq_zero_iff]; simpa [Expr.rlen] using hy53) (by decide) (by simpa [Expr.rlen] using (appO_some h44).1)
       have ha75 := ha75 (.sl (List.map Clock.cl v3_20)) rfl
       have A72 : Acc σ s71 p70 43 2 (List.map Clock.cl y43) := by rw [← (appO_some h44).2]; exact by rw [List.map_append]; exact A720
       have u79 := (U77 s (fun _ _ h => h) (fun t r h => by cases h))
       have u80 := (V78 s.length (Nat.le_refl _) (fun t r h => by cases h))
       have u81 : s.length ≤ s71.length := Nat.le_trans (Nat.le_refl _) K73.2
       obtain ⟨p82, s83, ha87, A840, hP88, K85, Q86, U89, V90⟩ := Acc.push (ns := [[(.v (.int .i64 y40.1.period)), (.v (.int .i64 y40.1.phase))]]) (rows := (List.map Clock.cl y43)) T_33 T_43 A72 hP76 (map_len (f := Clock.cl) (n := 2) (fun _ => rfl) _) (by simp) (by simp) (by decide) (by simpa [Expr.rlen] using (appO_some h49).1)
       have ha87 := ha87 (.sl [[(.v (.int .i64 y40.1.period)), (.v (.int .i64 y40.1.phase))]]) rfl
       have A84 : Acc σ s83 p82 43 2 (List.map Clock.cl y48) := by rw [← (appO_some h49).2]; exact by rw [List.map_append]; exact A840
       have q15 := X1.keep (Acc.e0 σ s 43 2) K73
       have q16 := X6.keep (Acc.e0 σ s 43 2) K73
       refine w_xd 5 0 (cj15 E1 E3 E4 E5 E6 X1.get X6.get ha75 (eq_true u79) q15.get q16.get ha87 (q15.keep A72 K85).get (q16.keep A72 K85).get TT) (hk := ?_)
       have q17 := X1.keep (Acc.e0 σ s 43 2) K73
       have q18 := X6.keep (Acc.e0 σ s 43 2) K73
       refine w_xs (cj15 E1 E3 E4 E5 E6 X1.get X6.get ha75 (eq_true u79) q17.get q18.get ha87 (q17.keep A72 K85).get (q18.keep A72 K85).get TT) (k := ?_)
       refine w_bk ?_
       obtain rfl := some_inj h28
       have q19 := X1.keep (Acc.e0 σ s 43 2) K73
       have q20 := X6.keep (Acc.e0 σ s 43 2) K73
       have q21 := cj15 E1 E3 E4 E5 E6 X1.get X6.get ha75 (eq_true u79) q19.get q20.get ha87 (q19.keep A72 K85).get (q20.keep A72 K85).get TT
       exact cw_n ⟨_, WkE.upd (WkE.refl _) (t := 3) (p := p82) (q := (.sl (List.map Clock.cl y48))) (xv q21) A84.wk, _, _, rfl, (q19.keep A72 K85), (xv q21), (xv q21), (xv q21), (xv q21), hP88⟩
    obtain ⟨v3_29, v4_30, rfl, X1, E1, E3, E4, E5, hP⟩ := hI
    try dsimp only at hf24
    refine w_x (cj6 E1 E3 E4 E5 X1.get TT) (k := ?_)
    obtain rfl := some_inj hf24
    have q22 := cj6 E1 E3 E4 E5 X1.get TT
    exact iq_n rfl ⟨_, WkE.refl _, _, _, _, rfl, X1, (xv q22), (xv q22), (xv q22), (xv q22), hP⟩
   ·refine xf (cj6 E1 E3 E4 E5 E33 hb26) ?_
    refine w_exit ?_
    refine w_sqx ?_
    obtain rfl := some_inj hf24
    refine iq_x rfl fun hr91 => ?_
    obtain rfl := hr91
    refine w_bkx ?_
    have q23 := cj5 E1 E3 E4 E5 E33
    exact cw_n ⟨_, WkE.refl _, _, _, rfl, X1, (xv q23), (xv q23), (xv q23), hP⟩
  obtain ⟨v3_18, v4_19, rfl, X1, E1, E3, E4, hP⟩ := hI
  try dsimp only at h
  refine w_assoc ?_
  refine w_sa (fun e s => Bx σ s i1 27 (law06_CheckFinds_A0 a0) ∧ e 1 = (.pt i1 0) ∧ e 3 = (.sl (List.map Clock.cl v3_18)) ∧ e 4 = (.v (.bool v4_19)) ∧ e 8 = (.v (.int .i64 ((List.length v3_18 : Nat) : Int))) ∧ Pre σ s) ?_ fun e s hI => ?_
  ·refine w_x (cj5 E1 E3 E4 X1.get TT) (k := ?_)
   have q24 := cj5 E1 E3 E4 X1.get TT
   exact cw_n ⟨_, WkE.refl _, X1, (xv q24), (xv q24), (xv q24), (xv q24), hP⟩
  obtain ⟨X1, E1, E3, E4, E8, hP⟩ := hI
  obtain ⟨x92, h93, h⟩ := bnd_some h
  refine w_sa (fun e s => .inr () = x92 ∧ Bx σ s i1 27 (law06_CheckFinds_A0 a0) ∧ e 1 = (.pt i1 0) ∧ e 3 = (.sl (List.map Clock.cl v3_18)) ∧ e 4 = (.v (.bool v4_19)) ∧ Pre σ s) ?_ fun e s hI => ?_
  ·refine w_block ?_
   have q25 := cj4 E1 E3 E4 E8
   refine w_iter h93 (fun v e s => ∃ v8_94 : Int, v8_94 = v ∧ Bx σ s i1 27 (law06_CheckFinds_A0 a0) ∧ e 1 = (.pt i1 0) ∧ e 3 = (.sl (List.map Clock.cl v3_18)) ∧ e 4 = (.v (.bool v4_19)) ∧ e 8 = (.v (.int .i64 v8_94)) ∧ Pre σ s) ⟨_, WkE.refl _, _, rfl, X1, (xv q25), (xv q25), (xv q25), (xv q25), hP⟩ fun v x95 e s hf96 hI => ?_
   obtain ⟨v8_94, rfl, X1, E1, E3, E4, E8, hP⟩ := hI
   unfold law06_CheckFinds_L1 at hf96
   try dsimp only at hf96
   refine w_assoc ?_
   refine w_sa (fun e s => Bx σ s i1 27 (law06_CheckFinds_A0 a0) ∧ e 1 = (.pt i1 0) ∧ e 3 = (.sl (List.map Clock.cl v3_18)) ∧ e 4 = (.v (.bool v4_19)) ∧ e 8 = (.v (.int .i64 v8_94)) ∧ e 75 = (.v (.bool (decide (v8_94 < ((List.length a0.flows : Nat) : Int))))) ∧ Pre σ s) ?_ fun e s hI => ?_
   ·refine w_x (cj6 E1 E3 E4 E8 X1.get TT) (k := ?_)
    have q26 := cj6 E1 E3 E4 E8 X1.get TT
    exact cw_n ⟨_, WkE.refl _, X1, (xv q26), (xv q26), (xv q26), (xv q26), (xv q26), hP⟩
   obtain ⟨X1, E1, E3, E4, E8, E75, hP⟩ := hI
   refine w_seq ?_
   rcases ite_some hf96 with ⟨hb97, hf96⟩ | ⟨hb97, hf96⟩
   ·refine xt (cj6 E1 E3 E4 E8 E75 hb97) ?_
    refine w_skip ?_
    refine w_sq ?_
    obtain ⟨x98, h99, hf96⟩ := bnd_some hf96
    refine w_sa (fun e s => .inr () = x98 ∧ Bx σ s i1 27 (law06_CheckFinds_A0 a0) ∧ e 1 = (.pt i1 0) ∧ e 3 = (.sl (List.map Clock.cl v3_18)) ∧ e 4 = (.v (.bool v4_19)) ∧ e 8 = (.v (.int .i64 v8_94)) ∧ Pre σ s) ?_ fun e s hI => ?_
    ·refine w_block ?_
     obtain ⟨y100, h101, h99⟩ := bnd_some h99
     obtain ⟨y102, h103, h99⟩ := bnd_some h99
     refine w_sa (fun e s => Bx σ s i1 27 (law06_CheckFinds_A0 a0) ∧ e 1 = (.pt i1 0) ∧ e 3 = (.sl (List.map Clock.cl v3_18)) ∧ e 4 = (.v (.bool v4_19)) ∧ e 8 = (.v (.int .i64 v8_94)) ∧ e 91 = (.v (.bool (!y102))) ∧ Pre σ s) ?_ fun e s hI => ?_
     ·have R104 : (List.map Flow.cl a0.flows)[(v8_94).toNat]? = some [(.v (.string y100.name)), (.v (.int .i64 y100.e.kind)), (.v (.string y100.e.name)), (.v (.int .i64 y100.e.n)), (.v (.int .i64 y100.e.d)), (.sl (Expr.rows y100.e.args)), (.v (.int .i64 y100.e.at_)), (.v (.int .i64 y100.at_))] := map_get (getI_some h101).2
      refine w_xd 12 0 (cj9 E1 E3 E4 E8 E75 X1.get R104 (getI_some h101).1 TT) (hk := ?_)
      refine w_xs (cj9 E1 E3 E4 E8 E75 X1.get R104 (getI_some h101).1 TT) (k := ?_)
      refine EC.wka (.cons (.refl _) (.cons (.refl _) (.cons (.refl _) .nil))) (S_law06_ahead _ _ _ _ h103 _ _  ?_)
      refine w_y (cj9 E1 E3 E4 E8 E75 X1.get R104 (getI_some h101).1 TT) (k := ?_)
      have q27 := cj9 E1 E3 E4 E8 E75 X1.get R104 (getI_some h101).1 TT
      exact cw_n ⟨_, WkE.refl _, X1, (xv q27), (xv q27), (xv q27), (xv q27), (xv q27), hP⟩
     obtain ⟨X1, E1, E3, E4, E8, E91, hP⟩ := hI
     rcases ite_some h99 with ⟨hb105, h99⟩ | ⟨hb105, h99⟩
     ·refine xt (cj6 E1 E3 E4 E8 E91 hb105) ?_
      refine w_sa (fun e s => e 2 = (.v (.bool true)) ∧ Pre σ s) ?_ fun e s hI => ?_
      ·refine w_x (cj7 E1 E3 E4 E8 E91 X1.get TT) (k := ?_)
       exact cw_n ⟨_, WkE.refl _, (xv (cj7 E1 E3 E4 E8 E91 X1.get TT)), hP⟩
      obtain ⟨E2, hP⟩ := hI
      refine w_ret ?_
      refine w_bkr ?_
      obtain rfl := some_inj h99
      refine cw_r ?_
      try dsimp only at hf96
      obtain rfl := some_inj hf96
      refine iq_r rfl fun hr106 => ?_
      obtain rfl := hr106
      refine w_bkr ?_
      refine cw_r ?_
      try dsimp only at h
      obtain rfl := some_inj h
      exact w_fin (fun _ => rfl) (xr (rs := #[.tmp 2]) E2) hP (r' := (.v (.bool true))) (.refl _) (.v _) hK
     ·refine xf (cj6 E1 E3 E4 E8 E91 hb105) ?_
      refine w_skip ?_
      refine w_bk ?_
      obtain rfl := some_inj h99
      have q28 := cj5 E1 E3 E4 E8 E91
      exact cw_n ⟨_, WkE.refl _, rfl, X1, (xv q28), (xv q28), (xv q28), (xv q28), hP⟩
    obtain ⟨rfl, X1, E1, E3, E4, E8, hP⟩ := hI
    try dsimp only at hf96
    refine w_x (cj6 E1 E3 E4 E8 X1.get TT) (k := ?_)
    obtain rfl := some_inj hf96
    have q29 := cj6 E1 E3 E4 E8 X1.get TT
    exact iq_n rfl ⟨_, WkE.refl _, _, rfl, X1, (xv q29), (xv q29), (xv q29), (xv q29), hP⟩
   ·refine xf (cj6 E1 E3 E4 E8 E75 hb97) ?_
    refine w_exit ?_
    refine w_sqx ?_
    obtain rfl := some_inj hf96
    refine iq_x rfl fun hr107 => ?_
    obtain rfl := hr107
    refine w_bkx ?_
    have q30 := cj5 E1 E3 E4 E8 E75
    exact cw_n ⟨_, WkE.refl _, rfl, X1, (xv q30), (xv q30), (xv q30), hP⟩
  obtain ⟨rfl, X1, E1, E3, E4, hP⟩ := hI
  try dsimp only at h
  obtain ⟨y108, h109, h⟩ := bnd_some h
  refine w_sa (fun e s => e 3 = (.sl (List.map Clock.cl v3_18)) ∧ e 4 = (.v (.bool v4_19)) ∧ e 9 = (.sl (List.map Clock.cl y108.1)) ∧ e 11 = (.v (.int .i64 y108.2.2)) ∧ Pre σ s) ?_ fun e s hI => ?_
  ·refine w_x (cj5 E1 E3 E4 X1.get TT) (k := ?_)
   refine EC.wka (.cons (.refl _) .nil) (S_check_Clocks _ _ h109 _ _  ?_)
   refine w_y (cj5 E1 E3 E4 X1.get TT) (k := ?_)
   have q31 := cj5 E1 E3 E4 X1.get TT
   exact cw_n ⟨_, WkE.refl _, (xv q31), (xv q31), (xv q31), (xv q31), hP⟩
  obtain ⟨E3, E4, E9, E11, hP⟩ := hI
  refine w_assoc ?_
  refine w_sa (fun e s => e 3 = (.sl (List.map Clock.cl v3_18)) ∧ e 9 = (.sl (List.map Clock.cl y108.1)) ∧ e 11 = (.v (.int .i64 y108.2.2)) ∧ e 99 = (.v (.bool (!v4_19))) ∧ Pre σ s) ?_ fun e s hI => ?_
  ·refine w_x (cj5 E3 E4 E9 E11 TT) (k := ?_)
   have q32 := cj5 E3 E4 E9 E11 TT
   exact cw_n ⟨_, WkE.refl _, (xv q32), (xv q32), (xv q32), (xv q32), hP⟩
  obtain ⟨E3, E9, E11, E99, hP⟩ := hI
  refine w_seq ?_
  rcases ite_some h with ⟨hb110, h⟩ | ⟨hb110, h⟩
  ·refine xt (cj5 E3 E9 E11 E99 hb110) ?_
   refine w_sa (fun e s => e 2 = (.v (.bool ((!decide (y108.2.2 = (0 : Int))) && (decide (((List.length y108.1 : Nat) : Int) = (0 : Int)))))) ∧ Pre σ s) ?_ fun e s hI => ?_
   ·cases hb111 : (!decide (y108.2.2 = (0 : Int)))
    ·refine w_x (cj6 E3 E9 E11 E99 hb111 TT) (k := ?_)
     exact cw_n ⟨_, WkE.refl _, (xv (cj6 E3 E9 E11 E99 hb111 TT)), hP⟩
    ·refine w_x (cj6 E3 E9 E11 E99 hb111 TT) (k := ?_)
     exact cw_n ⟨_, WkE.refl _, (xv (cj6 E3 E9 E11 E99 hb111 TT)), hP⟩
   obtain ⟨E2, hP⟩ := hI
   refine w_ret ?_
   refine w_sqr ?_
   obtain rfl := some_inj h
   exact w_fin (fun _ => rfl) (xr (rs := #[.tmp 2]) E2) hP (r' := (.v (.bool ((!decide (y108.2.2 = (0 : Int))) && (decide (((List.length y108.1 : Nat) : Int) = (0 : Int))))))) (.refl _) (.v _) hK
  ·refine xf (cj5 E3 E9 E11 E99 hb110) ?_
   refine w_skip ?_
   refine w_sq ?_
   refine w_assoc ?_
   refine w_sa (fun e s => e 3 = (.sl (List.map Clock.cl v3_18)) ∧ e 9 = (.sl (List.map Clock.cl y108.1)) ∧ e 115 = (.v (.bool ((!decide (y108.2.2 = (0 : Int))) || (!decide (((List.length y108.1 : Nat) : Int) = ((List.length v3_18 : Nat) : Int)))))) ∧ Pre σ s) ?_ fun e s hI => ?_
   ·cases hb112 : (!decide (y108.2.2 = (0 : Int)))
    ·refine w_x (cj6 E3 E9 E11 E99 hb112 TT) (k := ?_)
     have q33 := cj6 E3 E9 E11 E99 hb112 TT
     exact cw_n ⟨_, WkE.refl _, (xv q33), (xv q33), (xv q33), hP⟩
    ·refine w_x (cj6 E3 E9 E11 E99 hb112 TT) (k := ?_)
     have q34 := cj6 E3 E9 E11 E99 hb112 TT
     exact cw_n ⟨_, WkE.refl _, (xv q34), (xv q34), (xv q34), hP⟩
   obtain ⟨E3, E9, E115, hP⟩ := hI
   refine w_seq ?_
   rcases ite_some h with ⟨hb113, h⟩ | ⟨hb113, h⟩
   ·refine xt (cj4 E3 E9 E115 hb113) ?_
    refine w_sa (fun e s => e 2 = (.v (.bool false)) ∧ Pre σ s) ?_ fun e s hI => ?_
    ·refine w_x (cj4 E3 E9 E115 TT) (k := ?_)
     exact cw_n ⟨_, WkE.refl _, (xv (cj4 E3 E9 E115 TT)), hP⟩
    obtain ⟨E2, hP⟩ := hI
    refine w_ret ?_
    refine w_sqr ?_
    obtain rfl := some_inj h
    exact w_fin (fun _ => rfl) (xr (rs := #[.tmp 2]) E2) hP (r' := (.v (.bool false))) (.refl _) (.v _) hK
   ·refine xf (cj4 E3 E9 E115 hb113) ?_
    refine w_skip ?_
    refine w_sq ?_
    refine w_assoc ?_
    refine w_sa (fun e s => e 3 = (.sl (List.map Clock.cl v3_18)) ∧ e 9 = (.sl (List.map Clock.cl y108.1)) ∧ e 12 = (.v (.int .i64 (0 : Int))) ∧ Pre σ s) ?_ fun e s hI => ?_
    ·refine w_x (cj4 E3 E9 E115 TT) (k := ?_)
     have q35 := cj4 E3 E9 E115 TT
     exact cw_n ⟨_, WkE.refl _, (xv q35), (xv q35), (xv q35), hP⟩
    obtain ⟨E3, E9, E12, hP⟩ := hI
    obtain ⟨x114, h115, h⟩ := bnd_some h
    refine w_sa (fun e s => .inr () = x114 ∧ Pre σ s) ?_ fun e s hI => ?_
    ·refine w_block ?_
     have q36 := cj3 E3 E9 E12
     refine w_iter h115 (fun v e s => ∃ v12_116 : Int, v12_116 = v ∧ e 3 = (.sl (List.map Clock.cl v3_18)) ∧ e 9 = (.sl (List.map Clock.cl y108.1)) ∧ e 12 = (.v (.int .i64 v12_116)) ∧ Pre σ s) ⟨_, WkE.refl _, _, rfl, (xv q36), (xv q36), (xv q36), hP⟩ fun v x117 e s hf118 hI => ?_
     obtain ⟨v12_116, rfl, E3, E9, E12, hP⟩ := hI
     unfold law06_CheckFinds_L2 at hf118
     try dsimp only at hf118
     refine w_assoc ?_
     refine w_sa (fun e s => e 3 = (.sl (List.map Clock.cl v3_18)) ∧ e 9 = (.sl (List.map Clock.cl y108.1)) ∧ e 12 = (.v (.int .i64 v12_116)) ∧ e 119 = (.v (.bool (decide (v12_116 < ((List.length y108.1 : Nat) : Int))))) ∧ Pre σ s) ?_ fun e s hI => ?_
     ·refine w_x (cj4 E3 E9 E12 TT) (k := ?_)
      have q37 := cj4 E3 E9 E12 TT
      exact cw_n ⟨_, WkE.refl _, (xv q37), (xv q37), (xv q37), (xv q37), hP⟩
     obtain ⟨E3, E9, E12, E119, hP⟩ := hI
     refine w_seq ?_
     rcases ite_some hf118 with ⟨hb119, hf118⟩ | ⟨hb119, hf118⟩
     ·refine xt (cj5 E3 E9 E12 E119 hb119) ?_
      refine w_skip ?_
      refine w_sq ?_
      obtain ⟨x120, h121, hf118⟩ := bnd_some hf118
      refine w_sa (fun e s => .inr () = x120 ∧ e 3 = (.sl (List.map Clock.cl v3_18)) ∧ e 9 = (.sl (List.map Clock.cl y108.1)) ∧ e 12 = (.v (.int .i64 v12_116)) ∧ Pre σ s) ?_ fun e s hI => ?_
      ·refine w_block ?_
       obtain ⟨y122, h123, h121⟩ := bnd_some h121
       obtain ⟨y124, h125, h121⟩ := bnd_some h121
       refine w_sa (fun e s => e 3 = (.sl (List.map Clock.cl v3_18)) ∧ e 9 = (.sl (List.map Clock.cl y108.1)) ∧ e 12 = (.v (.int .i64 v12_116)) ∧ e 130 = (.v (.bool (!(decide (y122.period = y124.period) && (decide (y122.phase = y124.phase)))))) ∧ Pre σ s) ?_ fun e s hI => ?_
       ·have R126 : (List.map Clock.cl y108.1)[(v12_116).toNat]? = some [(.v (.int .i64 y122.period)), (.v (.int .i64 y122.phase))] := map_get (getI_some h123).2
        have R127 : (List.map Clock.cl v3_18)[(v12_116).toNat]? = some [(.v (.int .i64 y124.period)), (.v (.int .i64 y124.phase))] := map_get (getI_some h125).2
        refine w_xp (cj9 E3 E9 E12 E119 R126 (getI_some h123).1 R127 (getI_some h125).1 TT) (k := ?_)
        have q38 := cj9 E3 E9 E12 E119 R126 (getI_some h123).1 R127 (getI_some h125).1 TT
        exact cw_n ⟨_, WkE.refl _, (xv q38), (xv q38), (xv q38), (xv q38), hP⟩
       obtain ⟨E3, E9, E12, E130, hP⟩ := hI
       rcases ite_some h121 with ⟨hb128, h121⟩ | ⟨hb128, h121⟩
       ·refine xt (cj5 E3 E9 E12 E130 hb128) ?_
        refine w_sa (fun e s => e 2 = (.v (.bool false)) ∧ Pre σ s) ?_ fun e s hI => ?_
        ·refine w_x (cj5 E3 E9 E12 E130 TT) (k := ?_)
         exact cw_n ⟨_, WkE.refl _, (xv (cj5 E3 E9 E12 E130 TT)), hP⟩
        obtain ⟨E2, hP⟩ := hI
        refine w_ret ?_
        refine w_bkr ?_
        obtain rfl := some_inj h121
        refine cw_r ?_
        try dsimp only at hf118
        obtain rfl := some_inj hf118
        refine iq_r rfl fun hr129 => ?_
        obtain rfl := hr129
        refine w_bkr ?_
        refine cw_r ?_
        try dsimp only at h
        obtain rfl := some_inj h
        exact w_fin (fun _ => rfl) (xr (rs := #[.tmp 2]) E2) hP (r' := (.v (.bool false))) (.refl _) (.v _) hK
       ·refine xf (cj5 E3 E9 E12 E130 hb128) ?_
        refine w_skip ?_
        refine w_bk ?_
        obtain rfl := some_inj h121
        have q39 := cj4 E3 E9 E12 E130
        exact cw_n ⟨_, WkE.refl _, rfl, (xv q39), (xv q39), (xv q39), hP⟩
      obtain ⟨rfl, E3, E9, E12, hP⟩ := hI
      try dsimp only at hf118
      refine w_x (cj4 E3 E9 E12 TT) (k := ?_)
      obtain rfl := some_inj hf118
      have q40 := cj4 E3 E9 E12 TT
      exact iq_n rfl ⟨_, WkE.refl _, _, rfl, (xv q40), (xv q40), (xv q40), hP⟩
     ·refine xf (cj5 E3 E9 E12 E119 hb119) ?_
      refine w_exit ?_
      refine w_sqx ?_
      obtain rfl := some_inj hf118
      refine iq_x rfl fun hr130 => ?_
      obtain rfl := hr130
      refine w_bkx ?_
      exact cw_n ⟨_, WkE.refl _, rfl, hP⟩
    obtain ⟨rfl, hP⟩ := hI
    try dsimp only at h
    refine w_sa (fun e s => e 2 = (.v (.bool true)) ∧ Pre σ s) ?_ fun e s hI => ?_
    ·refine w_x Expr.rlen (k := ?_)
     exact cw_n ⟨_, WkE.refl _, (xv Expr.rlen), hP⟩
    obtain ⟨E2, hP⟩ := hI
    refine w_ret ?_
    obtain rfl := some_inj h
    exact w_fin (fun _ => rfl) (xr (rs := #[.tmp 2]) E2) hP (r' := (.v (.bool true))) (.refl _) (.v _) hK
end Go.Proofs.Ytohmmfimedgccaa.E
end
section
namespace Go.Proofs.Ytohmmfimedgccaa.E
set_option linter.unusedVariables false
set_option linter.unusedSimpArgs false
set_option maxRecDepth 10000
def ahS (p : Program) (i : Nat) (e : Expr) : Prop := ∀ y ∈ subsE e, y.kind = 1 → ∀ q, m_rflow p y.name = some q → q < ((p.inputs.length + i : Nat) : Int)
theorem leafS {p : Program} (hS : NamesS p) {f : Flow} (hf : f ∈ p.flows) {y : Expr} (hy : y ∈ subsE f.e) (k : y.kind = 1) : y.name ∈ names p := by
 have h1 := (hS.flow f hf y hy).1
 exact Classical.not_not.1 fun h => h1 ⟨k, flS_zero.2 h⟩
theorem ahS.looks {p : Program} (hf : p.fit) (hS : NamesS p) {i : Nat} {f : Flow} (hm : f ∈ p.flows) (h : ahS p i f.e) : Looks p i f.e := fun y hy k => by
 have hall := hf.all
 obtain ⟨r, h1, h2⟩ := t_rflow (p := p) (by omega) y.name
 refine ⟨r, h1, ?_, h y hy k r h1⟩
 rcases h2 with ⟨m, rfl, _⟩ | ⟨_, h2⟩
 ·omega
 ·exact absurd (leafS hS hm hy k) h2
theorem ahS.ord {p : Program} (hf : p.fit) (hS : NamesS p) (h : ∀ i f, p.flows[i]? = some f → ahS p i f.e) : Ord p := fun i f hi y hy k => by
 have hall := hf.all
 have hm := List.mem_of_getElem? hi
 obtain ⟨r, h1, h2⟩ := t_rflow (p := p) (by omega) y.name
 have h3 := h i f hi y hy k r h1
 rcases h2 with ⟨m, rfl, h4, _⟩ | ⟨_, h2⟩
 ·have hil : (inames p).length = p.inputs.length := by simp [inames]
  unfold names at h4
  by_cases hlt : m < p.inputs.length
  ·rw [List.getElem?_append_left (by omega)] at h4
   exact .inl (List.mem_of_getElem? h4)
  ·rw [List.getElem?_append_right (by omega), hil] at h4
   unfold fnames at h4
   rw [List.getElem?_map] at h4
   cases hg : p.flows[m - p.inputs.length]? with
   | none => rw [hg] at h4; cases h4
   | some g =>
    rw [hg] at h4
    exact .inr ⟨m - p.inputs.length, g, by omega, hg, Option.some.inj h4⟩
 ·exact absurd (leafS hS hm hy k) h2
theorem env_in {p : Program} (hf : p.fit) (hS : NamesS p) (l : List Clock) {x : Input} (hx : x ∈ p.inputs) : envL p l x.name = ⟨x.period, x.phase⟩ := by
 have hall := hf.all
 obtain ⟨i, hi⟩ := List.getElem?_of_mem hx
 have hi' := (List.getElem?_eq_some_iff.1 hi).1
 obtain ⟨r, h1, h2⟩ := t_rflow (p := p) (by omega) x.name
 have he : p.inputs[i] = x := (List.getElem?_eq_some_iff.1 hi).2
 have hn := names_lo hi'
 rw [he] at hn
 have hr : r = (i : Int) := (h2.eq hn).2 fun j hj h => nodup_ix.1 hS.flows i (by
  have := names_len p
  unfold names at this
  omega) j hj (by unfold names at h hn; rw [h, hn])
 subst hr
 unfold envL
 simp only [h1]
 rw [if_pos (by omega), show ((i : Int)).toNat = i by omega, hi]
 rfl
theorem env_fl {p : Program} (hf : p.fit) (hS : NamesS p) (l : List Clock) {j : Nat} {f : Flow} (hj : p.flows[j]? = some f) {c : Clock} (hc : l[j]? = some c) : envL p l f.name = c := by
 have hall := hf.all
 have hj' := (List.getElem?_eq_some_iff.1 hj).1
 obtain ⟨r, h1, h2⟩ := t_rflow (p := p) (by omega) f.name
 have he : p.flows[j] = f := (List.getElem?_eq_some_iff.1 hj).2
 have hn := names_hi hj'
 rw [he] at hn
 have hr : r = ((p.inputs.length + j : Nat) : Int) := (h2.eq hn).2 fun i hi h => nodup_ix.1 hS.flows (p.inputs.length + j) (by
  have := names_len p
  unfold names at this
  omega) i hi (by unfold names at h hn; rw [h, hn])
 subst hr
 unfold envL
 simp only [h1]
 rw [if_neg (by omega), show (((p.inputs.length + j : Nat) : Int) - (p.inputs.length : Int)).toNat = j by omega, hc]
 rfl
theorem env_app {p : Program} {m : Nat} {l : List Clock} (hl : l.length = m) (c : Clock) {e : Expr} (hb : Looks p m e) : ∀ y ∈ subsE e, y.kind = 1 → envL p l y.name = envL p (l ++ [c]) y.name := fun y hy k => by
 obtain ⟨r, h1, h2, h3⟩ := hb y hy k
 unfold envL
 simp only [h1]
 by_cases hlt : r < (p.inputs.length : Int)
 ·rw [if_pos hlt, if_pos hlt]
 ·rw [if_neg hlt, if_neg hlt, List.getElem?_append_left (by omega)]
theorem Looks.mono {p : Program} {m n : Nat} {e : Expr} (h : Looks p m e) (hmn : m ≤ n) : Looks p n e := fun y hy k => by
 obtain ⟨r, h1, h2, h3⟩ := h y hy k
 exact ⟨r, h1, h2, by omega⟩
def Upto (p : Program) (l : List Clock) (n : Nat) : Prop := ∀ j, j < n → ∀ f, p.flows[j]? = some f → ahS p j f.e ∧ ∃ c, l[j]? = some c ∧ RefC (envL p l) f.e c
noncomputable def m_finds := B_law06_CheckFinds m_awake m_read m_rnames m_ahead m_rclock m_clocks
theorem s_finds : Sat_law06_CheckFinds m_finds := W_law06_CheckFinds _ _ _ _ _ _ s_awake s_read s_rnames s_ahead s_rclock s_clocks
theorem env_good {p : Program} (hf : p.fit) (hS : NamesS p) {l : List Clock} {ρ : ByteArray → Clock} (hg : GoodC p ρ) {n : Nat} {e : Expr} (hb : Looks p n e) (h : ∀ i, i < n → ∀ g, p.flows[i]? = some g → ∃ d, l[i]? = some d ∧ ρ g.name = d) : ∀ y ∈ subsE e, y.kind = 1 → envL p l y.name = ρ y.name := fun y hy k => by
 have hall := hf.all
 obtain ⟨r, h1, h2, h3⟩ := hb y hy k
 obtain ⟨r', h1', h4⟩ := t_rflow (p := p) (by omega) y.name
 rw [h1] at h1'
 cases h1'
 rcases h4 with ⟨m, rfl, h4, _⟩ | ⟨h4, _⟩
 ·have hil : (inames p).length = p.inputs.length := by simp [inames]
  unfold names at h4
  by_cases hlt : m < p.inputs.length
  ·rw [List.getElem?_append_left (by omega)] at h4
   obtain ⟨x, hx, he⟩ := List.mem_map.1 (List.mem_of_getElem? h4)
   rw [← he, env_in hf hS l hx, hg.1 x hx]
  ·rw [List.getElem?_append_right (by omega), hil] at h4
   unfold fnames at h4
   rw [List.getElem?_map] at h4
   cases hgi : p.flows[m - p.inputs.length]? with
   | none => rw [hgi] at h4; cases h4
   | some g =>
    rw [hgi] at h4
    have he : g.name = y.name := Option.some.inj h4
    obtain ⟨d, hd, hρ⟩ := h (m - p.inputs.length) (by omega) g hgi
    rw [← he, env_fl hf hS l hgi hd, hρ]
 ·omega
theorem good_at {p : Program} (hf : p.fit) (hS : NamesS p) {l : List Clock} {n : Nat} (hl : l.length = n) (hu : Upto p l n) {ρ : ByteArray → Clock} (hg : GoodC p ρ) : ∀ j, j < n → ∀ f, p.flows[j]? = some f → ∃ c, l[j]? = some c ∧ ρ f.name = c := by
 intro j
 induction j using Nat.strongRecOn with
 | ind j ih =>
  intro hj f hfj
  obtain ⟨ha, c, hc, hr⟩ := hu j hj f hfj
  refine ⟨c, hc, ?_⟩
  have hm := List.mem_of_getElem? hfj
  exact RefC.det (hg.2 f hm) (hr.congr (env_good hf hS hg (ha.looks hf hS hm) fun i hi g hgi => by
   obtain ⟨d, hd, he⟩ := ih i hi (by omega) g hgi
   exact ⟨d, hd, he⟩))
theorem Upto.app {p : Program} (hf : p.fit) (hS : NamesS p) {l : List Clock} {i : Nat} (hl : l.length = i) (hu : Upto p l i) {f : Flow} (hi : p.flows[i]? = some f) (ha : ahS p i f.e) {c : Clock} (hc : RefC (envL p l) f.e c) : Upto p (l ++ [c]) (i + 1) := fun j hj g hg => by
 by_cases hji : j < i
 ·obtain ⟨h1, d, h2, h3⟩ := hu j hji g hg
  refine ⟨h1, d, ?_, h3.congr (env_app hl c ((h1.looks hf hS (List.mem_of_getElem? hg)).mono (by omega)))⟩
  rw [List.getElem?_append_left (by omega)]
  exact h2
 ·obtain rfl : j = i := by omega
  rw [hi] at hg
  cases hg
  refine ⟨ha, c, ?_, hc.congr (env_app hl c (ha.looks hf hS (List.mem_of_getElem? hi)))⟩
  rw [List.getElem?_append_right (by omega), hl]
  simp
def BadAt (p : Program) (l : List Clock) (i : Nat) : Prop := ∃ (n : Nat) (f : Flow) (l0 : List Clock) (c : Clock), i = n + 1 ∧ l = l0 ++ [c] ∧ l0.length = n ∧ p.flows[n]? = some f ∧ ahS p n f.e ∧ Upto p l0 n ∧ ¬ ∃ d, RefC (envL p l0) f.e d
theorem t_ahS {p : Program} (hf : p.fit) {i : Nat} (hi : i < p.flows.length) : ∃ b, m_ahead p p.flows[i].e (IntKind.i64.wrap ((p.inputs.length : Int) + (i : Int))) = some b ∧ (b = true ↔ ahS p i p.flows[i].e) := by
 have hall := hf.all
 have hw : IntKind.i64.wrap ((p.inputs.length : Int) + (i : Int)) = ((p.inputs.length + i : Nat) : Int) := by
  rw [wrap_i (by omega) (by omega)]; omega
 rw [hw]
 have hsz := (hf.flow _ (List.getElem_mem hi)).size
 obtain ⟨b, h1, _, h2⟩ := t_ahead (p := p) (by omega) ((p.inputs.length + i : Nat) : Int) p.flows[i].e (by omega)
 exact ⟨b, h1, h2⟩
theorem t_l0 {p : Program} (hf : p.fit) (hS : NamesS p) : ∃ r, iterO (law06_CheckFinds_L0 p m_ahead m_rclock) (([] : List Clock), true, (0 : Int)) = some r ∧ (r = .inl true ∨ ∃ l ok, r = .inr (l, ok) ∧ ((ok = true ∧ l.length = p.flows.length ∧ Upto p l p.flows.length) ∨ (ok = false ∧ ∃ i, BadAt p l i))) := by
 have hall := hf.all
 have hbig : (40 : Nat) ≤ maxLen := by unfold maxLen; decide
 refine iter_idx (f := law06_CheckFinds_L0 p m_ahead m_rclock) (fun i v => v.2.2 = (i : Int) ∧ ((v.2.1 = true ∧ v.1.length = i ∧ Upto p v.1 i) ∨ (v.2.1 = false ∧ BadAt p v.1 i))) p.flows.length
  (fun r : Bool ⊕ (List Clock × Bool) => r = .inl true ∨ ∃ l ok, r = .inr (l, ok) ∧ ((ok = true ∧ l.length = p.flows.length ∧ Upto p l p.flows.length) ∨ (ok = false ∧ ∃ i, BadAt p l i))) (fun i v hi hv => ?_) (fun v hv => ?_) ⟨rfl, .inl ⟨rfl, rfl, fun j hj => by omega⟩⟩
 ·obtain ⟨l, ok, _⟩ := v
  obtain ⟨rfl, hv⟩ := hv
  simp only at hv
  unfold law06_CheckFinds_L0
  rcases hv with ⟨rfl, hl, hu⟩ | ⟨rfl, hb⟩
  ·obtain ⟨b, ha1, ha2⟩ := t_ahS hf hi
   simp only [dlt hi, Bool.and_true, if_true, getI_at hi, ha1, Option.bind_some]
   cases b with
   | false => exact .inr ⟨_, rfl, .inl rfl⟩
   | true =>
    have ha := ha2.1 rfl
    have hmem := List.getElem_mem hi
    have hat := List.getElem?_eq_getElem hi
    obtain ⟨⟨c, b⟩, hc, q1, q2⟩ := t_rclock (p := p) (l := l) (by omega) (by omega) p.flows[i].e (hf.flow _ hmem).e (by rw [hl]; exact ha.looks hf hS hmem)
    have hap1 : appO 16 ([] : List Clock) l = some l := by
     unfold appO
     rw [if_pos (by simp only [List.length_nil]; omega)]
     rfl
    have hap2 : appO 16 l [c] = some (l ++ [c]) := by
     unfold appO
     rw [if_pos (by simp only [List.length_cons, List.length_nil]; omega)]
    simp only at q1 q2
    simp only [Bool.not_true, Bool.false_eq_true, if_false, hc, hap1, hap2, Option.bind_some]
    refine .inl ⟨_, rfl, winc hi (by omega), ?_⟩
    cases b with
    | true => exact .inl ⟨rfl, by simp [hl], hu.app hf hS hl hat ha (q1 rfl)⟩
    | false => exact .inr ⟨rfl, i, _, l, c, rfl, rfl, hl, hat, ha, hu, fun h => by have := q2 h; cases this⟩
  ·simp only [Bool.and_false, Bool.false_eq_true, if_false]
   exact .inr ⟨_, rfl, .inr ⟨_, _, rfl, .inr ⟨rfl, _, hb⟩⟩⟩
 ·obtain ⟨l, ok, _⟩ := v
  obtain ⟨rfl, hv⟩ := hv
  simp only at hv
  unfold law06_CheckFinds_L0
  simp only [dge, Bool.false_and, Bool.false_eq_true, if_false]
  refine ⟨_, rfl, .inr ⟨_, _, rfl, ?_⟩⟩
  rcases hv with ⟨rfl, hl, hu⟩ | ⟨rfl, hb⟩
  ·exact .inl ⟨rfl, hl, hu⟩
  ·exact .inr ⟨rfl, _, hb⟩
theorem t_l1 {p : Program} (hf : p.fit) {k : Nat} (hk : k ≤ p.flows.length) : ∃ r, iterO (law06_CheckFinds_L1 p m_ahead) (k : Int) = some r ∧ (r = .inl true ∨ (r = .inr () ∧ ∀ j, k ≤ j → ∀ f, p.flows[j]? = some f → ahS p j f.e)) := by
 have hall := hf.all
 have hbig : (40 : Nat) ≤ maxLen := by unfold maxLen; decide
 refine iter_idx (f := law06_CheckFinds_L1 p m_ahead) (fun i v => v = ((k + i : Nat) : Int) ∧ ∀ j, k ≤ j → j < k + i → ∀ f, p.flows[j]? = some f → ahS p j f.e) (p.flows.length - k)
  (fun r : Bool ⊕ Unit => r = .inl true ∨ (r = .inr () ∧ ∀ j, k ≤ j → ∀ f, p.flows[j]? = some f → ahS p j f.e)) (fun i v hi hv => ?_) (fun v hv => ?_) ⟨rfl, fun j h1 h2 => by omega⟩
 ·obtain ⟨rfl, hv⟩ := hv
  unfold law06_CheckFinds_L1
  have hi' : k + i < p.flows.length := by omega
  obtain ⟨b, ha1, ha2⟩ := t_ahS hf hi'
  simp only [dlt hi', if_true, getI_at hi', ha1, Option.bind_some]
  cases b with
  | false => exact .inr ⟨_, rfl, .inl rfl⟩
  | true =>
   refine .inl ⟨_, rfl, winc hi' (by omega), fun j h1 h2 f hfj => ?_⟩
   by_cases hji : j < k + i
   ·exact hv j h1 hji f hfj
   ·obtain rfl : j = k + i := by omega
    rw [List.getElem?_eq_getElem hi'] at hfj
    cases hfj
    exact ha2.1 rfl
 ·obtain ⟨rfl, hv⟩ := hv
  unfold law06_CheckFinds_L1
  have : ¬ ((k + (p.flows.length - k) : Nat) : Int) < (p.flows.length : Int) := by omega
  simp only [decide_eq_false this, Bool.false_eq_true, if_false]
  exact ⟨_, rfl, .inr ⟨rfl, fun j h1 f hfj => hv j h1 (by have := (List.getElem?_eq_some_iff.1 hfj).1; omega) f hfj⟩⟩
theorem t_l2 {l : List Clock} {a e : Int} (hl : l.length ≤ 40) : iterO (law06_CheckFinds_L2 l (l, a, e)) (0 : Int) = some (.inr ()) := by
 have hbig : (40 : Nat) ≤ maxLen := by unfold maxLen; decide
 obtain ⟨r, h1, h2⟩ := iter_idx (f := law06_CheckFinds_L2 l (l, a, e)) (fun i v => v = (i : Int)) l.length (fun r : Bool ⊕ Unit => r = .inr ()) (fun i v hi hv => by
  subst hv
  unfold law06_CheckFinds_L2
  simp only [dlt hi, if_true, getI_at hi, Option.bind_some, decide_true, Bool.and_self, Bool.not_true, Bool.false_eq_true, if_false]
  exact .inl ⟨_, rfl, winc hi (by omega)⟩) (fun v hv => by
  subst hv
  unfold law06_CheckFinds_L2
  simp only [dge, Bool.false_eq_true, if_false]
  exact ⟨_, rfl, rfl⟩) (v0 := (0 : Int)) rfl
 rw [h1, h2]
theorem v_finds (p : Program) (hok : p.ok) : m_finds p = some true := by
 unfold m_finds B_law06_CheckFinds
 obtain ⟨r, h1, h2⟩ := t_read p hok
 rw [v_awake]
 simp only [Option.bind_some, Bool.not_true, Bool.false_eq_true, if_false, h1, Bool.false_or]
 cases r with
 | false => rfl
 | true =>
  have hf := h2 rfl
  have hall := hf.all
  obtain ⟨b, h5, h6⟩ := t_rnames hf
  simp only [Bool.not_true, Bool.false_eq_true, if_false, h5, Option.bind_some]
  cases b with
  | false => rfl
  | true =>
   have hS := h6.1 rfl
   simp only [Bool.not_true, Bool.false_eq_true, if_false]
   obtain ⟨r0, g0, k0⟩ := t_l0 hf hS
   rw [g0]
   rcases k0 with rfl | ⟨l, ok, rfl, k0⟩
   ·rfl
   simp only [Option.bind_some]
   have hlen : l.length ≤ p.flows.length := by
    rcases k0 with ⟨_, h, _⟩ | ⟨_, i, n, f, l0, c, _, rfl, h, hn, _⟩
    ·omega
    ·have := (List.getElem?_eq_some_iff.1 hn).1
     simp only [List.length_append, List.length_cons, List.length_nil]
     omega
   obtain ⟨r1, g1, k1⟩ := t_l1 hf hlen
   rw [g1]
   rcases k1 with rfl | ⟨rfl, k1⟩
   ·rfl
   simp only [Option.bind_some]
   obtain ⟨cs, a, e, g2, c1, c2, c3, c4⟩ := t_clocks hf hS
   rw [g2]
   simp only [Option.bind_some]
   rcases k0 with ⟨rfl, hl, hu⟩ | ⟨rfl, i, n, f, l0, c, _, rfl, hl0, hn, ha, hu, hno⟩
   ·have hG : GoodC p (envL p l) := ⟨fun x hx => env_in hf hS l hx, fun f hff => by
     obtain ⟨j, hj⟩ := List.getElem?_of_mem hff
     obtain ⟨_, c, hc, hr⟩ := hu j (List.getElem?_eq_some_iff.1 hj).1 f hj
     rw [env_fl hf hS l hj hc]
     exact hr⟩
    have hO : Ord p := ahS.ord hf hS fun j f hj => (hu j (List.getElem?_eq_some_iff.1 hj).1 f hj).1
    obtain ⟨rfl, hcs⟩ := c4 hO _ hG
    have : cs = l := by
     rw [hcs]
     refine List.ext_getElem? fun j => ?_
     rw [List.getElem?_map]
     cases hj : p.flows[j]? with
     | none =>
      have := List.getElem?_eq_none_iff.1 hj
      exact (List.getElem?_eq_none_iff.2 (by omega)).symm
     | some f =>
      obtain ⟨_, c, hc, hr⟩ := hu j (List.getElem?_eq_some_iff.1 hj).1 f hj
      rw [hc, Option.map_some, env_fl hf hS l hj hc]
    subst this
    simp only [Bool.not_true, Bool.false_eq_true, if_false, decide_true, Bool.or_self]
    rw [t_l2 (by omega)]
    rfl
   ·have he : e ≠ 0 := fun h => by
     obtain ⟨ρ, hg, _⟩ := c3 h
     have hm := List.mem_of_getElem? hn
     exact hno ⟨_, (hg.2 f hm).congr fun y hy k => (env_good hf hS hg (ha.looks hf hS hm) (good_at hf hS hl0 hu hg) y hy k).symm⟩
    rw [c2 he]
    simp [he]
end Go.Proofs.Ytohmmfimedgccaa.E
end
section
namespace Go.Proofs.Ytohmmfimedgccaa.E
set_option linter.unusedVariables false
set_option linter.unusedSimpArgs false
set_option maxRecDepth 100000
section
variable {P : Go.Program} {t e : TypeId}
theorem RO.congr {α : Type} {f g : α → List PV} {G : α → Prop} {n : Nat} (h : RO P t f G n) (hf : ∀ x, g x = f x) : RO P t g G n := fun H enc w base spare held m hm cs r hr hw => let ⟨x, h1, h2⟩ := h H enc w base spare held m hm cs r hr hw; ⟨x, by rw [hf]; exact h1, h2⟩
theorem ro_zero {α : Type} (f : α → List PV) (G : α → Prop) : RO P t f G 0 := by
 intro H enc w base spare held m hm cs r hr
 obtain rfl : m = 0 := by omega
 simp [DataW.trod] at hr
theorem ro_i64 (ht : P.underlying t = some (.int .i64)) (n : Nat) : RO P t (fun x : Int => [.v (.int .i64 x)]) (fun x => I64 x) n := (ro_int ht n).imp fun x h => by
 simp only [Lit.wf, Bool.and_eq_true, decide_eq_true_eq, IntKind.min, IntKind.max, IntKind.signed, IntKind.bits, if_true, Bool.false_eq_true, if_false] at h
 unfold I64
 omega
theorem ro_str (ht : P.underlying t = some .string) (n : Nat) : RO P t (fun x : ByteArray => [.v (.string x)]) (fun x => ByteArray.size x ≤ 140737488351232) n := ro_string ht n
theorem ro_sl {α : Type} {f : α → List PV} {G : α → Prop} {n sz B : Nat} (ht : P.underlying t = some (.slice e)) (hsz : P.cellsOf e = sz) (hb : P.bytesOf e = B) (hf : ∀ x, (f x).length = sz) (h : RO P e f G n) : RO P t (fun xs : List α => [.sl (xs.map f)]) (fun xs => xs.length * B ≤ 140737488351232 ∧ ∀ x ∈ xs, G x) (n + 1) := by
 subst hb
 exact ro_slice ht hsz hf h
end
theorem ro_Expr : ∀ n, RO Try.prog 39 Expr.cl Expr.ok n
 | 0 => ro_zero _ _
 | n + 1 => (ro_struct (f := (fun x : Int × ByteArray × Int × Int × (List Expr) × Int => (fun x : Int => [(PV.v (.int .i64 x))]) x.1 ++ (fun x : ByteArray × Int × Int × (List Expr) × Int => (fun x : ByteArray => [(PV.v (.string x))]) x.1 ++ (fun x : Int × Int × (List Expr) × Int => (fun x : Int => [(PV.v (.int .i64 x))]) x.1 ++ (fun x : Int × (List Expr) × Int => (fun x : Int => [(PV.v (.int .i64 x))]) x.1 ++ (fun x : (List Expr) × Int => (fun x : (List Expr) => [(PV.sl (Expr.rows x))]) x.1 ++ (fun x : Int => [(PV.v (.int .i64 x))]) x.2) x.2) x.2) x.2) x.2)) (G := (fun x : Int × ByteArray × Int × Int × (List Expr) × Int => (fun x : Int => I64 x) x.1 ∧ (fun x : ByteArray × Int × Int × (List Expr) × Int => (fun x : ByteArray => ByteArray.size x ≤ 140737488351232) x.1 ∧ (fun x : Int × Int × (List Expr) × Int => (fun x : Int => I64 x) x.1 ∧ (fun x : Int × (List Expr) × Int => (fun x : Int => I64 x) x.1 ∧ (fun x : (List Expr) × Int => (fun x : (List Expr) => List.length x * 72 ≤ 140737488351232 ∧ ∀ y ∈ x, Expr.ok y) x.1 ∧ (fun x : Int => I64 x) x.2) x.2) x.2) x.2) x.2)) (fun y : Int × ByteArray × Int × Int × (List Expr) × Int => (⟨y.1, y.2.1, y.2.2.1, y.2.2.2.1, y.2.2.2.2.1, y.2.2.2.2.2⟩ : Expr)) (fun _ => rfl) Try.underlying39 (rf_cons (o' := 1) (f := (fun x : Int => [(PV.v (.int .i64 x))])) (f' := (fun x : ByteArray × Int × Int × (List Expr) × Int => (fun x : ByteArray => [(PV.v (.string x))]) x.1 ++ (fun x : Int × Int × (List Expr) × Int => (fun x : Int => [(PV.v (.int .i64 x))]) x.1 ++ (fun x : Int × (List Expr) × Int => (fun x : Int => [(PV.v (.int .i64 x))]) x.1 ++ (fun x : (List Expr) × Int => (fun x : (List Expr) => [(PV.sl (Expr.rows x))]) x.1 ++ (fun x : Int => [(PV.v (.int .i64 x))]) x.2) x.2) x.2) x.2)) (G := (fun x : Int => I64 x)) (G' := (fun x : ByteArray × Int × Int × (List Expr) × Int => (fun x : ByteArray => ByteArray.size x ≤ 140737488351232) x.1 ∧ (fun x : Int × Int × (List Expr) × Int => (fun x : Int => I64 x) x.1 ∧ (fun x : Int × (List Expr) × Int => (fun x : Int => I64 x) x.1 ∧ (fun x : (List Expr) × Int => (fun x : (List Expr) => List.length x * 72 ≤ 140737488351232 ∧ ∀ y ∈ x, Expr.ok y) x.1 ∧ (fun x : Int => I64 x) x.2) x.2) x.2) x.2)) rfl (by kernel_rfl) (ro_i64 Try.underlying3 n) (rf_cons (o' := 2) (f := (fun x : ByteArray => [(PV.v (.string x))])) (f' := (fun x : Int × Int × (List Expr) × Int => (fun x : Int => [(PV.v (.int .i64 x))]) x.1 ++ (fun x : Int × (List Expr) × Int => (fun x : Int => [(PV.v (.int .i64 x))]) x.1 ++ (fun x : (List Expr) × Int => (fun x : (List Expr) => [(PV.sl (Expr.rows x))]) x.1 ++ (fun x : Int => [(PV.v (.int .i64 x))]) x.2) x.2) x.2)) (G := (fun x : ByteArray => ByteArray.size x ≤ 140737488351232)) (G' := (fun x : Int × Int × (List Expr) × Int => (fun x : Int => I64 x) x.1 ∧ (fun x : Int × (List Expr) × Int => (fun x : Int => I64 x) x.1 ∧ (fun x : (List Expr) × Int => (fun x : (List Expr) => List.length x * 72 ≤ 140737488351232 ∧ ∀ y ∈ x, Expr.ok y) x.1 ∧ (fun x : Int => I64 x) x.2) x.2) x.2)) rfl (by kernel_rfl) (ro_str Try.underlying9 n) (rf_cons (o' := 3) (f := (fun x : Int => [(PV.v (.int .i64 x))])) (f' := (fun x : Int × (List Expr) × Int => (fun x : Int => [(PV.v (.int .i64 x))]) x.1 ++ (fun x : (List Expr) × Int => (fun x : (List Expr) => [(PV.sl (Expr.rows x))]) x.1 ++ (fun x : Int => [(PV.v (.int .i64 x))]) x.2) x.2)) (G := (fun x : Int => I64 x)) (G' := (fun x : Int × (List Expr) × Int => (fun x : Int => I64 x) x.1 ∧ (fun x : (List Expr) × Int => (fun x : (List Expr) => List.length x * 72 ≤ 140737488351232 ∧ ∀ y ∈ x, Expr.ok y) x.1 ∧ (fun x : Int => I64 x) x.2) x.2)) rfl (by kernel_rfl) (ro_i64 Try.underlying2 n) (rf_cons (o' := 4) (f := (fun x : Int => [(PV.v (.int .i64 x))])) (f' := (fun x : (List Expr) × Int => (fun x : (List Expr) => [(PV.sl (Expr.rows x))]) x.1 ++ (fun x : Int => [(PV.v (.int .i64 x))]) x.2)) (G := (fun x : Int => I64 x)) (G' := (fun x : (List Expr) × Int => (fun x : (List Expr) => List.length x * 72 ≤ 140737488351232 ∧ ∀ y ∈ x, Expr.ok y) x.1 ∧ (fun x : Int => I64 x) x.2)) rfl (by kernel_rfl) (ro_i64 Try.underlying2 n) (rf_cons (o' := 5) (f := (fun x : (List Expr) => [(PV.sl (Expr.rows x))])) (f' := (fun x : Int => [(PV.v (.int .i64 x))])) (G := (fun x : (List Expr) => List.length x * 72 ≤ 140737488351232 ∧ ∀ y ∈ x, Expr.ok y)) (G' := (fun x : Int => I64 x)) rfl (by kernel_rfl) (RO.congr (RO.down (ro_sl (B := 72) (sz := 6) Try.underlying37 (by kernel_rfl) (by kernel_rfl) (fun _ => rfl) (ro_Expr n)) (Nat.le_succ _)) (fun x => by rw [Expr.rows_eq])) (rf_last (f := (fun x : Int => [(PV.v (.int .i64 x))])) (G := (fun x : Int => I64 x)) rfl (by kernel_rfl) (ro_i64 Try.underlying3 n)))))))).imp fun x ⟨y, hy, hg⟩ => by
  subst hy
  exact .mk hg.1 hg.2.1 hg.2.2.1 hg.2.2.2.1 hg.2.2.2.2.1.1 hg.2.2.2.2.1.2 hg.2.2.2.2.2
theorem ro_Node (n : Nat) : RO Try.prog 99 Node.cl Node.ok n := RO.down ((ro_struct (f := (fun x : ByteArray × (List ByteArray) × Int × Expr × Int => (fun x : ByteArray => [(PV.v (.string x))]) x.1 ++ (fun x : (List ByteArray) × Int × Expr × Int => (fun x : (List ByteArray) => [(PV.sl (List.map C_s x))]) x.1 ++ (fun x : Int × Expr × Int => (fun x : Int => [(PV.v (.int .i64 x))]) x.1 ++ (fun x : Expr × Int => Expr.cl x.1 ++ (fun x : Int => [(PV.v (.int .i64 x))]) x.2) x.2) x.2) x.2)) (G := (fun x : ByteArray × (List ByteArray) × Int × Expr × Int => (fun x : ByteArray => ByteArray.size x ≤ 140737488351232) x.1 ∧ (fun x : (List ByteArray) × Int × Expr × Int => (fun x : (List ByteArray) => List.length x * 16 ≤ 140737488351232 ∧ ∀ y ∈ x, ByteArray.size y ≤ 140737488351232) x.1 ∧ (fun x : Int × Expr × Int => (fun x : Int => I64 x) x.1 ∧ (fun x : Expr × Int => Expr.ok x.1 ∧ (fun x : Int => I64 x) x.2) x.2) x.2) x.2)) (fun y : ByteArray × (List ByteArray) × Int × Expr × Int => (⟨y.1, y.2.1, y.2.2.1, y.2.2.2.1, y.2.2.2.2⟩ : Node)) (fun _ => rfl) Try.underlying99 (rf_cons (o' := 1) (f := (fun x : ByteArray => [(PV.v (.string x))])) (f' := (fun x : (List ByteArray) × Int × Expr × Int => (fun x : (List ByteArray) => [(PV.sl (List.map C_s x))]) x.1 ++ (fun x : Int × Expr × Int => (fun x : Int => [(PV.v (.int .i64 x))]) x.1 ++ (fun x : Expr × Int => Expr.cl x.1 ++ (fun x : Int => [(PV.v (.int .i64 x))]) x.2) x.2) x.2)) (G := (fun x : ByteArray => ByteArray.size x ≤ 140737488351232)) (G' := (fun x : (List ByteArray) × Int × Expr × Int => (fun x : (List ByteArray) => List.length x * 16 ≤ 140737488351232 ∧ ∀ y ∈ x, ByteArray.size y ≤ 140737488351232) x.1 ∧ (fun x : Int × Expr × Int => (fun x : Int => I64 x) x.1 ∧ (fun x : Expr × Int => Expr.ok x.1 ∧ (fun x : Int => I64 x) x.2) x.2) x.2)) rfl (by kernel_rfl) (ro_str Try.underlying9 n) (rf_cons (o' := 2) (f := (fun x : (List ByteArray) => [(PV.sl (List.map C_s x))])) (f' := (fun x : Int × Expr × Int => (fun x : Int => [(PV.v (.int .i64 x))]) x.1 ++ (fun x : Expr × Int => Expr.cl x.1 ++ (fun x : Int => [(PV.v (.int .i64 x))]) x.2) x.2)) (G := (fun x : (List ByteArray) => List.length x * 16 ≤ 140737488351232 ∧ ∀ y ∈ x, ByteArray.size y ≤ 140737488351232)) (G' := (fun x : Int × Expr × Int => (fun x : Int => I64 x) x.1 ∧ (fun x : Expr × Int => Expr.ok x.1 ∧ (fun x : Int => I64 x) x.2) x.2)) rfl (by kernel_rfl) (RO.down (ro_sl (B := 16) (sz := 1) Try.underlying97 (by kernel_rfl) (by kernel_rfl) (fun _ => rfl) (ro_str Try.underlying9 n)) (Nat.le_succ _)) (rf_cons (o' := 3) (f := (fun x : Int => [(PV.v (.int .i64 x))])) (f' := (fun x : Expr × Int => Expr.cl x.1 ++ (fun x : Int => [(PV.v (.int .i64 x))]) x.2)) (G := (fun x : Int => I64 x)) (G' := (fun x : Expr × Int => Expr.ok x.1 ∧ (fun x : Int => I64 x) x.2)) rfl (by kernel_rfl) (ro_i64 Try.underlying2 n) (rf_cons (o' := 9) (f := Expr.cl) (f' := (fun x : Int => [(PV.v (.int .i64 x))])) (G := Expr.ok) (G' := (fun x : Int => I64 x)) rfl (by kernel_rfl) (ro_Expr n) (rf_last (f := (fun x : Int => [(PV.v (.int .i64 x))])) (G := (fun x : Int => I64 x)) rfl (by kernel_rfl) (ro_i64 Try.underlying3 n))))))).imp fun x ⟨y, hy, hg⟩ => by
 subst hy
 exact ⟨hg.1, hg.2.1, hg.2.2.1, hg.2.2.2.1, hg.2.2.2.2⟩) (Nat.le_succ n)
theorem ro_Input (n : Nat) : RO Try.prog 96 Input.cl Input.ok n := RO.down ((ro_struct (f := (fun x : ByteArray × Int × Int × Int => (fun x : ByteArray => [(PV.v (.string x))]) x.1 ++ (fun x : Int × Int × Int => (fun x : Int => [(PV.v (.int .i64 x))]) x.1 ++ (fun x : Int × Int => (fun x : Int => [(PV.v (.int .i64 x))]) x.1 ++ (fun x : Int => [(PV.v (.int .i64 x))]) x.2) x.2) x.2)) (G := (fun x : ByteArray × Int × Int × Int => (fun x : ByteArray => ByteArray.size x ≤ 140737488351232) x.1 ∧ (fun x : Int × Int × Int => (fun x : Int => I64 x) x.1 ∧ (fun x : Int × Int => (fun x : Int => I64 x) x.1 ∧ (fun x : Int => I64 x) x.2) x.2) x.2)) (fun y : ByteArray × Int × Int × Int => (⟨y.1, y.2.1, y.2.2.1, y.2.2.2⟩ : Input)) (fun _ => rfl) Try.underlying96 (rf_cons (o' := 1) (f := (fun x : ByteArray => [(PV.v (.string x))])) (f' := (fun x : Int × Int × Int => (fun x : Int => [(PV.v (.int .i64 x))]) x.1 ++ (fun x : Int × Int => (fun x : Int => [(PV.v (.int .i64 x))]) x.1 ++ (fun x : Int => [(PV.v (.int .i64 x))]) x.2) x.2)) (G := (fun x : ByteArray => ByteArray.size x ≤ 140737488351232)) (G' := (fun x : Int × Int × Int => (fun x : Int => I64 x) x.1 ∧ (fun x : Int × Int => (fun x : Int => I64 x) x.1 ∧ (fun x : Int => I64 x) x.2) x.2)) rfl (by kernel_rfl) (ro_str Try.underlying9 n) (rf_cons (o' := 2) (f := (fun x : Int => [(PV.v (.int .i64 x))])) (f' := (fun x : Int × Int => (fun x : Int => [(PV.v (.int .i64 x))]) x.1 ++ (fun x : Int => [(PV.v (.int .i64 x))]) x.2)) (G := (fun x : Int => I64 x)) (G' := (fun x : Int × Int => (fun x : Int => I64 x) x.1 ∧ (fun x : Int => I64 x) x.2)) rfl (by kernel_rfl) (ro_i64 Try.underlying2 n) (rf_cons (o' := 3) (f := (fun x : Int => [(PV.v (.int .i64 x))])) (f' := (fun x : Int => [(PV.v (.int .i64 x))])) (G := (fun x : Int => I64 x)) (G' := (fun x : Int => I64 x)) rfl (by kernel_rfl) (ro_i64 Try.underlying2 n) (rf_last (f := (fun x : Int => [(PV.v (.int .i64 x))])) (G := (fun x : Int => I64 x)) rfl (by kernel_rfl) (ro_i64 Try.underlying3 n)))))).imp fun x ⟨y, hy, hg⟩ => by
 subst hy
 exact ⟨hg.1, hg.2.1, hg.2.2.1, hg.2.2.2⟩) (Nat.le_succ n)
theorem ro_Flow (n : Nat) : RO Try.prog 41 Flow.cl Flow.ok n := RO.down ((ro_struct (f := (fun x : ByteArray × Expr × Int => (fun x : ByteArray => [(PV.v (.string x))]) x.1 ++ (fun x : Expr × Int => Expr.cl x.1 ++ (fun x : Int => [(PV.v (.int .i64 x))]) x.2) x.2)) (G := (fun x : ByteArray × Expr × Int => (fun x : ByteArray => ByteArray.size x ≤ 140737488351232) x.1 ∧ (fun x : Expr × Int => Expr.ok x.1 ∧ (fun x : Int => I64 x) x.2) x.2)) (fun y : ByteArray × Expr × Int => (⟨y.1, y.2.1, y.2.2⟩ : Flow)) (fun _ => rfl) Try.underlying41 (rf_cons (o' := 1) (f := (fun x : ByteArray => [(PV.v (.string x))])) (f' := (fun x : Expr × Int => Expr.cl x.1 ++ (fun x : Int => [(PV.v (.int .i64 x))]) x.2)) (G := (fun x : ByteArray => ByteArray.size x ≤ 140737488351232)) (G' := (fun x : Expr × Int => Expr.ok x.1 ∧ (fun x : Int => I64 x) x.2)) rfl (by kernel_rfl) (ro_str Try.underlying9 n) (rf_cons (o' := 7) (f := Expr.cl) (f' := (fun x : Int => [(PV.v (.int .i64 x))])) (G := Expr.ok) (G' := (fun x : Int => I64 x)) rfl (by kernel_rfl) (ro_Expr n) (rf_last (f := (fun x : Int => [(PV.v (.int .i64 x))])) (G := (fun x : Int => I64 x)) rfl (by kernel_rfl) (ro_i64 Try.underlying3 n))))).imp fun x ⟨y, hy, hg⟩ => by
 subst hy
 exact ⟨hg.1, hg.2.1, hg.2.2⟩) (Nat.le_succ n)
theorem ro_Output (n : Nat) : RO Try.prog 65 Output.cl Output.ok n := RO.down ((ro_struct (f := (fun x : ByteArray × ByteArray × Int × Int => (fun x : ByteArray => [(PV.v (.string x))]) x.1 ++ (fun x : ByteArray × Int × Int => (fun x : ByteArray => [(PV.v (.string x))]) x.1 ++ (fun x : Int × Int => (fun x : Int => [(PV.v (.int .i64 x))]) x.1 ++ (fun x : Int => [(PV.v (.int .i64 x))]) x.2) x.2) x.2)) (G := (fun x : ByteArray × ByteArray × Int × Int => (fun x : ByteArray => ByteArray.size x ≤ 140737488351232) x.1 ∧ (fun x : ByteArray × Int × Int => (fun x : ByteArray => ByteArray.size x ≤ 140737488351232) x.1 ∧ (fun x : Int × Int => (fun x : Int => I64 x) x.1 ∧ (fun x : Int => I64 x) x.2) x.2) x.2)) (fun y : ByteArray × ByteArray × Int × Int => (⟨y.1, y.2.1, y.2.2.1, y.2.2.2⟩ : Output)) (fun _ => rfl) Try.underlying65 (rf_cons (o' := 1) (f := (fun x : ByteArray => [(PV.v (.string x))])) (f' := (fun x : ByteArray × Int × Int => (fun x : ByteArray => [(PV.v (.string x))]) x.1 ++ (fun x : Int × Int => (fun x : Int => [(PV.v (.int .i64 x))]) x.1 ++ (fun x : Int => [(PV.v (.int .i64 x))]) x.2) x.2)) (G := (fun x : ByteArray => ByteArray.size x ≤ 140737488351232)) (G' := (fun x : ByteArray × Int × Int => (fun x : ByteArray => ByteArray.size x ≤ 140737488351232) x.1 ∧ (fun x : Int × Int => (fun x : Int => I64 x) x.1 ∧ (fun x : Int => I64 x) x.2) x.2)) rfl (by kernel_rfl) (ro_str Try.underlying9 n) (rf_cons (o' := 2) (f := (fun x : ByteArray => [(PV.v (.string x))])) (f' := (fun x : Int × Int => (fun x : Int => [(PV.v (.int .i64 x))]) x.1 ++ (fun x : Int => [(PV.v (.int .i64 x))]) x.2)) (G := (fun x : ByteArray => ByteArray.size x ≤ 140737488351232)) (G' := (fun x : Int × Int => (fun x : Int => I64 x) x.1 ∧ (fun x : Int => I64 x) x.2)) rfl (by kernel_rfl) (ro_str Try.underlying9 n) (rf_cons (o' := 3) (f := (fun x : Int => [(PV.v (.int .i64 x))])) (f' := (fun x : Int => [(PV.v (.int .i64 x))])) (G := (fun x : Int => I64 x)) (G' := (fun x : Int => I64 x)) rfl (by kernel_rfl) (ro_i64 Try.underlying2 n) (rf_last (f := (fun x : Int => [(PV.v (.int .i64 x))])) (G := (fun x : Int => I64 x)) rfl (by kernel_rfl) (ro_i64 Try.underlying3 n)))))).imp fun x ⟨y, hy, hg⟩ => by
 subst hy
 exact ⟨hg.1, hg.2.1, hg.2.2.1, hg.2.2.2⟩) (Nat.le_succ n)
theorem ro_Program (n : Nat) : RO Try.prog 27 Program.cl Program.ok n := RO.down ((ro_struct (f := (fun x : (List Node) × (List Input) × (List Flow) × (List Output) => (fun x : (List Node) => [(PV.sl (List.map Node.cl x))]) x.1 ++ (fun x : (List Input) × (List Flow) × (List Output) => (fun x : (List Input) => [(PV.sl (List.map Input.cl x))]) x.1 ++ (fun x : (List Flow) × (List Output) => (fun x : (List Flow) => [(PV.sl (List.map Flow.cl x))]) x.1 ++ (fun x : (List Output) => [(PV.sl (List.map Output.cl x))]) x.2) x.2) x.2)) (G := (fun x : (List Node) × (List Input) × (List Flow) × (List Output) => (fun x : (List Node) => List.length x * 128 ≤ 140737488351232 ∧ ∀ y ∈ x, Node.ok y) x.1 ∧ (fun x : (List Input) × (List Flow) × (List Output) => (fun x : (List Input) => List.length x * 40 ≤ 140737488351232 ∧ ∀ y ∈ x, Input.ok y) x.1 ∧ (fun x : (List Flow) × (List Output) => (fun x : (List Flow) => List.length x * 96 ≤ 140737488351232 ∧ ∀ y ∈ x, Flow.ok y) x.1 ∧ (fun x : (List Output) => List.length x * 48 ≤ 140737488351232 ∧ ∀ y ∈ x, Output.ok y) x.2) x.2) x.2)) (fun y : (List Node) × (List Input) × (List Flow) × (List Output) => (⟨y.1, y.2.1, y.2.2.1, y.2.2.2⟩ : Program)) (fun _ => rfl) Try.underlying27 (rf_cons (o' := 1) (f := (fun x : (List Node) => [(PV.sl (List.map Node.cl x))])) (f' := (fun x : (List Input) × (List Flow) × (List Output) => (fun x : (List Input) => [(PV.sl (List.map Input.cl x))]) x.1 ++ (fun x : (List Flow) × (List Output) => (fun x : (List Flow) => [(PV.sl (List.map Flow.cl x))]) x.1 ++ (fun x : (List Output) => [(PV.sl (List.map Output.cl x))]) x.2) x.2)) (G := (fun x : (List Node) => List.length x * 128 ≤ 140737488351232 ∧ ∀ y ∈ x, Node.ok y)) (G' := (fun x : (List Input) × (List Flow) × (List Output) => (fun x : (List Input) => List.length x * 40 ≤ 140737488351232 ∧ ∀ y ∈ x, Input.ok y) x.1 ∧ (fun x : (List Flow) × (List Output) => (fun x : (List Flow) => List.length x * 96 ≤ 140737488351232 ∧ ∀ y ∈ x, Flow.ok y) x.1 ∧ (fun x : (List Output) => List.length x * 48 ≤ 140737488351232 ∧ ∀ y ∈ x, Output.ok y) x.2) x.2)) rfl (by kernel_rfl) (RO.down (ro_sl (B := 128) (sz := 10) Try.underlying22 (by kernel_rfl) (by kernel_rfl) (fun _ => rfl) (ro_Node n)) (Nat.le_succ _)) (rf_cons (o' := 2) (f := (fun x : (List Input) => [(PV.sl (List.map Input.cl x))])) (f' := (fun x : (List Flow) × (List Output) => (fun x : (List Flow) => [(PV.sl (List.map Flow.cl x))]) x.1 ++ (fun x : (List Output) => [(PV.sl (List.map Output.cl x))]) x.2)) (G := (fun x : (List Input) => List.length x * 40 ≤ 140737488351232 ∧ ∀ y ∈ x, Input.ok y)) (G' := (fun x : (List Flow) × (List Output) => (fun x : (List Flow) => List.length x * 96 ≤ 140737488351232 ∧ ∀ y ∈ x, Flow.ok y) x.1 ∧ (fun x : (List Output) => List.length x * 48 ≤ 140737488351232 ∧ ∀ y ∈ x, Output.ok y) x.2)) rfl (by kernel_rfl) (RO.down (ro_sl (B := 40) (sz := 4) Try.underlying23 (by kernel_rfl) (by kernel_rfl) (fun _ => rfl) (ro_Input n)) (Nat.le_succ _)) (rf_cons (o' := 3) (f := (fun x : (List Flow) => [(PV.sl (List.map Flow.cl x))])) (f' := (fun x : (List Output) => [(PV.sl (List.map Output.cl x))])) (G := (fun x : (List Flow) => List.length x * 96 ≤ 140737488351232 ∧ ∀ y ∈ x, Flow.ok y)) (G' := (fun x : (List Output) => List.length x * 48 ≤ 140737488351232 ∧ ∀ y ∈ x, Output.ok y)) rfl (by kernel_rfl) (RO.down (ro_sl (B := 96) (sz := 8) Try.underlying24 (by kernel_rfl) (by kernel_rfl) (fun _ => rfl) (ro_Flow n)) (Nat.le_succ _)) (rf_last (f := (fun x : (List Output) => [(PV.sl (List.map Output.cl x))])) (G := (fun x : (List Output) => List.length x * 48 ≤ 140737488351232 ∧ ∀ y ∈ x, Output.ok y)) rfl (by kernel_rfl) (RO.down (ro_sl (B := 48) (sz := 4) Try.underlying25 (by kernel_rfl) (by kernel_rfl) (fun _ => rfl) (ro_Output n)) (Nat.le_succ _))))))).imp fun x ⟨y, hy, hg⟩ => by
 subst hy
 exact ⟨hg.1, hg.2.1, hg.2.2.1, hg.2.2.2⟩) (Nat.le_succ n)
end Go.Proofs.Ytohmmfimedgccaa.E
end
section
namespace Go.Proofs.Ytohmmfimedgccaa.checkFinds
open Go.ChangeShapes Go.WideShapes Go.ChangeAt Go.RowKit
theorem own : ownKnob Try.prog.godebug = none := by kernel_rfl
theorem laidOut : laidOutB Try.prog = true := by kernel_rfl
set_option maxRecDepth 100000 in
theorem lifted (os : Os) (started : os.Started) (H : Type) (enc : TypeId × Value → H) :
  ReturnsInHanded {} Try.checked os 4 .any (Rows.checkFindsSpec.pre6 enc Try.prog Try.f4 Rows.checkFindsRow.domain false) (Rows.checkFindsSpec.post enc Try.prog Try.f4 false true false false) := by
 refine returnsInHanded_of_change_sized (C := Try.checked) own started (by kernel_rfl) Try.func4
  (ChangeSpec.witness6 (enc := enc) (C := Try.checked) false ⟨#[], #[.agg #[.slice none 0 0, .slice none 0 0, .slice none 0 0, .slice none 0 0]], []⟩ 8 (by kernel_rfl) (by kernel_rfl) (by kernel_rfl) (by kernel_rfl)) ?_
 intro W base args ds gs before hval0 hW hcnd hsz0 _
 have hval : ∀ (j : Nat) t v, Try.f4.params[j]? = some t → args[j]? = some v → Value.okWide Try.prog W .any base t v := hval0
 have hW' := hW
 obtain ⟨p, q, hA0, hV, rfl, hfz, hnd⟩ := hW
 have hA : DataW.TrodAll enc Try.prog W 0 (fun _ => true) true Try.f4.params.toList args.toList ds p := hA0
 rw [Try.params4] at hA hval
 obtain ⟨v0, vs0, d0, ds0, p0, q0, hargs, rfl, rfl, h0, r0⟩ := trodAll_cons hA
 obtain ⟨rfl, rfl, rfl⟩ := trodAll_nil r0
 obtain rfl : args = #[v0] := by cases args; simp_all
 obtain ⟨rfl, rfl⟩ := trodVars_none hV
 have k0 := h0
 have lt0 : ∀ x ∈ p0, x.block < W.heap.size := by obtain ⟨m, hm⟩ := k0; exact DataW.trod_lt m _ _ _ hm
 obtain ⟨x0, y0, z0⟩ := E.arg_agg Try.underlying27 (hval 0 27 v0 rfl rfl) E.ro_Program h0 (fun x hx => of_decide_eq_true (List.all_eq_true.1 hsz0 x (DataW.weights_mem_each (j := 0) rfl rfl x hx)))
 clear hA0 hval0 hsz0
 refine (E.law_calls Try.func4 rfl rfl (fun K hK => E.s_finds x0 true (E.v_finds x0 z0) [] K hK) ⟨rfl, fun i x p hx hp => by match i, hx, hp with | 0, hx, hp => obtain rfl := Option.some.inj hx; obtain rfl := Option.some.inj hp; exact y0 | i + 1, hx, _ => simp at hx⟩).mono fun e W' ⟨he, bel⟩ => ?_
 subst he
 exact ⟨_, rfl, _, _, _, [], _, [], hW', trodAll_mk1 (shut_bool Try.underlying4 _), (trodAll_cons_mk (Below.trod laidOut (by kernel_rfl) (of_decide_eq_true (by kernel_rfl)) k0 bel lt0) trodAll_mk0), rfl, bel.frame _, fun h => by cases h⟩
theorem over : Rows.checkFindsRow.holds Try.pinned (OpenSpec.ofChange Rows.checkFindsSpec) :=
 OpenClaim.holds_of_wide 4 Try.f4 rfl rfl rfl rfl rfl rfl rfl ⟨rfl, rfl, rfl, rfl, rfl⟩ rfl rfl rfl rfl rfl (by kernel_rfl) Try.func4 (by kernel_rfl)
  (of_decide_eq_true (by kernel_rfl)) (by unfold Func.isWrapper; first | (rw [if_pos (by decide +kernel)]; kernel_rfl) | (rw [if_neg (by decide +kernel)]; exact ⟨rfl, rfl⟩))
  (fun os started H enc _ => lifted os started H enc)
theorem proved : Rows.CheckFindsSaid := over
end Go.Proofs.Ytohmmfimedgccaa.checkFinds
namespace Go.Proofs.Ytohmmfimedgccaa
theorem checkFinds_holds : Rows.CheckFindsSaid := checkFinds.proved
end Go.Proofs.Ytohmmfimedgccaa
end
